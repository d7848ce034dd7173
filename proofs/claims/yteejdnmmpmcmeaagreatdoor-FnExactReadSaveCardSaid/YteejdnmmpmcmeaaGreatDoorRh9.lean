/-
  Both packages' ReadSave return the house and the number that a text is the saved text of. Conditions: the text is at most 2^20 bytes long, the library's table is laid.
-/
import Derived.Test.YteejdnmmpmcmeaaGreatDoorRh6
import Derived.Test.YteejdnmmpmcmeaaGreatDoorRh7
import Derived.Test.YteejdnmmpmcmeaaGreatDoorQ3
import Derived.Test.YteejdnmmpmcmeaaGreatDoorQ4
/- @merged -/
namespace Go.Proofs.YteejdnmmpmcmeaaGreatDoor
open Go.RowKit
set_option linter.unusedVariables false
set_option linter.unusedSimpArgs false

/-- what ReadSave hands back -/
def RetHNB (r : HouseD) (n : Int) (b : Bool) (w : World) (e : Ending) (w' : World) : Prop :=
  ∃ p c q d, e = .returned (.tuple #[houseV r p r.cells.length c q r.vs.length d, .int .i64 n, .bool b]) ∧ w'.ownsRow w.heap.size TI 1 (.slice p r.cells.length c) r.cells.length (ivs r.cells) ∧
    w'.ownsRow w.heap.size TVis 4 (.slice q r.vs.length d) r.vs.length (r.vs.flatMap visitCells) ∧ Ext w w'
def RetSave (o : Option (HouseD × Int)) (w : World) (e : Ending) (w' : World) : Prop := RetHNB ((o.map (·.1)).getD houseZero) ((o.map (·.2)).getD 0) o.isSome w e w'
theorem ret_save_no {o : Option (HouseD × Int)} {w w' : World} (h : o = none) (hx : Ext w w') : RetSave o w (.returned (.tuple #[.agg #[.int .i64 0, .int .i64 0, .slice none 0 0, .int .i64 0, .int .i64 0, .int .i64 0, .int .i64 0, .int .i64 0, .int .i64 0, .slice none 0 0], .int .i64 0, .bool false])) w' := by
  subst h; exact ⟨none, 0, none, 0, rfl, World.ownsRow_nil _ _ _ _, World.ownsRow_nil _ _ _ _, hx⟩
theorem ret_save_yes {o : Option (HouseD × Int)} {W D f s pr cp ck bk x : Int} {xs : List Int} {vs : List Visit4} {w w' : World} {p q : Option Addr} {c d : Nat} (h : o = some (⟨W, D, xs, f, s, pr, cp, ck, bk, vs⟩, x))
    (ho : w'.ownsRow w.heap.size TI 1 (.slice p xs.length c) xs.length (ivs xs)) (hv : w'.ownsRow w.heap.size TVis 4 (.slice q vs.length d) vs.length (vs.flatMap visitCells)) (hx : Ext w w') :
    RetSave o w (.returned (.tuple #[.agg #[.int .i64 W, .int .i64 D, .slice p xs.length c, .int .i64 f, .int .i64 s, .int .i64 pr, .int .i64 cp, .int .i64 ck, .int .i64 bk, .slice q vs.length d], .int .i64 x, .bool true])) w' := by
  subst h; exact ⟨p, c, q, d, rfl, ho, hv, hx⟩
theorem cutFst_lenB (c : UInt8) : ∀ l : List UInt8, (cutFst c l).length ≤ l.length ∧ (cutSnd c l).length ≤ l.length := by
  intro l
  induction l with
  | nil => simp [cutFst, cutSnd]
  | cons x xs ih =>
    simp only [cutFst, cutSnd]
    split <;> simp <;> omega
set_option maxRecDepth 100000 in
set_option maxHeartbeats 8000000 in
theorem implReadSave (l : List UInt8) (w : World) (hs : l.length ≤ 1048576) (hE : Env w) : Calls Tryz.prog 44 #[str l] w (RetSave (readSave l) w) := by
  have HC : Hid (∀ (q : List UInt8) (c : UInt8), q.length ≤ 1048576 → ∀ w, Env w → Calls Tryz.prog 96 #[str q, .string ⟨#[c]⟩] w fun e w' => e = .returned (.tuple #[str (cutFst c q), str (cutSnd c q), .bool (Lib.cut q [c]).2.2]) ∧ Ext w w') := fun q c hq w hE => cut_any' q c w (by omega) hE
  obtain ⟨fs, hfs⟩ : ∃ x, cutFst 124 l = x := ⟨_, rfl⟩
  obtain ⟨rs, hrs⟩ : ∃ x, cutSnd 124 l = x := ⟨_, rfl⟩
  have hfl : fs.length ≤ 1048576 := by rw [← hfs]; exact Nat.le_trans (cutFst_lenB 124 l).1 hs
  have hrl : rs.length ≤ 1048576 := by rw [← hrs]; exact Nat.le_trans (cutFst_lenB 124 l).2 hs
  have HC1 := Lib.hid (HC.out l 124 hs)
  rw [hfs, hrs] at HC1
  obtain ⟨hh, hhh⟩ : ∃ x, cutFst 35 rs = x := ⟨_, rfl⟩
  have hhl : hh.length ≤ 1048576 := by rw [← hhh]; exact Nat.le_trans (cutFst_lenB 35 rs).1 hrl
  have HC2 := Lib.hid (HC.out rs 35 hrl)
  rw [hhh] at HC2
  generalize (Lib.cut l [124]).2.2 = k1 at HC1
  generalize (Lib.cut rs [35]).2.2 = k2 at HC2
  generalize cutSnd 35 rs = rr at HC2
  have HRV : Hid (readSave l = match readL 2 fs, readHouse hh with | some n, some h => if saveText h n = l then some (h, n) else none | _, _ => none) := by show _ = _; unfold readSave; rw [hfs, hrs, hhh]; rfl
  obtain ⟨x, hx⟩ : ∃ x, (readL 2 fs).getD 0 = x := ⟨_, rfl⟩
  obtain ⟨b2, hb2⟩ : ∃ x, (readL 2 fs).isSome = x := ⟨_, rfl⟩
  have HX0 := Lib.hid hx
  have HB2 := Lib.hid hb2
  have HRN : Hid (∀ w, Calls Tryz.prog 97 #[str fs, .int .i64 2] w fun e w' => e = .returned (.tuple #[.int .i64 x, .bool b2]) ∧ w = w') := by
    intro w
    subst hx; subst hb2
    exact readNum_str fs 2 (by omega) (by unfold maxLen; omega) w
  have HE := Lib.hid hE
  obtain ⟨⟨W, D, xs, f, s, pr, cp, ck, bk, vs⟩, hH⟩ : ∃ H : HouseD, (readHouse hh).getD houseZero = H := ⟨_, rfl⟩
  obtain ⟨b, hb⟩ : ∃ b : Bool, (readHouse hh).isSome = b := ⟨_, rfl⟩
  have HB := Lib.hid hb
  have HH := Lib.hid hH
  have HRH : Hid (∀ w, Env w → Calls Tryz.prog 39 #[str hh] w fun e w' => ∃ p c q d, e = .returned (.tuple #[.agg #[.int .i64 W, .int .i64 D, .slice p xs.length c, .int .i64 f, .int .i64 s, .int .i64 pr, .int .i64 cp, .int .i64 ck, .int .i64 bk, .slice q vs.length d], .bool b]) ∧ w'.ownsRow w.heap.size TI 1 (.slice p xs.length c) xs.length (ivs xs) ∧ w'.ownsRow w.heap.size TVis 4 (.slice q vs.length d) vs.length (vs.flatMap visitCells) ∧ Ext w w') := by
    intro w hE
    have h := implReadHouse hh w hhl hE
    rw [hH, hb] at h
    exact h
  clear HC hfs hrs hhh hx hb2 hE hb hH
  go_enter Tryz.func44, Tryz.ntmps44
  go_wp2_with fail
  refine (HC1.out _ (HE.out.ext (((Mem.start w).blkNew THouse #[.int .i64 0, .int .i64 0, .slice none 0 0, .int .i64 0, .int .i64 0, .int .i64 0, .int .i64 0, .int .i64 0, .int .i64 0, .slice none 0 0] (w.heap.size) (by simp))).ext)).mono ?_
  rintro e w1 ⟨rfl, hx1⟩
  have M1 := Lib.hid (show Mem w w1 [blkI w.heap.size (w.heap.size) THouse #[.int .i64 0, .int .i64 0, .slice none 0 0, .int .i64 0, .int .i64 0, .int .i64 0, .int .i64 0, .int .i64 0, .int .i64 0, .slice none 0 0]] from (((Mem.start w).blkNew THouse #[.int .i64 0, .int .i64 0, .slice none 0 0, .int .i64 0, .int .i64 0, .int .i64 0, .int .i64 0, .int .i64 0, .int .i64 0, .slice none 0 0] (w.heap.size) (by simp))).adv hx1)
  have lt1_0 : w.heap.size < w1.heap.size := (M1.out.lt (i := 0) rfl rfl).2
  clear hx1
  go_wp2_with fail
  refine (HC2.out _ (HE.out.ext (M1.out).ext)).mono ?_
  rintro e w2 ⟨rfl, hx2⟩
  have M2 := Lib.hid (show Mem w w2 [blkI w.heap.size (w.heap.size) THouse #[.int .i64 0, .int .i64 0, .slice none 0 0, .int .i64 0, .int .i64 0, .int .i64 0, .int .i64 0, .int .i64 0, .int .i64 0, .slice none 0 0]] from (M1.out).adv hx2)
  clear M1
  clear lt1_0
  have lt2_0 : w.heap.size < w2.heap.size := (M2.out.lt (i := 0) rfl rfl).2
  clear hx2
  go_wp2_with fail
  refine (HRN.out _).mono ?_
  rintro e w2' ⟨rfl, rfl⟩
  cases b2 with
  | false =>
    have hno : Hid (readSave l = none) := by
      show _ = _
      rw [HRV.out]
      have := HB2.out
      cases hq : readL 2 fs with
      | none => rfl
      | some z => rw [hq] at this; simp at this
    have z0 : w2.cell? ⟨w.heap.size, 0, none⟩ = some (.int .i64 0) := (M2.out.blk (i := 0) rfl).cell 0
    have zf0 : w2.frozen? ⟨w.heap.size, 0, none⟩ = false := (M2.out.blk (i := 0) rfl).frozen 0
    have z1 : w2.cell? ⟨w.heap.size, 1, none⟩ = some (.int .i64 0) := (M2.out.blk (i := 0) rfl).cell 1
    have zf1 : w2.frozen? ⟨w.heap.size, 1, none⟩ = false := (M2.out.blk (i := 0) rfl).frozen 1
    have z2 : w2.cell? ⟨w.heap.size, 2, none⟩ = some (.slice none 0 0) := (M2.out.blk (i := 0) rfl).cell 2
    have zf2 : w2.frozen? ⟨w.heap.size, 2, none⟩ = false := (M2.out.blk (i := 0) rfl).frozen 2
    have z3 : w2.cell? ⟨w.heap.size, 3, none⟩ = some (.int .i64 0) := (M2.out.blk (i := 0) rfl).cell 3
    have zf3 : w2.frozen? ⟨w.heap.size, 3, none⟩ = false := (M2.out.blk (i := 0) rfl).frozen 3
    have z4 : w2.cell? ⟨w.heap.size, 4, none⟩ = some (.int .i64 0) := (M2.out.blk (i := 0) rfl).cell 4
    have zf4 : w2.frozen? ⟨w.heap.size, 4, none⟩ = false := (M2.out.blk (i := 0) rfl).frozen 4
    have z5 : w2.cell? ⟨w.heap.size, 5, none⟩ = some (.int .i64 0) := (M2.out.blk (i := 0) rfl).cell 5
    have zf5 : w2.frozen? ⟨w.heap.size, 5, none⟩ = false := (M2.out.blk (i := 0) rfl).frozen 5
    have z6 : w2.cell? ⟨w.heap.size, 6, none⟩ = some (.int .i64 0) := (M2.out.blk (i := 0) rfl).cell 6
    have zf6 : w2.frozen? ⟨w.heap.size, 6, none⟩ = false := (M2.out.blk (i := 0) rfl).frozen 6
    have z7 : w2.cell? ⟨w.heap.size, 7, none⟩ = some (.int .i64 0) := (M2.out.blk (i := 0) rfl).cell 7
    have zf7 : w2.frozen? ⟨w.heap.size, 7, none⟩ = false := (M2.out.blk (i := 0) rfl).frozen 7
    have z8 : w2.cell? ⟨w.heap.size, 8, none⟩ = some (.int .i64 0) := (M2.out.blk (i := 0) rfl).cell 8
    have zf8 : w2.frozen? ⟨w.heap.size, 8, none⟩ = false := (M2.out.blk (i := 0) rfl).frozen 8
    have z9 : w2.cell? ⟨w.heap.size, 9, none⟩ = some (.slice none 0 0) := (M2.out.blk (i := 0) rfl).cell 9
    have zf9 : w2.frozen? ⟨w.heap.size, 9, none⟩ = false := (M2.out.blk (i := 0) rfl).frozen 9
    have M3 := Lib.hid (show Mem w ((w2.setCell ⟨w.heap.size, 0, none⟩ (.int .i64 0)).setCell ⟨w.heap.size, 1, none⟩ (.int .i64 0)) [blkI w.heap.size (w.heap.size) THouse #[.int .i64 0, .int .i64 0, .slice none 0 0, .int .i64 0, .int .i64 0, .int .i64 0, .int .i64 0, .int .i64 0, .int .i64 0, .slice none 0 0]] from ((((M2.out).store (i := 0) rfl 0 (.int .i64 0))).store (i := 0) rfl 1 (.int .i64 0)))
    have M4 := Lib.hid (show Mem w ((((w2.setCell ⟨w.heap.size, 0, none⟩ (.int .i64 0)).setCell ⟨w.heap.size, 1, none⟩ (.int .i64 0)).setCell ⟨w.heap.size, 2, none⟩ (.slice none 0 0)).setCell ⟨w.heap.size, 3, none⟩ (.int .i64 0)) [blkI w.heap.size (w.heap.size) THouse #[.int .i64 0, .int .i64 0, .slice none 0 0, .int .i64 0, .int .i64 0, .int .i64 0, .int .i64 0, .int .i64 0, .int .i64 0, .slice none 0 0]] from ((((M3.out).store (i := 0) rfl 2 (.slice none 0 0))).store (i := 0) rfl 3 (.int .i64 0)))
    have M5 := Lib.hid (show Mem w ((((((w2.setCell ⟨w.heap.size, 0, none⟩ (.int .i64 0)).setCell ⟨w.heap.size, 1, none⟩ (.int .i64 0)).setCell ⟨w.heap.size, 2, none⟩ (.slice none 0 0)).setCell ⟨w.heap.size, 3, none⟩ (.int .i64 0)).setCell ⟨w.heap.size, 4, none⟩ (.int .i64 0)).setCell ⟨w.heap.size, 5, none⟩ (.int .i64 0)) [blkI w.heap.size (w.heap.size) THouse #[.int .i64 0, .int .i64 0, .slice none 0 0, .int .i64 0, .int .i64 0, .int .i64 0, .int .i64 0, .int .i64 0, .int .i64 0, .slice none 0 0]] from ((((M4.out).store (i := 0) rfl 4 (.int .i64 0))).store (i := 0) rfl 5 (.int .i64 0)))
    have M6 := Lib.hid (show Mem w ((((((((w2.setCell ⟨w.heap.size, 0, none⟩ (.int .i64 0)).setCell ⟨w.heap.size, 1, none⟩ (.int .i64 0)).setCell ⟨w.heap.size, 2, none⟩ (.slice none 0 0)).setCell ⟨w.heap.size, 3, none⟩ (.int .i64 0)).setCell ⟨w.heap.size, 4, none⟩ (.int .i64 0)).setCell ⟨w.heap.size, 5, none⟩ (.int .i64 0)).setCell ⟨w.heap.size, 6, none⟩ (.int .i64 0)).setCell ⟨w.heap.size, 7, none⟩ (.int .i64 0)) [blkI w.heap.size (w.heap.size) THouse #[.int .i64 0, .int .i64 0, .slice none 0 0, .int .i64 0, .int .i64 0, .int .i64 0, .int .i64 0, .int .i64 0, .int .i64 0, .slice none 0 0]] from ((((M5.out).store (i := 0) rfl 6 (.int .i64 0))).store (i := 0) rfl 7 (.int .i64 0)))
    have M7 := Lib.hid (show Mem w ((((((((((w2.setCell ⟨w.heap.size, 0, none⟩ (.int .i64 0)).setCell ⟨w.heap.size, 1, none⟩ (.int .i64 0)).setCell ⟨w.heap.size, 2, none⟩ (.slice none 0 0)).setCell ⟨w.heap.size, 3, none⟩ (.int .i64 0)).setCell ⟨w.heap.size, 4, none⟩ (.int .i64 0)).setCell ⟨w.heap.size, 5, none⟩ (.int .i64 0)).setCell ⟨w.heap.size, 6, none⟩ (.int .i64 0)).setCell ⟨w.heap.size, 7, none⟩ (.int .i64 0)).setCell ⟨w.heap.size, 8, none⟩ (.int .i64 0)).setCell ⟨w.heap.size, 9, none⟩ (.slice none 0 0)) [blkI w.heap.size (w.heap.size) THouse #[.int .i64 0, .int .i64 0, .slice none 0 0, .int .i64 0, .int .i64 0, .int .i64 0, .int .i64 0, .int .i64 0, .int .i64 0, .slice none 0 0]] from ((((M6.out).store (i := 0) rfl 8 (.int .i64 0))).store (i := 0) rfl 9 (.slice none 0 0)))
    go_wp2
    clear z0 zf0 z1 zf1 z2 zf2 z3 zf3 z4 zf4 z5 zf5 z6 zf6 z7 zf7 z8 zf8 z9 zf9 lt2_0
    have M8 := Lib.hid (show Mem w ((((((((((w2.setCell ⟨w.heap.size, 0, none⟩ (.int .i64 0)).setCell ⟨w.heap.size, 1, none⟩ (.int .i64 0)).setCell ⟨w.heap.size, 2, none⟩ (.slice none 0 0)).setCell ⟨w.heap.size, 3, none⟩ (.int .i64 0)).setCell ⟨w.heap.size, 4, none⟩ (.int .i64 0)).setCell ⟨w.heap.size, 5, none⟩ (.int .i64 0)).setCell ⟨w.heap.size, 6, none⟩ (.int .i64 0)).setCell ⟨w.heap.size, 7, none⟩ (.int .i64 0)).setCell ⟨w.heap.size, 8, none⟩ (.int .i64 0)).setCell ⟨w.heap.size, 9, none⟩ (.slice none 0 0)) [blkI w.heap.size (w.heap.size) THouse #[.int .i64 0, .int .i64 0, .slice none 0 0, .int .i64 0, .int .i64 0, .int .i64 0, .int .i64 0, .int .i64 0, .int .i64 0, .slice none 0 0]] from M7.out)
    generalize hwz : World.setCell _ _ _ = wz
    rw [hwz] at M8
    clear hwz M2 M3 M4 M5 M6 M7
    have y0 : wz.cell? ⟨w.heap.size, 0, none⟩ = some (.int .i64 0) := (M8.out.blk (i := 0) rfl).cell 0
    have y1 : wz.cell? ⟨w.heap.size, 1, none⟩ = some (.int .i64 0) := (M8.out.blk (i := 0) rfl).cell 1
    have y2 : wz.cell? ⟨w.heap.size, 2, none⟩ = some (.slice none 0 0) := (M8.out.blk (i := 0) rfl).cell 2
    have y3 : wz.cell? ⟨w.heap.size, 3, none⟩ = some (.int .i64 0) := (M8.out.blk (i := 0) rfl).cell 3
    have y4 : wz.cell? ⟨w.heap.size, 4, none⟩ = some (.int .i64 0) := (M8.out.blk (i := 0) rfl).cell 4
    have y5 : wz.cell? ⟨w.heap.size, 5, none⟩ = some (.int .i64 0) := (M8.out.blk (i := 0) rfl).cell 5
    have y6 : wz.cell? ⟨w.heap.size, 6, none⟩ = some (.int .i64 0) := (M8.out.blk (i := 0) rfl).cell 6
    have y7 : wz.cell? ⟨w.heap.size, 7, none⟩ = some (.int .i64 0) := (M8.out.blk (i := 0) rfl).cell 7
    have y8 : wz.cell? ⟨w.heap.size, 8, none⟩ = some (.int .i64 0) := (M8.out.blk (i := 0) rfl).cell 8
    have y9 : wz.cell? ⟨w.heap.size, 9, none⟩ = some (.slice none 0 0) := (M8.out.blk (i := 0) rfl).cell 9
    exact bodyPost_ret (v := .tuple #[.agg #[.int .i64 0, .int .i64 0, .slice none 0 0, .int .i64 0, .int .i64 0, .int .i64 0, .int .i64 0, .int .i64 0, .int .i64 0, .slice none 0 0], .int .i64 0, .bool false]) (by simp [results, Tryz.results44, go_sem, *]) rfl (ret_save_no hno.out M8.out.ext)
  | true =>
    have hn : Hid (readL 2 fs = some x) := by
      show _ = _
      have h1 := HB2.out; have h2 := HX0.out
      cases hq : readL 2 fs with
      | none => rw [hq] at h1; simp at h1
      | some z => rw [hq] at h2; simpa using h2
    go_wp2_with fail
    refine (HRH.out _ (HE.out.ext (M2.out).ext)).mono ?_
    rintro e w3 ⟨p, c, q, d, rfl, oc, os, hx3⟩
    have M3 := Lib.hid (show Mem w w3 [ownI w.heap.size TI 1 (p) (xs.length) (c) (ivs xs), ownI w.heap.size TVis 4 (q) (vs.length) (d) (vs.flatMap visitCells), blkI w.heap.size (w.heap.size) THouse #[.int .i64 0, .int .i64 0, .slice none 0 0, .int .i64 0, .int .i64 0, .int .i64 0, .int .i64 0, .int .i64 0, .int .i64 0, .slice none 0 0]] from (M2.out).own2s hx3 oc os (Nat.le_refl _) (by decide))
    clear M2
    clear lt2_0
    have lt3_2 : w.heap.size < w3.heap.size := (M3.out.lt (i := 2) rfl rfl).2
    clear hx3 oc os
    go_upto_region 7 with fail
    have M4 := Lib.hid (show Mem w (w3.alloc (.cells #[.int .i64 W, .int .i64 D, .slice p xs.length c, .int .i64 f, .int .i64 s, .int .i64 pr, .int .i64 cp, .int .i64 ck, .int .i64 bk, .slice q vs.length d] THouse)) [blkI w.heap.size (w3.heap.size) THouse #[.int .i64 W, .int .i64 D, .slice p xs.length c, .int .i64 f, .int .i64 s, .int .i64 pr, .int .i64 cp, .int .i64 ck, .int .i64 bk, .slice q vs.length d], ownI w.heap.size TI 1 (p) (xs.length) (c) (ivs xs), ownI w.heap.size TVis 4 (q) (vs.length) (d) (vs.flatMap visitCells), blkI w.heap.size (w.heap.size) THouse #[.int .i64 0, .int .i64 0, .slice none 0 0, .int .i64 0, .int .i64 0, .int .i64 0, .int .i64 0, .int .i64 0, .int .i64 0, .slice none 0 0]] from ((M3.out).blkNew THouse #[.int .i64 W, .int .i64 D, .slice p xs.length c, .int .i64 f, .int .i64 s, .int .i64 pr, .int .i64 cp, .int .i64 ck, .int .i64 bk, .slice q vs.length d] (w3.heap.size) (by simp)))
    generalize (w3.alloc (.cells #[.int .i64 W, .int .i64 D, .slice p xs.length c, .int .i64 f, .int .i64 s, .int .i64 pr, .int .i64 cp, .int .i64 ck, .int .i64 bk, .slice q vs.length d] THouse)) = w5 at M4 ⊢
    clear M3
    clear lt3_2
    have lt4_0 : w3.heap.size < w5.heap.size := (M4.out.lt (i := 0) rfl rfl).2
    have lt4_3 : w.heap.size < w5.heap.size := (M4.out.lt (i := 3) rfl rfl).2
    cases b with
    | false =>
      have hno : Hid (readSave l = none) := by
        show _ = _
        rw [HRV.out, hn.out]
        have := HB.out
        cases hq : readHouse hh with
        | none => rfl
        | some z => rw [hq] at this; simp at this
      have z0 : w5.cell? ⟨w.heap.size, 0, none⟩ = some (.int .i64 0) := (M4.out.blk (i := 3) rfl).cell 0
      have zf0 : w5.frozen? ⟨w.heap.size, 0, none⟩ = false := (M4.out.blk (i := 3) rfl).frozen 0
      have z1 : w5.cell? ⟨w.heap.size, 1, none⟩ = some (.int .i64 0) := (M4.out.blk (i := 3) rfl).cell 1
      have zf1 : w5.frozen? ⟨w.heap.size, 1, none⟩ = false := (M4.out.blk (i := 3) rfl).frozen 1
      have z2 : w5.cell? ⟨w.heap.size, 2, none⟩ = some (.slice none 0 0) := (M4.out.blk (i := 3) rfl).cell 2
      have zf2 : w5.frozen? ⟨w.heap.size, 2, none⟩ = false := (M4.out.blk (i := 3) rfl).frozen 2
      have z3 : w5.cell? ⟨w.heap.size, 3, none⟩ = some (.int .i64 0) := (M4.out.blk (i := 3) rfl).cell 3
      have zf3 : w5.frozen? ⟨w.heap.size, 3, none⟩ = false := (M4.out.blk (i := 3) rfl).frozen 3
      have z4 : w5.cell? ⟨w.heap.size, 4, none⟩ = some (.int .i64 0) := (M4.out.blk (i := 3) rfl).cell 4
      have zf4 : w5.frozen? ⟨w.heap.size, 4, none⟩ = false := (M4.out.blk (i := 3) rfl).frozen 4
      have z5 : w5.cell? ⟨w.heap.size, 5, none⟩ = some (.int .i64 0) := (M4.out.blk (i := 3) rfl).cell 5
      have zf5 : w5.frozen? ⟨w.heap.size, 5, none⟩ = false := (M4.out.blk (i := 3) rfl).frozen 5
      have z6 : w5.cell? ⟨w.heap.size, 6, none⟩ = some (.int .i64 0) := (M4.out.blk (i := 3) rfl).cell 6
      have zf6 : w5.frozen? ⟨w.heap.size, 6, none⟩ = false := (M4.out.blk (i := 3) rfl).frozen 6
      have z7 : w5.cell? ⟨w.heap.size, 7, none⟩ = some (.int .i64 0) := (M4.out.blk (i := 3) rfl).cell 7
      have zf7 : w5.frozen? ⟨w.heap.size, 7, none⟩ = false := (M4.out.blk (i := 3) rfl).frozen 7
      have z8 : w5.cell? ⟨w.heap.size, 8, none⟩ = some (.int .i64 0) := (M4.out.blk (i := 3) rfl).cell 8
      have zf8 : w5.frozen? ⟨w.heap.size, 8, none⟩ = false := (M4.out.blk (i := 3) rfl).frozen 8
      have z9 : w5.cell? ⟨w.heap.size, 9, none⟩ = some (.slice none 0 0) := (M4.out.blk (i := 3) rfl).cell 9
      have zf9 : w5.frozen? ⟨w.heap.size, 9, none⟩ = false := (M4.out.blk (i := 3) rfl).frozen 9
      have M5 := Lib.hid (show Mem w ((w5.setCell ⟨w.heap.size, 0, none⟩ (.int .i64 0)).setCell ⟨w.heap.size, 1, none⟩ (.int .i64 0)) [blkI w.heap.size (w3.heap.size) THouse #[.int .i64 W, .int .i64 D, .slice p xs.length c, .int .i64 f, .int .i64 s, .int .i64 pr, .int .i64 cp, .int .i64 ck, .int .i64 bk, .slice q vs.length d], ownI w.heap.size TI 1 (p) (xs.length) (c) (ivs xs), ownI w.heap.size TVis 4 (q) (vs.length) (d) (vs.flatMap visitCells), blkI w.heap.size (w.heap.size) THouse #[.int .i64 0, .int .i64 0, .slice none 0 0, .int .i64 0, .int .i64 0, .int .i64 0, .int .i64 0, .int .i64 0, .int .i64 0, .slice none 0 0]] from ((((M4.out).store (i := 3) rfl 0 (.int .i64 0))).store (i := 3) rfl 1 (.int .i64 0)))
      have M6 := Lib.hid (show Mem w ((((w5.setCell ⟨w.heap.size, 0, none⟩ (.int .i64 0)).setCell ⟨w.heap.size, 1, none⟩ (.int .i64 0)).setCell ⟨w.heap.size, 2, none⟩ (.slice none 0 0)).setCell ⟨w.heap.size, 3, none⟩ (.int .i64 0)) [blkI w.heap.size (w3.heap.size) THouse #[.int .i64 W, .int .i64 D, .slice p xs.length c, .int .i64 f, .int .i64 s, .int .i64 pr, .int .i64 cp, .int .i64 ck, .int .i64 bk, .slice q vs.length d], ownI w.heap.size TI 1 (p) (xs.length) (c) (ivs xs), ownI w.heap.size TVis 4 (q) (vs.length) (d) (vs.flatMap visitCells), blkI w.heap.size (w.heap.size) THouse #[.int .i64 0, .int .i64 0, .slice none 0 0, .int .i64 0, .int .i64 0, .int .i64 0, .int .i64 0, .int .i64 0, .int .i64 0, .slice none 0 0]] from ((((M5.out).store (i := 3) rfl 2 (.slice none 0 0))).store (i := 3) rfl 3 (.int .i64 0)))
      have M7 := Lib.hid (show Mem w ((((((w5.setCell ⟨w.heap.size, 0, none⟩ (.int .i64 0)).setCell ⟨w.heap.size, 1, none⟩ (.int .i64 0)).setCell ⟨w.heap.size, 2, none⟩ (.slice none 0 0)).setCell ⟨w.heap.size, 3, none⟩ (.int .i64 0)).setCell ⟨w.heap.size, 4, none⟩ (.int .i64 0)).setCell ⟨w.heap.size, 5, none⟩ (.int .i64 0)) [blkI w.heap.size (w3.heap.size) THouse #[.int .i64 W, .int .i64 D, .slice p xs.length c, .int .i64 f, .int .i64 s, .int .i64 pr, .int .i64 cp, .int .i64 ck, .int .i64 bk, .slice q vs.length d], ownI w.heap.size TI 1 (p) (xs.length) (c) (ivs xs), ownI w.heap.size TVis 4 (q) (vs.length) (d) (vs.flatMap visitCells), blkI w.heap.size (w.heap.size) THouse #[.int .i64 0, .int .i64 0, .slice none 0 0, .int .i64 0, .int .i64 0, .int .i64 0, .int .i64 0, .int .i64 0, .int .i64 0, .slice none 0 0]] from ((((M6.out).store (i := 3) rfl 4 (.int .i64 0))).store (i := 3) rfl 5 (.int .i64 0)))
      have M8 := Lib.hid (show Mem w ((((((((w5.setCell ⟨w.heap.size, 0, none⟩ (.int .i64 0)).setCell ⟨w.heap.size, 1, none⟩ (.int .i64 0)).setCell ⟨w.heap.size, 2, none⟩ (.slice none 0 0)).setCell ⟨w.heap.size, 3, none⟩ (.int .i64 0)).setCell ⟨w.heap.size, 4, none⟩ (.int .i64 0)).setCell ⟨w.heap.size, 5, none⟩ (.int .i64 0)).setCell ⟨w.heap.size, 6, none⟩ (.int .i64 0)).setCell ⟨w.heap.size, 7, none⟩ (.int .i64 0)) [blkI w.heap.size (w3.heap.size) THouse #[.int .i64 W, .int .i64 D, .slice p xs.length c, .int .i64 f, .int .i64 s, .int .i64 pr, .int .i64 cp, .int .i64 ck, .int .i64 bk, .slice q vs.length d], ownI w.heap.size TI 1 (p) (xs.length) (c) (ivs xs), ownI w.heap.size TVis 4 (q) (vs.length) (d) (vs.flatMap visitCells), blkI w.heap.size (w.heap.size) THouse #[.int .i64 0, .int .i64 0, .slice none 0 0, .int .i64 0, .int .i64 0, .int .i64 0, .int .i64 0, .int .i64 0, .int .i64 0, .slice none 0 0]] from ((((M7.out).store (i := 3) rfl 6 (.int .i64 0))).store (i := 3) rfl 7 (.int .i64 0)))
      have M9 := Lib.hid (show Mem w ((((((((((w5.setCell ⟨w.heap.size, 0, none⟩ (.int .i64 0)).setCell ⟨w.heap.size, 1, none⟩ (.int .i64 0)).setCell ⟨w.heap.size, 2, none⟩ (.slice none 0 0)).setCell ⟨w.heap.size, 3, none⟩ (.int .i64 0)).setCell ⟨w.heap.size, 4, none⟩ (.int .i64 0)).setCell ⟨w.heap.size, 5, none⟩ (.int .i64 0)).setCell ⟨w.heap.size, 6, none⟩ (.int .i64 0)).setCell ⟨w.heap.size, 7, none⟩ (.int .i64 0)).setCell ⟨w.heap.size, 8, none⟩ (.int .i64 0)).setCell ⟨w.heap.size, 9, none⟩ (.slice none 0 0)) [blkI w.heap.size (w3.heap.size) THouse #[.int .i64 W, .int .i64 D, .slice p xs.length c, .int .i64 f, .int .i64 s, .int .i64 pr, .int .i64 cp, .int .i64 ck, .int .i64 bk, .slice q vs.length d], ownI w.heap.size TI 1 (p) (xs.length) (c) (ivs xs), ownI w.heap.size TVis 4 (q) (vs.length) (d) (vs.flatMap visitCells), blkI w.heap.size (w.heap.size) THouse #[.int .i64 0, .int .i64 0, .slice none 0 0, .int .i64 0, .int .i64 0, .int .i64 0, .int .i64 0, .int .i64 0, .int .i64 0, .slice none 0 0]] from ((((M8.out).store (i := 3) rfl 8 (.int .i64 0))).store (i := 3) rfl 9 (.slice none 0 0)))
      go_wp2
      clear z0 zf0 z1 zf1 z2 zf2 z3 zf3 z4 zf4 z5 zf5 z6 zf6 z7 zf7 z8 zf8 z9 zf9 lt4_0 lt4_3
      have M10 := Lib.hid (show Mem w ((((((((((w5.setCell ⟨w.heap.size, 0, none⟩ (.int .i64 0)).setCell ⟨w.heap.size, 1, none⟩ (.int .i64 0)).setCell ⟨w.heap.size, 2, none⟩ (.slice none 0 0)).setCell ⟨w.heap.size, 3, none⟩ (.int .i64 0)).setCell ⟨w.heap.size, 4, none⟩ (.int .i64 0)).setCell ⟨w.heap.size, 5, none⟩ (.int .i64 0)).setCell ⟨w.heap.size, 6, none⟩ (.int .i64 0)).setCell ⟨w.heap.size, 7, none⟩ (.int .i64 0)).setCell ⟨w.heap.size, 8, none⟩ (.int .i64 0)).setCell ⟨w.heap.size, 9, none⟩ (.slice none 0 0)) [blkI w.heap.size (w3.heap.size) THouse #[.int .i64 W, .int .i64 D, .slice p xs.length c, .int .i64 f, .int .i64 s, .int .i64 pr, .int .i64 cp, .int .i64 ck, .int .i64 bk, .slice q vs.length d], ownI w.heap.size TI 1 (p) (xs.length) (c) (ivs xs), ownI w.heap.size TVis 4 (q) (vs.length) (d) (vs.flatMap visitCells), blkI w.heap.size (w.heap.size) THouse #[.int .i64 0, .int .i64 0, .slice none 0 0, .int .i64 0, .int .i64 0, .int .i64 0, .int .i64 0, .int .i64 0, .int .i64 0, .slice none 0 0]] from M9.out)
      generalize hwz : World.setCell _ _ _ = wz
      rw [hwz] at M10
      clear hwz M4 M5 M6 M7 M8 M9
      have y0 : wz.cell? ⟨w.heap.size, 0, none⟩ = some (.int .i64 0) := (M10.out.blk (i := 3) rfl).cell 0
      have y1 : wz.cell? ⟨w.heap.size, 1, none⟩ = some (.int .i64 0) := (M10.out.blk (i := 3) rfl).cell 1
      have y2 : wz.cell? ⟨w.heap.size, 2, none⟩ = some (.slice none 0 0) := (M10.out.blk (i := 3) rfl).cell 2
      have y3 : wz.cell? ⟨w.heap.size, 3, none⟩ = some (.int .i64 0) := (M10.out.blk (i := 3) rfl).cell 3
      have y4 : wz.cell? ⟨w.heap.size, 4, none⟩ = some (.int .i64 0) := (M10.out.blk (i := 3) rfl).cell 4
      have y5 : wz.cell? ⟨w.heap.size, 5, none⟩ = some (.int .i64 0) := (M10.out.blk (i := 3) rfl).cell 5
      have y6 : wz.cell? ⟨w.heap.size, 6, none⟩ = some (.int .i64 0) := (M10.out.blk (i := 3) rfl).cell 6
      have y7 : wz.cell? ⟨w.heap.size, 7, none⟩ = some (.int .i64 0) := (M10.out.blk (i := 3) rfl).cell 7
      have y8 : wz.cell? ⟨w.heap.size, 8, none⟩ = some (.int .i64 0) := (M10.out.blk (i := 3) rfl).cell 8
      have y9 : wz.cell? ⟨w.heap.size, 9, none⟩ = some (.slice none 0 0) := (M10.out.blk (i := 3) rfl).cell 9
      exact bodyPost_ret (v := .tuple #[.agg #[.int .i64 0, .int .i64 0, .slice none 0 0, .int .i64 0, .int .i64 0, .int .i64 0, .int .i64 0, .int .i64 0, .int .i64 0, .slice none 0 0], .int .i64 0, .bool false]) (by simp [results, Tryz.results44, go_sem, *]) rfl (ret_save_no hno.out M10.out.ext)
    | true =>
      have hsome : Hid (readHouse hh = some ⟨W, D, xs, f, s, pr, cp, ck, bk, vs⟩) := by
        show _ = _
        have h1 := HB.out; have h2 := HH.out
        cases hq : readHouse hh with
        | none => rw [hq] at h1; simp at h1
        | some z => rw [hq] at h2; simpa using h2
      have HI : Hid (IsHouse w5 ⟨W, D, xs, f, s, pr, cp, ck, bk, vs⟩ p xs.length c q vs.length d) := ⟨M4.out.sl (i := 1) rfl, M4.out.sl (i := 2) rfl⟩
      have HT : Hid (∀ (w' : World), Ext w5 w' → Env w' → Calls Tryz.prog 50 #[.agg #[.int .i64 W, .int .i64 D, .slice p xs.length c, .int .i64 f, .int .i64 s, .int .i64 pr, .int .i64 cp, .int .i64 ck, .int .i64 bk, .slice q vs.length d], .int .i64 x] w' fun e w'' => e = .returned (str (saveText ⟨W, D, xs, f, s, pr, cp, ck, bk, vs⟩ x)) ∧ Ext w' w'') := fun w' hx hE => implSaveText ⟨W, D, xs, f, s, pr, cp, ck, bk, vs⟩ x p xs.length c q vs.length d w' hE (HI.out.ext hx)
      generalize hht : saveText ⟨W, D, xs, f, s, pr, cp, ck, bk, vs⟩ x = t at *
      have HTT := Lib.hid hht
      clear hht HI
      have c0 : w5.cell? ⟨w3.heap.size, 0, none⟩ = some (.int .i64 W) := (M4.out.blk (i := 0) rfl).cell 0
      have c1 : w5.cell? ⟨w3.heap.size, 1, none⟩ = some (.int .i64 D) := (M4.out.blk (i := 0) rfl).cell 1
      have c2 : w5.cell? ⟨w3.heap.size, 2, none⟩ = some (.slice p xs.length c) := (M4.out.blk (i := 0) rfl).cell 2
      have c3 : w5.cell? ⟨w3.heap.size, 3, none⟩ = some (.int .i64 f) := (M4.out.blk (i := 0) rfl).cell 3
      have c4 : w5.cell? ⟨w3.heap.size, 4, none⟩ = some (.int .i64 s) := (M4.out.blk (i := 0) rfl).cell 4
      have c5 : w5.cell? ⟨w3.heap.size, 5, none⟩ = some (.int .i64 pr) := (M4.out.blk (i := 0) rfl).cell 5
      have c6 : w5.cell? ⟨w3.heap.size, 6, none⟩ = some (.int .i64 cp) := (M4.out.blk (i := 0) rfl).cell 6
      have c7 : w5.cell? ⟨w3.heap.size, 7, none⟩ = some (.int .i64 ck) := (M4.out.blk (i := 0) rfl).cell 7
      have c8 : w5.cell? ⟨w3.heap.size, 8, none⟩ = some (.int .i64 bk) := (M4.out.blk (i := 0) rfl).cell 8
      have c9 : w5.cell? ⟨w3.heap.size, 9, none⟩ = some (.slice q vs.length d) := (M4.out.blk (i := 0) rfl).cell 9
      go_wp2_with fail
      clear c0 c1 c2 c3 c4 c5 c6 c7 c8 c9
      refine (HT.out _ (Ext.refl _) (HE.out.ext (M4.out).ext)).mono ?_
      rintro e w4 ⟨rfl, hx4⟩
      have M5 := Lib.hid (show Mem w w4 [blkI w.heap.size (w3.heap.size) THouse #[.int .i64 W, .int .i64 D, .slice p xs.length c, .int .i64 f, .int .i64 s, .int .i64 pr, .int .i64 cp, .int .i64 ck, .int .i64 bk, .slice q vs.length d], ownI w.heap.size TI 1 (p) (xs.length) (c) (ivs xs), ownI w.heap.size TVis 4 (q) (vs.length) (d) (vs.flatMap visitCells), blkI w.heap.size (w.heap.size) THouse #[.int .i64 0, .int .i64 0, .slice none 0 0, .int .i64 0, .int .i64 0, .int .i64 0, .int .i64 0, .int .i64 0, .int .i64 0, .slice none 0 0]] from (M4.out).adv hx4)
      clear M4
      clear lt4_0 lt4_3
      have lt5_0 : w3.heap.size < w4.heap.size := (M5.out.lt (i := 0) rfl rfl).2
      have lt5_3 : w.heap.size < w4.heap.size := (M5.out.lt (i := 3) rfl rfl).2
      clear hx4
      by_cases ht : t = l
      · skip
        have hd2 : (t == l) = true := by simp [ht]
        have hyes : Hid (readSave l = some (⟨W, D, xs, f, s, pr, cp, ck, bk, vs⟩, x)) := by show _ = _; rw [HRV.out, hn.out, hsome.out]; simp [HTT.out, ht]
        clear ht
        have z0 : w4.cell? ⟨w.heap.size, 0, none⟩ = some (.int .i64 0) := (M5.out.blk (i := 3) rfl).cell 0
        have zf0 : w4.frozen? ⟨w.heap.size, 0, none⟩ = false := (M5.out.blk (i := 3) rfl).frozen 0
        have z1 : w4.cell? ⟨w.heap.size, 1, none⟩ = some (.int .i64 0) := (M5.out.blk (i := 3) rfl).cell 1
        have zf1 : w4.frozen? ⟨w.heap.size, 1, none⟩ = false := (M5.out.blk (i := 3) rfl).frozen 1
        have z2 : w4.cell? ⟨w.heap.size, 2, none⟩ = some (.slice none 0 0) := (M5.out.blk (i := 3) rfl).cell 2
        have zf2 : w4.frozen? ⟨w.heap.size, 2, none⟩ = false := (M5.out.blk (i := 3) rfl).frozen 2
        have z3 : w4.cell? ⟨w.heap.size, 3, none⟩ = some (.int .i64 0) := (M5.out.blk (i := 3) rfl).cell 3
        have zf3 : w4.frozen? ⟨w.heap.size, 3, none⟩ = false := (M5.out.blk (i := 3) rfl).frozen 3
        have z4 : w4.cell? ⟨w.heap.size, 4, none⟩ = some (.int .i64 0) := (M5.out.blk (i := 3) rfl).cell 4
        have zf4 : w4.frozen? ⟨w.heap.size, 4, none⟩ = false := (M5.out.blk (i := 3) rfl).frozen 4
        have z5 : w4.cell? ⟨w.heap.size, 5, none⟩ = some (.int .i64 0) := (M5.out.blk (i := 3) rfl).cell 5
        have zf5 : w4.frozen? ⟨w.heap.size, 5, none⟩ = false := (M5.out.blk (i := 3) rfl).frozen 5
        have z6 : w4.cell? ⟨w.heap.size, 6, none⟩ = some (.int .i64 0) := (M5.out.blk (i := 3) rfl).cell 6
        have zf6 : w4.frozen? ⟨w.heap.size, 6, none⟩ = false := (M5.out.blk (i := 3) rfl).frozen 6
        have z7 : w4.cell? ⟨w.heap.size, 7, none⟩ = some (.int .i64 0) := (M5.out.blk (i := 3) rfl).cell 7
        have zf7 : w4.frozen? ⟨w.heap.size, 7, none⟩ = false := (M5.out.blk (i := 3) rfl).frozen 7
        have z8 : w4.cell? ⟨w.heap.size, 8, none⟩ = some (.int .i64 0) := (M5.out.blk (i := 3) rfl).cell 8
        have zf8 : w4.frozen? ⟨w.heap.size, 8, none⟩ = false := (M5.out.blk (i := 3) rfl).frozen 8
        have z9 : w4.cell? ⟨w.heap.size, 9, none⟩ = some (.slice none 0 0) := (M5.out.blk (i := 3) rfl).cell 9
        have zf9 : w4.frozen? ⟨w.heap.size, 9, none⟩ = false := (M5.out.blk (i := 3) rfl).frozen 9
        have b0 : w4.cell? ⟨w3.heap.size, 0, none⟩ = some (.int .i64 W) := (M5.out.blk (i := 0) rfl).cell 0
        have b1 : w4.cell? ⟨w3.heap.size, 1, none⟩ = some (.int .i64 D) := (M5.out.blk (i := 0) rfl).cell 1
        have b2 : w4.cell? ⟨w3.heap.size, 2, none⟩ = some (.slice p xs.length c) := (M5.out.blk (i := 0) rfl).cell 2
        have b3 : w4.cell? ⟨w3.heap.size, 3, none⟩ = some (.int .i64 f) := (M5.out.blk (i := 0) rfl).cell 3
        have b4 : w4.cell? ⟨w3.heap.size, 4, none⟩ = some (.int .i64 s) := (M5.out.blk (i := 0) rfl).cell 4
        have b5 : w4.cell? ⟨w3.heap.size, 5, none⟩ = some (.int .i64 pr) := (M5.out.blk (i := 0) rfl).cell 5
        have b6 : w4.cell? ⟨w3.heap.size, 6, none⟩ = some (.int .i64 cp) := (M5.out.blk (i := 0) rfl).cell 6
        have b7 : w4.cell? ⟨w3.heap.size, 7, none⟩ = some (.int .i64 ck) := (M5.out.blk (i := 0) rfl).cell 7
        have b8 : w4.cell? ⟨w3.heap.size, 8, none⟩ = some (.int .i64 bk) := (M5.out.blk (i := 0) rfl).cell 8
        have b9 : w4.cell? ⟨w3.heap.size, 9, none⟩ = some (.slice q vs.length d) := (M5.out.blk (i := 0) rfl).cell 9
        have ne0_1a : ¬ (w3.heap.size = w.heap.size) := M5.out.ne (i := 0) (j := 3) (by omega) rfl rfl rfl rfl
        have ne0_1b : ¬ (w.heap.size = w3.heap.size) := fun h => ne0_1a h.symm
        have M6 := Lib.hid (show Mem w ((w4.setCell ⟨w.heap.size, 0, none⟩ (.int .i64 W)).setCell ⟨w.heap.size, 1, none⟩ (.int .i64 D)) [blkI w.heap.size (w3.heap.size) THouse #[.int .i64 W, .int .i64 D, .slice p xs.length c, .int .i64 f, .int .i64 s, .int .i64 pr, .int .i64 cp, .int .i64 ck, .int .i64 bk, .slice q vs.length d], ownI w.heap.size TI 1 (p) (xs.length) (c) (ivs xs), ownI w.heap.size TVis 4 (q) (vs.length) (d) (vs.flatMap visitCells), blkI w.heap.size (w.heap.size) THouse #[.int .i64 W, .int .i64 D, .slice none 0 0, .int .i64 0, .int .i64 0, .int .i64 0, .int .i64 0, .int .i64 0, .int .i64 0, .slice none 0 0]] from ((((M5.out).store (i := 3) rfl 0 (.int .i64 W))).store (i := 3) rfl 1 (.int .i64 D)))
        have M7 := Lib.hid (show Mem w ((((w4.setCell ⟨w.heap.size, 0, none⟩ (.int .i64 W)).setCell ⟨w.heap.size, 1, none⟩ (.int .i64 D)).setCell ⟨w.heap.size, 2, none⟩ (.slice p xs.length c)).setCell ⟨w.heap.size, 3, none⟩ (.int .i64 f)) [blkI w.heap.size (w3.heap.size) THouse #[.int .i64 W, .int .i64 D, .slice p xs.length c, .int .i64 f, .int .i64 s, .int .i64 pr, .int .i64 cp, .int .i64 ck, .int .i64 bk, .slice q vs.length d], ownI w.heap.size TI 1 (p) (xs.length) (c) (ivs xs), ownI w.heap.size TVis 4 (q) (vs.length) (d) (vs.flatMap visitCells), blkI w.heap.size (w.heap.size) THouse #[.int .i64 W, .int .i64 D, .slice p xs.length c, .int .i64 f, .int .i64 0, .int .i64 0, .int .i64 0, .int .i64 0, .int .i64 0, .slice none 0 0]] from ((((M6.out).store (i := 3) rfl 2 (.slice p xs.length c))).store (i := 3) rfl 3 (.int .i64 f)))
        have M8 := Lib.hid (show Mem w ((((((w4.setCell ⟨w.heap.size, 0, none⟩ (.int .i64 W)).setCell ⟨w.heap.size, 1, none⟩ (.int .i64 D)).setCell ⟨w.heap.size, 2, none⟩ (.slice p xs.length c)).setCell ⟨w.heap.size, 3, none⟩ (.int .i64 f)).setCell ⟨w.heap.size, 4, none⟩ (.int .i64 s)).setCell ⟨w.heap.size, 5, none⟩ (.int .i64 pr)) [blkI w.heap.size (w3.heap.size) THouse #[.int .i64 W, .int .i64 D, .slice p xs.length c, .int .i64 f, .int .i64 s, .int .i64 pr, .int .i64 cp, .int .i64 ck, .int .i64 bk, .slice q vs.length d], ownI w.heap.size TI 1 (p) (xs.length) (c) (ivs xs), ownI w.heap.size TVis 4 (q) (vs.length) (d) (vs.flatMap visitCells), blkI w.heap.size (w.heap.size) THouse #[.int .i64 W, .int .i64 D, .slice p xs.length c, .int .i64 f, .int .i64 s, .int .i64 pr, .int .i64 0, .int .i64 0, .int .i64 0, .slice none 0 0]] from ((((M7.out).store (i := 3) rfl 4 (.int .i64 s))).store (i := 3) rfl 5 (.int .i64 pr)))
        have M9 := Lib.hid (show Mem w ((((((((w4.setCell ⟨w.heap.size, 0, none⟩ (.int .i64 W)).setCell ⟨w.heap.size, 1, none⟩ (.int .i64 D)).setCell ⟨w.heap.size, 2, none⟩ (.slice p xs.length c)).setCell ⟨w.heap.size, 3, none⟩ (.int .i64 f)).setCell ⟨w.heap.size, 4, none⟩ (.int .i64 s)).setCell ⟨w.heap.size, 5, none⟩ (.int .i64 pr)).setCell ⟨w.heap.size, 6, none⟩ (.int .i64 cp)).setCell ⟨w.heap.size, 7, none⟩ (.int .i64 ck)) [blkI w.heap.size (w3.heap.size) THouse #[.int .i64 W, .int .i64 D, .slice p xs.length c, .int .i64 f, .int .i64 s, .int .i64 pr, .int .i64 cp, .int .i64 ck, .int .i64 bk, .slice q vs.length d], ownI w.heap.size TI 1 (p) (xs.length) (c) (ivs xs), ownI w.heap.size TVis 4 (q) (vs.length) (d) (vs.flatMap visitCells), blkI w.heap.size (w.heap.size) THouse #[.int .i64 W, .int .i64 D, .slice p xs.length c, .int .i64 f, .int .i64 s, .int .i64 pr, .int .i64 cp, .int .i64 ck, .int .i64 0, .slice none 0 0]] from ((((M8.out).store (i := 3) rfl 6 (.int .i64 cp))).store (i := 3) rfl 7 (.int .i64 ck)))
        have M10 := Lib.hid (show Mem w ((((((((((w4.setCell ⟨w.heap.size, 0, none⟩ (.int .i64 W)).setCell ⟨w.heap.size, 1, none⟩ (.int .i64 D)).setCell ⟨w.heap.size, 2, none⟩ (.slice p xs.length c)).setCell ⟨w.heap.size, 3, none⟩ (.int .i64 f)).setCell ⟨w.heap.size, 4, none⟩ (.int .i64 s)).setCell ⟨w.heap.size, 5, none⟩ (.int .i64 pr)).setCell ⟨w.heap.size, 6, none⟩ (.int .i64 cp)).setCell ⟨w.heap.size, 7, none⟩ (.int .i64 ck)).setCell ⟨w.heap.size, 8, none⟩ (.int .i64 bk)).setCell ⟨w.heap.size, 9, none⟩ (.slice q vs.length d)) [blkI w.heap.size (w3.heap.size) THouse #[.int .i64 W, .int .i64 D, .slice p xs.length c, .int .i64 f, .int .i64 s, .int .i64 pr, .int .i64 cp, .int .i64 ck, .int .i64 bk, .slice q vs.length d], ownI w.heap.size TI 1 (p) (xs.length) (c) (ivs xs), ownI w.heap.size TVis 4 (q) (vs.length) (d) (vs.flatMap visitCells), blkI w.heap.size (w.heap.size) THouse #[.int .i64 W, .int .i64 D, .slice p xs.length c, .int .i64 f, .int .i64 s, .int .i64 pr, .int .i64 cp, .int .i64 ck, .int .i64 bk, .slice q vs.length d]] from ((((M9.out).store (i := 3) rfl 8 (.int .i64 bk))).store (i := 3) rfl 9 (.slice q vs.length d)))
        go_wp2
        clear z0 zf0 z1 zf1 z2 zf2 z3 zf3 z4 zf4 z5 zf5 z6 zf6 z7 zf7 z8 zf8 z9 zf9 b0 b1 b2 b3 b4 b5 b6 b7 b8 b9 ne0_1a ne0_1b lt5_0 lt5_3
        have M11 := Lib.hid (show Mem w ((((((((((w4.setCell ⟨w.heap.size, 0, none⟩ (.int .i64 W)).setCell ⟨w.heap.size, 1, none⟩ (.int .i64 D)).setCell ⟨w.heap.size, 2, none⟩ (.slice p xs.length c)).setCell ⟨w.heap.size, 3, none⟩ (.int .i64 f)).setCell ⟨w.heap.size, 4, none⟩ (.int .i64 s)).setCell ⟨w.heap.size, 5, none⟩ (.int .i64 pr)).setCell ⟨w.heap.size, 6, none⟩ (.int .i64 cp)).setCell ⟨w.heap.size, 7, none⟩ (.int .i64 ck)).setCell ⟨w.heap.size, 8, none⟩ (.int .i64 bk)).setCell ⟨w.heap.size, 9, none⟩ (.slice q vs.length d)) [blkI w.heap.size (w3.heap.size) THouse #[.int .i64 W, .int .i64 D, .slice p xs.length c, .int .i64 f, .int .i64 s, .int .i64 pr, .int .i64 cp, .int .i64 ck, .int .i64 bk, .slice q vs.length d], ownI w.heap.size TI 1 (p) (xs.length) (c) (ivs xs), ownI w.heap.size TVis 4 (q) (vs.length) (d) (vs.flatMap visitCells), blkI w.heap.size (w.heap.size) THouse #[.int .i64 W, .int .i64 D, .slice p xs.length c, .int .i64 f, .int .i64 s, .int .i64 pr, .int .i64 cp, .int .i64 ck, .int .i64 bk, .slice q vs.length d]] from M10.out)
        generalize hwz : World.setCell _ _ _ = wz
        rw [hwz] at M11
        clear hwz M5 M6 M7 M8 M9 M10
        have y0 : wz.cell? ⟨w.heap.size, 0, none⟩ = some (.int .i64 W) := (M11.out.blk (i := 3) rfl).cell 0
        have y1 : wz.cell? ⟨w.heap.size, 1, none⟩ = some (.int .i64 D) := (M11.out.blk (i := 3) rfl).cell 1
        have y2 : wz.cell? ⟨w.heap.size, 2, none⟩ = some (.slice p xs.length c) := (M11.out.blk (i := 3) rfl).cell 2
        have y3 : wz.cell? ⟨w.heap.size, 3, none⟩ = some (.int .i64 f) := (M11.out.blk (i := 3) rfl).cell 3
        have y4 : wz.cell? ⟨w.heap.size, 4, none⟩ = some (.int .i64 s) := (M11.out.blk (i := 3) rfl).cell 4
        have y5 : wz.cell? ⟨w.heap.size, 5, none⟩ = some (.int .i64 pr) := (M11.out.blk (i := 3) rfl).cell 5
        have y6 : wz.cell? ⟨w.heap.size, 6, none⟩ = some (.int .i64 cp) := (M11.out.blk (i := 3) rfl).cell 6
        have y7 : wz.cell? ⟨w.heap.size, 7, none⟩ = some (.int .i64 ck) := (M11.out.blk (i := 3) rfl).cell 7
        have y8 : wz.cell? ⟨w.heap.size, 8, none⟩ = some (.int .i64 bk) := (M11.out.blk (i := 3) rfl).cell 8
        have y9 : wz.cell? ⟨w.heap.size, 9, none⟩ = some (.slice q vs.length d) := (M11.out.blk (i := 3) rfl).cell 9
        exact bodyPost_ret (v := .tuple #[.agg #[.int .i64 W, .int .i64 D, .slice p xs.length c, .int .i64 f, .int .i64 s, .int .i64 pr, .int .i64 cp, .int .i64 ck, .int .i64 bk, .slice q vs.length d], .int .i64 x, .bool true]) (by simp [results, Tryz.results44, go_sem, *]) rfl (ret_save_yes hyes.out (M11.out.own (i := 1) rfl) (M11.out.own (i := 2) rfl) M11.out.ext)
      · skip
        have hd2 : (t == l) = false := by simp [ht]
        have hno : Hid (readSave l = none) := by show _ = _; rw [HRV.out, hn.out, hsome.out]; simp [HTT.out, ht]
        clear ht
        have z0 : w4.cell? ⟨w.heap.size, 0, none⟩ = some (.int .i64 0) := (M5.out.blk (i := 3) rfl).cell 0
        have zf0 : w4.frozen? ⟨w.heap.size, 0, none⟩ = false := (M5.out.blk (i := 3) rfl).frozen 0
        have z1 : w4.cell? ⟨w.heap.size, 1, none⟩ = some (.int .i64 0) := (M5.out.blk (i := 3) rfl).cell 1
        have zf1 : w4.frozen? ⟨w.heap.size, 1, none⟩ = false := (M5.out.blk (i := 3) rfl).frozen 1
        have z2 : w4.cell? ⟨w.heap.size, 2, none⟩ = some (.slice none 0 0) := (M5.out.blk (i := 3) rfl).cell 2
        have zf2 : w4.frozen? ⟨w.heap.size, 2, none⟩ = false := (M5.out.blk (i := 3) rfl).frozen 2
        have z3 : w4.cell? ⟨w.heap.size, 3, none⟩ = some (.int .i64 0) := (M5.out.blk (i := 3) rfl).cell 3
        have zf3 : w4.frozen? ⟨w.heap.size, 3, none⟩ = false := (M5.out.blk (i := 3) rfl).frozen 3
        have z4 : w4.cell? ⟨w.heap.size, 4, none⟩ = some (.int .i64 0) := (M5.out.blk (i := 3) rfl).cell 4
        have zf4 : w4.frozen? ⟨w.heap.size, 4, none⟩ = false := (M5.out.blk (i := 3) rfl).frozen 4
        have z5 : w4.cell? ⟨w.heap.size, 5, none⟩ = some (.int .i64 0) := (M5.out.blk (i := 3) rfl).cell 5
        have zf5 : w4.frozen? ⟨w.heap.size, 5, none⟩ = false := (M5.out.blk (i := 3) rfl).frozen 5
        have z6 : w4.cell? ⟨w.heap.size, 6, none⟩ = some (.int .i64 0) := (M5.out.blk (i := 3) rfl).cell 6
        have zf6 : w4.frozen? ⟨w.heap.size, 6, none⟩ = false := (M5.out.blk (i := 3) rfl).frozen 6
        have z7 : w4.cell? ⟨w.heap.size, 7, none⟩ = some (.int .i64 0) := (M5.out.blk (i := 3) rfl).cell 7
        have zf7 : w4.frozen? ⟨w.heap.size, 7, none⟩ = false := (M5.out.blk (i := 3) rfl).frozen 7
        have z8 : w4.cell? ⟨w.heap.size, 8, none⟩ = some (.int .i64 0) := (M5.out.blk (i := 3) rfl).cell 8
        have zf8 : w4.frozen? ⟨w.heap.size, 8, none⟩ = false := (M5.out.blk (i := 3) rfl).frozen 8
        have z9 : w4.cell? ⟨w.heap.size, 9, none⟩ = some (.slice none 0 0) := (M5.out.blk (i := 3) rfl).cell 9
        have zf9 : w4.frozen? ⟨w.heap.size, 9, none⟩ = false := (M5.out.blk (i := 3) rfl).frozen 9
        have M6 := Lib.hid (show Mem w ((w4.setCell ⟨w.heap.size, 0, none⟩ (.int .i64 0)).setCell ⟨w.heap.size, 1, none⟩ (.int .i64 0)) [blkI w.heap.size (w3.heap.size) THouse #[.int .i64 W, .int .i64 D, .slice p xs.length c, .int .i64 f, .int .i64 s, .int .i64 pr, .int .i64 cp, .int .i64 ck, .int .i64 bk, .slice q vs.length d], ownI w.heap.size TI 1 (p) (xs.length) (c) (ivs xs), ownI w.heap.size TVis 4 (q) (vs.length) (d) (vs.flatMap visitCells), blkI w.heap.size (w.heap.size) THouse #[.int .i64 0, .int .i64 0, .slice none 0 0, .int .i64 0, .int .i64 0, .int .i64 0, .int .i64 0, .int .i64 0, .int .i64 0, .slice none 0 0]] from ((((M5.out).store (i := 3) rfl 0 (.int .i64 0))).store (i := 3) rfl 1 (.int .i64 0)))
        have M7 := Lib.hid (show Mem w ((((w4.setCell ⟨w.heap.size, 0, none⟩ (.int .i64 0)).setCell ⟨w.heap.size, 1, none⟩ (.int .i64 0)).setCell ⟨w.heap.size, 2, none⟩ (.slice none 0 0)).setCell ⟨w.heap.size, 3, none⟩ (.int .i64 0)) [blkI w.heap.size (w3.heap.size) THouse #[.int .i64 W, .int .i64 D, .slice p xs.length c, .int .i64 f, .int .i64 s, .int .i64 pr, .int .i64 cp, .int .i64 ck, .int .i64 bk, .slice q vs.length d], ownI w.heap.size TI 1 (p) (xs.length) (c) (ivs xs), ownI w.heap.size TVis 4 (q) (vs.length) (d) (vs.flatMap visitCells), blkI w.heap.size (w.heap.size) THouse #[.int .i64 0, .int .i64 0, .slice none 0 0, .int .i64 0, .int .i64 0, .int .i64 0, .int .i64 0, .int .i64 0, .int .i64 0, .slice none 0 0]] from ((((M6.out).store (i := 3) rfl 2 (.slice none 0 0))).store (i := 3) rfl 3 (.int .i64 0)))
        have M8 := Lib.hid (show Mem w ((((((w4.setCell ⟨w.heap.size, 0, none⟩ (.int .i64 0)).setCell ⟨w.heap.size, 1, none⟩ (.int .i64 0)).setCell ⟨w.heap.size, 2, none⟩ (.slice none 0 0)).setCell ⟨w.heap.size, 3, none⟩ (.int .i64 0)).setCell ⟨w.heap.size, 4, none⟩ (.int .i64 0)).setCell ⟨w.heap.size, 5, none⟩ (.int .i64 0)) [blkI w.heap.size (w3.heap.size) THouse #[.int .i64 W, .int .i64 D, .slice p xs.length c, .int .i64 f, .int .i64 s, .int .i64 pr, .int .i64 cp, .int .i64 ck, .int .i64 bk, .slice q vs.length d], ownI w.heap.size TI 1 (p) (xs.length) (c) (ivs xs), ownI w.heap.size TVis 4 (q) (vs.length) (d) (vs.flatMap visitCells), blkI w.heap.size (w.heap.size) THouse #[.int .i64 0, .int .i64 0, .slice none 0 0, .int .i64 0, .int .i64 0, .int .i64 0, .int .i64 0, .int .i64 0, .int .i64 0, .slice none 0 0]] from ((((M7.out).store (i := 3) rfl 4 (.int .i64 0))).store (i := 3) rfl 5 (.int .i64 0)))
        have M9 := Lib.hid (show Mem w ((((((((w4.setCell ⟨w.heap.size, 0, none⟩ (.int .i64 0)).setCell ⟨w.heap.size, 1, none⟩ (.int .i64 0)).setCell ⟨w.heap.size, 2, none⟩ (.slice none 0 0)).setCell ⟨w.heap.size, 3, none⟩ (.int .i64 0)).setCell ⟨w.heap.size, 4, none⟩ (.int .i64 0)).setCell ⟨w.heap.size, 5, none⟩ (.int .i64 0)).setCell ⟨w.heap.size, 6, none⟩ (.int .i64 0)).setCell ⟨w.heap.size, 7, none⟩ (.int .i64 0)) [blkI w.heap.size (w3.heap.size) THouse #[.int .i64 W, .int .i64 D, .slice p xs.length c, .int .i64 f, .int .i64 s, .int .i64 pr, .int .i64 cp, .int .i64 ck, .int .i64 bk, .slice q vs.length d], ownI w.heap.size TI 1 (p) (xs.length) (c) (ivs xs), ownI w.heap.size TVis 4 (q) (vs.length) (d) (vs.flatMap visitCells), blkI w.heap.size (w.heap.size) THouse #[.int .i64 0, .int .i64 0, .slice none 0 0, .int .i64 0, .int .i64 0, .int .i64 0, .int .i64 0, .int .i64 0, .int .i64 0, .slice none 0 0]] from ((((M8.out).store (i := 3) rfl 6 (.int .i64 0))).store (i := 3) rfl 7 (.int .i64 0)))
        have M10 := Lib.hid (show Mem w ((((((((((w4.setCell ⟨w.heap.size, 0, none⟩ (.int .i64 0)).setCell ⟨w.heap.size, 1, none⟩ (.int .i64 0)).setCell ⟨w.heap.size, 2, none⟩ (.slice none 0 0)).setCell ⟨w.heap.size, 3, none⟩ (.int .i64 0)).setCell ⟨w.heap.size, 4, none⟩ (.int .i64 0)).setCell ⟨w.heap.size, 5, none⟩ (.int .i64 0)).setCell ⟨w.heap.size, 6, none⟩ (.int .i64 0)).setCell ⟨w.heap.size, 7, none⟩ (.int .i64 0)).setCell ⟨w.heap.size, 8, none⟩ (.int .i64 0)).setCell ⟨w.heap.size, 9, none⟩ (.slice none 0 0)) [blkI w.heap.size (w3.heap.size) THouse #[.int .i64 W, .int .i64 D, .slice p xs.length c, .int .i64 f, .int .i64 s, .int .i64 pr, .int .i64 cp, .int .i64 ck, .int .i64 bk, .slice q vs.length d], ownI w.heap.size TI 1 (p) (xs.length) (c) (ivs xs), ownI w.heap.size TVis 4 (q) (vs.length) (d) (vs.flatMap visitCells), blkI w.heap.size (w.heap.size) THouse #[.int .i64 0, .int .i64 0, .slice none 0 0, .int .i64 0, .int .i64 0, .int .i64 0, .int .i64 0, .int .i64 0, .int .i64 0, .slice none 0 0]] from ((((M9.out).store (i := 3) rfl 8 (.int .i64 0))).store (i := 3) rfl 9 (.slice none 0 0)))
        go_wp2
        clear z0 zf0 z1 zf1 z2 zf2 z3 zf3 z4 zf4 z5 zf5 z6 zf6 z7 zf7 z8 zf8 z9 zf9 lt5_0 lt5_3
        have M11 := Lib.hid (show Mem w ((((((((((w4.setCell ⟨w.heap.size, 0, none⟩ (.int .i64 0)).setCell ⟨w.heap.size, 1, none⟩ (.int .i64 0)).setCell ⟨w.heap.size, 2, none⟩ (.slice none 0 0)).setCell ⟨w.heap.size, 3, none⟩ (.int .i64 0)).setCell ⟨w.heap.size, 4, none⟩ (.int .i64 0)).setCell ⟨w.heap.size, 5, none⟩ (.int .i64 0)).setCell ⟨w.heap.size, 6, none⟩ (.int .i64 0)).setCell ⟨w.heap.size, 7, none⟩ (.int .i64 0)).setCell ⟨w.heap.size, 8, none⟩ (.int .i64 0)).setCell ⟨w.heap.size, 9, none⟩ (.slice none 0 0)) [blkI w.heap.size (w3.heap.size) THouse #[.int .i64 W, .int .i64 D, .slice p xs.length c, .int .i64 f, .int .i64 s, .int .i64 pr, .int .i64 cp, .int .i64 ck, .int .i64 bk, .slice q vs.length d], ownI w.heap.size TI 1 (p) (xs.length) (c) (ivs xs), ownI w.heap.size TVis 4 (q) (vs.length) (d) (vs.flatMap visitCells), blkI w.heap.size (w.heap.size) THouse #[.int .i64 0, .int .i64 0, .slice none 0 0, .int .i64 0, .int .i64 0, .int .i64 0, .int .i64 0, .int .i64 0, .int .i64 0, .slice none 0 0]] from M10.out)
        generalize hwz : World.setCell _ _ _ = wz
        rw [hwz] at M11
        clear hwz M5 M6 M7 M8 M9 M10
        have y0 : wz.cell? ⟨w.heap.size, 0, none⟩ = some (.int .i64 0) := (M11.out.blk (i := 3) rfl).cell 0
        have y1 : wz.cell? ⟨w.heap.size, 1, none⟩ = some (.int .i64 0) := (M11.out.blk (i := 3) rfl).cell 1
        have y2 : wz.cell? ⟨w.heap.size, 2, none⟩ = some (.slice none 0 0) := (M11.out.blk (i := 3) rfl).cell 2
        have y3 : wz.cell? ⟨w.heap.size, 3, none⟩ = some (.int .i64 0) := (M11.out.blk (i := 3) rfl).cell 3
        have y4 : wz.cell? ⟨w.heap.size, 4, none⟩ = some (.int .i64 0) := (M11.out.blk (i := 3) rfl).cell 4
        have y5 : wz.cell? ⟨w.heap.size, 5, none⟩ = some (.int .i64 0) := (M11.out.blk (i := 3) rfl).cell 5
        have y6 : wz.cell? ⟨w.heap.size, 6, none⟩ = some (.int .i64 0) := (M11.out.blk (i := 3) rfl).cell 6
        have y7 : wz.cell? ⟨w.heap.size, 7, none⟩ = some (.int .i64 0) := (M11.out.blk (i := 3) rfl).cell 7
        have y8 : wz.cell? ⟨w.heap.size, 8, none⟩ = some (.int .i64 0) := (M11.out.blk (i := 3) rfl).cell 8
        have y9 : wz.cell? ⟨w.heap.size, 9, none⟩ = some (.slice none 0 0) := (M11.out.blk (i := 3) rfl).cell 9
        exact bodyPost_ret (v := .tuple #[.agg #[.int .i64 0, .int .i64 0, .slice none 0 0, .int .i64 0, .int .i64 0, .int .i64 0, .int .i64 0, .int .i64 0, .int .i64 0, .slice none 0 0], .int .i64 0, .bool false]) (by simp [results, Tryz.results44, go_sem, *]) rfl (ret_save_no hno.out M11.out.ext)
set_option maxRecDepth 100000 in
set_option maxHeartbeats 8000000 in
theorem specReadSave (l : List UInt8) (w : World) (hs : l.length ≤ 1048576) : Calls Tryz.prog 43 #[str l] w (RetSave (readSave l) w) := by
  have HS : Hid (∀ q : List UInt8, q.length ≤ 1048576 → ∀ (c : UInt8) (ci : Int), ci = (c.toNat : Int) → ∀ w, Calls Tryz.prog 81 #[str q, .int .u8 ci] w fun e w' => ∃ v, e = .returned v ∧ w'.ownsRow w.heap.size TStr 1 v (cutL c q).length (strs (cutL c q)) ∧ Ext w w') :=
    fun q hq c ci hc w => l1Cut_any ⟨q.toArray⟩ c ci hc w (by simp only [ByteArray.size, List.size_toArray]; omega)
  have hpos : 0 < (cutL 35 l).length := List.length_pos_iff.2 (cutL_ne 35 l)
  obtain ⟨u, hu⟩ : ∃ q, (cutL 35 l)[0]? = some q := ⟨_, List.getElem?_eq_getElem hpos⟩
  have hul : u.length ≤ 1048576 := Nat.le_trans ((cutL_len 35 l).1 u (List.mem_of_getElem? hu)) hs
  have hpu : part (cutL 35 l) 0 = u := part_at hu
  have hpos2 : 0 < (cutL 124 u).length := List.length_pos_iff.2 (cutL_ne 124 u)
  obtain ⟨fs, hfs⟩ : ∃ q, (cutL 124 u)[0]? = some q := ⟨_, List.getElem?_eq_getElem hpos2⟩
  have hfl : fs.length ≤ 1048576 := Nat.le_trans ((cutL_len 124 u).1 fs (List.mem_of_getElem? hfs)) hul
  have hl1 := (cutL_len 35 l).2
  have hl2 := (cutL_len 124 u).2
  have HS1 := Lib.hid (HS.out l hs 35 35 rfl)
  have HS2 := Lib.hid (HS.out u hul 124 124 rfl)
  have HRV : Hid (readSave l = if (cutL 35 l).length = 2 ∧ (cutL 124 u).length = 2 then (match readHouse (part (cutL 124 u) 1) with | some h => if saveText h ((readL 4 fs).getD (-1)) = l then some (h, (readL 4 fs).getD (-1)) else none | none => none) else none) := by
    show _ = _
    rw [readSave_S]
    unfold saveFineS saveHouseS saveNumS
    rw [hpu, part_at hfs]
    simp
    rfl
  have HU := Lib.hid hu
  have HFS := Lib.hid hfs
  have HRD : Hid (∀ w, Calls Tryz.prog 95 #[str fs] w fun e w' => e = .returned (.int .i64 ((readL 4 fs).getD (-1))) ∧ w = w') := fun w => l1Read_strB fs (by unfold maxLen; omega) w
  generalize hx : (readL 4 fs).getD (-1) = x at *
  have hT0 := hpos
  have hP0 := hpos2
  have HU0 := Lib.hid HU.out
  have HS1' : Hid (∀ w, Calls Tryz.prog 81 #[str l, .int .u8 35] w fun e w' => ∃ g c, e = .returned (.slice (some ⟨g, 0, none⟩) (cutL 35 l).length c) ∧ w'.ownsRow w.heap.size TStr 1 (.slice (some ⟨g, 0, none⟩) (cutL 35 l).length c) (cutL 35 l).length (strs (cutL 35 l)) ∧ Ext w w') := by
    intro w
    refine (HS1.out w).mono ?_
    rintro e w' ⟨v, rfl, ho, hx⟩
    obtain ⟨g, c, rfl⟩ := Joins.ownsRow_form ho hpos
    exact ⟨g, c, rfl, ho, hx⟩
  have HS2' : Hid (∀ w, Calls Tryz.prog 81 #[str u, .int .u8 124] w fun e w' => ∃ g c, e = .returned (.slice (some ⟨g, 0, none⟩) (cutL 124 u).length c) ∧ w'.ownsRow w.heap.size TStr 1 (.slice (some ⟨g, 0, none⟩) (cutL 124 u).length c) (cutL 124 u).length (strs (cutL 124 u)) ∧ Ext w w') := by
    intro w
    refine (HS2.out w).mono ?_
    rintro e w' ⟨v, rfl, ho, hx⟩
    obtain ⟨g, c, rfl⟩ := Joins.ownsRow_form ho hpos2
    exact ⟨g, c, rfl, ho, hx⟩
  generalize hT : (cutL 35 l).length = T at *
  generalize hP : (cutL 124 u).length = P at *
  have HTl := Lib.hid hT
  have HPl := Lib.hid hP
  clear HS HS1 HS2 hu hfs hpu hx hT hP HU0
  go_enter Tryz.func43, Tryz.ntmps43
  go_wp2_with fail
  refine (HS1'.out _).mono ?_
  rintro e w1 ⟨g1, c1, rfl, ho1, hx1⟩
  have M1 := Lib.hid (show Mem w w1 [ownI w.heap.size TStr 1 (some ⟨g1, 0, none⟩) (T) (c1) (strs (cutL 35 l)), blkI w.heap.size (w.heap.size) THouse #[.int .i64 0, .int .i64 0, .slice none 0 0, .int .i64 0, .int .i64 0, .int .i64 0, .int .i64 0, .int .i64 0, .int .i64 0, .slice none 0 0]] from (((Mem.start w).blkNew THouse #[.int .i64 0, .int .i64 0, .slice none 0 0, .int .i64 0, .int .i64 0, .int .i64 0, .int .i64 0, .int .i64 0, .int .i64 0, .slice none 0 0] (w.heap.size) (by simp))).call hx1 ho1)
  have lt1_1 : w.heap.size < w1.heap.size := (M1.out.lt (i := 1) rfl rfl).2
  clear hx1 ho1
  have hg1 : g1 < w1.heap.size := (M1.out.lt (i := 0) rfl rfl).2
  have e0 : w1.cell? ⟨g1, 0, none⟩ = some (str u) := part_cell (M1.out.own (i := 0) rfl) 0 hT0 _ HU.out
  have i1 : (0 : Int) < (T : Int) := by omega
  go_wp2_with fail
  clear e0 hg1
  refine (HS2'.out _).mono ?_
  rintro e w2 ⟨g2, c2, rfl, ho2, hx2⟩
  have M2 := Lib.hid (show Mem w w2 [ownI w.heap.size TStr 1 (some ⟨g2, 0, none⟩) (P) (c2) (strs (cutL 124 u)), ownI w.heap.size TStr 1 (some ⟨g1, 0, none⟩) (T) (c1) (strs (cutL 35 l)), blkI w.heap.size (w.heap.size) THouse #[.int .i64 0, .int .i64 0, .slice none 0 0, .int .i64 0, .int .i64 0, .int .i64 0, .int .i64 0, .int .i64 0, .int .i64 0, .slice none 0 0]] from (M1.out).call hx2 ho2)
  clear M1
  clear lt1_1
  have lt2_2 : w.heap.size < w2.heap.size := (M2.out.lt (i := 2) rfl rfl).2
  clear hx2 ho2
  by_cases hTT : T = 2
  · by_cases hPP : P = 2
    · skip
      subst hTT; subst hPP
      obtain ⟨hh, hhh⟩ : ∃ q, (cutL 124 u)[1]? = some q := ⟨_, List.getElem?_eq_getElem (by rw [HPl.out]; omega)⟩
      have hhl : hh.length ≤ 1048576 := Nat.le_trans ((cutL_len 124 u).1 hh (List.mem_of_getElem? hhh)) hul
      have HHH := Lib.hid hhh
      rw [part_at hhh] at HRV
      obtain ⟨⟨W, D, xs, f, s, pr, cp, ck, bk, vs⟩, hH⟩ : ∃ H : HouseD, (readHouse hh).getD houseZero = H := ⟨_, rfl⟩
      obtain ⟨b, hb⟩ : ∃ b : Bool, (readHouse hh).isSome = b := ⟨_, rfl⟩
      have HB := Lib.hid hb
      have HH := Lib.hid hH
      have HRH : Hid (∀ w, Calls Tryz.prog 38 #[str hh] w fun e w' => ∃ p c q d, e = .returned (.tuple #[.agg #[.int .i64 W, .int .i64 D, .slice p xs.length c, .int .i64 f, .int .i64 s, .int .i64 pr, .int .i64 cp, .int .i64 ck, .int .i64 bk, .slice q vs.length d], .bool b]) ∧ w'.ownsRow w.heap.size TI 1 (.slice p xs.length c) xs.length (ivs xs) ∧ w'.ownsRow w.heap.size TVis 4 (.slice q vs.length d) vs.length (vs.flatMap visitCells) ∧ Ext w w') := by
        intro w
        have h := specReadHouse hh w hhl
        rw [hH, hb] at h
        exact h
      have hg2 : g2 < w2.heap.size := (M2.out.lt (i := 0) rfl rfl).2
      have e1 : w2.cell? ⟨g2, 1, none⟩ = some (str hh) := part_cell (M2.out.own (i := 0) rfl) 1 (by omega) _ HHH.out
      clear hb hH hhh i1
      go_wp2_with fail
      refine (HRH.out _).mono ?_
      rintro e w3 ⟨p, c, q, d, rfl, oc, os, hx3⟩
      clear e1 hg2
      have M3 := Lib.hid (show Mem w w3 [ownI w.heap.size TI 1 (p) (xs.length) (c) (ivs xs), ownI w.heap.size TVis 4 (q) (vs.length) (d) (vs.flatMap visitCells), ownI w.heap.size TStr 1 (some ⟨g2, 0, none⟩) (2) (c2) (strs (cutL 124 u)), ownI w.heap.size TStr 1 (some ⟨g1, 0, none⟩) (2) (c1) (strs (cutL 35 l)), blkI w.heap.size (w.heap.size) THouse #[.int .i64 0, .int .i64 0, .slice none 0 0, .int .i64 0, .int .i64 0, .int .i64 0, .int .i64 0, .int .i64 0, .int .i64 0, .slice none 0 0]] from (M2.out).own2s hx3 oc os (Nat.le_refl _) (by decide))
      clear M2
      clear lt2_2
      have lt3_4 : w.heap.size < w3.heap.size := (M3.out.lt (i := 4) rfl rfl).2
      clear hx3 oc os
      have hg2 : g2 < w3.heap.size := (M3.out.lt (i := 2) rfl rfl).2
      have e2 : w3.cell? ⟨g2, 0, none⟩ = some (str fs) := part_cell (M3.out.own (i := 2) rfl) 0 (by omega) _ HFS.out
      go_wp2_with fail
      refine (HRD.out _).mono ?_
      rintro e w3' ⟨rfl, rfl⟩
      clear e2 hg2
      go_upto_region 7 with fail
      have M4 := Lib.hid (show Mem w (w3.alloc (.cells #[.int .i64 W, .int .i64 D, .slice p xs.length c, .int .i64 f, .int .i64 s, .int .i64 pr, .int .i64 cp, .int .i64 ck, .int .i64 bk, .slice q vs.length d] THouse)) [blkI w.heap.size (w3.heap.size) THouse #[.int .i64 W, .int .i64 D, .slice p xs.length c, .int .i64 f, .int .i64 s, .int .i64 pr, .int .i64 cp, .int .i64 ck, .int .i64 bk, .slice q vs.length d], ownI w.heap.size TI 1 (p) (xs.length) (c) (ivs xs), ownI w.heap.size TVis 4 (q) (vs.length) (d) (vs.flatMap visitCells), ownI w.heap.size TStr 1 (some ⟨g2, 0, none⟩) (2) (c2) (strs (cutL 124 u)), ownI w.heap.size TStr 1 (some ⟨g1, 0, none⟩) (2) (c1) (strs (cutL 35 l)), blkI w.heap.size (w.heap.size) THouse #[.int .i64 0, .int .i64 0, .slice none 0 0, .int .i64 0, .int .i64 0, .int .i64 0, .int .i64 0, .int .i64 0, .int .i64 0, .slice none 0 0]] from ((M3.out).blkNew THouse #[.int .i64 W, .int .i64 D, .slice p xs.length c, .int .i64 f, .int .i64 s, .int .i64 pr, .int .i64 cp, .int .i64 ck, .int .i64 bk, .slice q vs.length d] (w3.heap.size) (by simp)))
      generalize (w3.alloc (.cells #[.int .i64 W, .int .i64 D, .slice p xs.length c, .int .i64 f, .int .i64 s, .int .i64 pr, .int .i64 cp, .int .i64 ck, .int .i64 bk, .slice q vs.length d] THouse)) = w5 at M4 ⊢
      clear M3
      clear lt3_4
      have lt4_0 : w3.heap.size < w5.heap.size := (M4.out.lt (i := 0) rfl rfl).2
      have lt4_5 : w.heap.size < w5.heap.size := (M4.out.lt (i := 5) rfl rfl).2
      cases b with
      | false =>
        have hno : Hid (readSave l = none) := by
          show _ = _
          rw [HRV.out]
          have := HB.out
          cases hq : readHouse hh with
          | none => simp
          | some z => rw [hq] at this; simp at this
        have z0 : w5.cell? ⟨w.heap.size, 0, none⟩ = some (.int .i64 0) := (M4.out.blk (i := 5) rfl).cell 0
        have zf0 : w5.frozen? ⟨w.heap.size, 0, none⟩ = false := (M4.out.blk (i := 5) rfl).frozen 0
        have z1 : w5.cell? ⟨w.heap.size, 1, none⟩ = some (.int .i64 0) := (M4.out.blk (i := 5) rfl).cell 1
        have zf1 : w5.frozen? ⟨w.heap.size, 1, none⟩ = false := (M4.out.blk (i := 5) rfl).frozen 1
        have z2 : w5.cell? ⟨w.heap.size, 2, none⟩ = some (.slice none 0 0) := (M4.out.blk (i := 5) rfl).cell 2
        have zf2 : w5.frozen? ⟨w.heap.size, 2, none⟩ = false := (M4.out.blk (i := 5) rfl).frozen 2
        have z3 : w5.cell? ⟨w.heap.size, 3, none⟩ = some (.int .i64 0) := (M4.out.blk (i := 5) rfl).cell 3
        have zf3 : w5.frozen? ⟨w.heap.size, 3, none⟩ = false := (M4.out.blk (i := 5) rfl).frozen 3
        have z4 : w5.cell? ⟨w.heap.size, 4, none⟩ = some (.int .i64 0) := (M4.out.blk (i := 5) rfl).cell 4
        have zf4 : w5.frozen? ⟨w.heap.size, 4, none⟩ = false := (M4.out.blk (i := 5) rfl).frozen 4
        have z5 : w5.cell? ⟨w.heap.size, 5, none⟩ = some (.int .i64 0) := (M4.out.blk (i := 5) rfl).cell 5
        have zf5 : w5.frozen? ⟨w.heap.size, 5, none⟩ = false := (M4.out.blk (i := 5) rfl).frozen 5
        have z6 : w5.cell? ⟨w.heap.size, 6, none⟩ = some (.int .i64 0) := (M4.out.blk (i := 5) rfl).cell 6
        have zf6 : w5.frozen? ⟨w.heap.size, 6, none⟩ = false := (M4.out.blk (i := 5) rfl).frozen 6
        have z7 : w5.cell? ⟨w.heap.size, 7, none⟩ = some (.int .i64 0) := (M4.out.blk (i := 5) rfl).cell 7
        have zf7 : w5.frozen? ⟨w.heap.size, 7, none⟩ = false := (M4.out.blk (i := 5) rfl).frozen 7
        have z8 : w5.cell? ⟨w.heap.size, 8, none⟩ = some (.int .i64 0) := (M4.out.blk (i := 5) rfl).cell 8
        have zf8 : w5.frozen? ⟨w.heap.size, 8, none⟩ = false := (M4.out.blk (i := 5) rfl).frozen 8
        have z9 : w5.cell? ⟨w.heap.size, 9, none⟩ = some (.slice none 0 0) := (M4.out.blk (i := 5) rfl).cell 9
        have zf9 : w5.frozen? ⟨w.heap.size, 9, none⟩ = false := (M4.out.blk (i := 5) rfl).frozen 9
        have M5 := Lib.hid (show Mem w ((w5.setCell ⟨w.heap.size, 0, none⟩ (.int .i64 0)).setCell ⟨w.heap.size, 1, none⟩ (.int .i64 0)) [blkI w.heap.size (w3.heap.size) THouse #[.int .i64 W, .int .i64 D, .slice p xs.length c, .int .i64 f, .int .i64 s, .int .i64 pr, .int .i64 cp, .int .i64 ck, .int .i64 bk, .slice q vs.length d], ownI w.heap.size TI 1 (p) (xs.length) (c) (ivs xs), ownI w.heap.size TVis 4 (q) (vs.length) (d) (vs.flatMap visitCells), ownI w.heap.size TStr 1 (some ⟨g2, 0, none⟩) (2) (c2) (strs (cutL 124 u)), ownI w.heap.size TStr 1 (some ⟨g1, 0, none⟩) (2) (c1) (strs (cutL 35 l)), blkI w.heap.size (w.heap.size) THouse #[.int .i64 0, .int .i64 0, .slice none 0 0, .int .i64 0, .int .i64 0, .int .i64 0, .int .i64 0, .int .i64 0, .int .i64 0, .slice none 0 0]] from ((((M4.out).store (i := 5) rfl 0 (.int .i64 0))).store (i := 5) rfl 1 (.int .i64 0)))
        have M6 := Lib.hid (show Mem w ((((w5.setCell ⟨w.heap.size, 0, none⟩ (.int .i64 0)).setCell ⟨w.heap.size, 1, none⟩ (.int .i64 0)).setCell ⟨w.heap.size, 2, none⟩ (.slice none 0 0)).setCell ⟨w.heap.size, 3, none⟩ (.int .i64 0)) [blkI w.heap.size (w3.heap.size) THouse #[.int .i64 W, .int .i64 D, .slice p xs.length c, .int .i64 f, .int .i64 s, .int .i64 pr, .int .i64 cp, .int .i64 ck, .int .i64 bk, .slice q vs.length d], ownI w.heap.size TI 1 (p) (xs.length) (c) (ivs xs), ownI w.heap.size TVis 4 (q) (vs.length) (d) (vs.flatMap visitCells), ownI w.heap.size TStr 1 (some ⟨g2, 0, none⟩) (2) (c2) (strs (cutL 124 u)), ownI w.heap.size TStr 1 (some ⟨g1, 0, none⟩) (2) (c1) (strs (cutL 35 l)), blkI w.heap.size (w.heap.size) THouse #[.int .i64 0, .int .i64 0, .slice none 0 0, .int .i64 0, .int .i64 0, .int .i64 0, .int .i64 0, .int .i64 0, .int .i64 0, .slice none 0 0]] from ((((M5.out).store (i := 5) rfl 2 (.slice none 0 0))).store (i := 5) rfl 3 (.int .i64 0)))
        have M7 := Lib.hid (show Mem w ((((((w5.setCell ⟨w.heap.size, 0, none⟩ (.int .i64 0)).setCell ⟨w.heap.size, 1, none⟩ (.int .i64 0)).setCell ⟨w.heap.size, 2, none⟩ (.slice none 0 0)).setCell ⟨w.heap.size, 3, none⟩ (.int .i64 0)).setCell ⟨w.heap.size, 4, none⟩ (.int .i64 0)).setCell ⟨w.heap.size, 5, none⟩ (.int .i64 0)) [blkI w.heap.size (w3.heap.size) THouse #[.int .i64 W, .int .i64 D, .slice p xs.length c, .int .i64 f, .int .i64 s, .int .i64 pr, .int .i64 cp, .int .i64 ck, .int .i64 bk, .slice q vs.length d], ownI w.heap.size TI 1 (p) (xs.length) (c) (ivs xs), ownI w.heap.size TVis 4 (q) (vs.length) (d) (vs.flatMap visitCells), ownI w.heap.size TStr 1 (some ⟨g2, 0, none⟩) (2) (c2) (strs (cutL 124 u)), ownI w.heap.size TStr 1 (some ⟨g1, 0, none⟩) (2) (c1) (strs (cutL 35 l)), blkI w.heap.size (w.heap.size) THouse #[.int .i64 0, .int .i64 0, .slice none 0 0, .int .i64 0, .int .i64 0, .int .i64 0, .int .i64 0, .int .i64 0, .int .i64 0, .slice none 0 0]] from ((((M6.out).store (i := 5) rfl 4 (.int .i64 0))).store (i := 5) rfl 5 (.int .i64 0)))
        have M8 := Lib.hid (show Mem w ((((((((w5.setCell ⟨w.heap.size, 0, none⟩ (.int .i64 0)).setCell ⟨w.heap.size, 1, none⟩ (.int .i64 0)).setCell ⟨w.heap.size, 2, none⟩ (.slice none 0 0)).setCell ⟨w.heap.size, 3, none⟩ (.int .i64 0)).setCell ⟨w.heap.size, 4, none⟩ (.int .i64 0)).setCell ⟨w.heap.size, 5, none⟩ (.int .i64 0)).setCell ⟨w.heap.size, 6, none⟩ (.int .i64 0)).setCell ⟨w.heap.size, 7, none⟩ (.int .i64 0)) [blkI w.heap.size (w3.heap.size) THouse #[.int .i64 W, .int .i64 D, .slice p xs.length c, .int .i64 f, .int .i64 s, .int .i64 pr, .int .i64 cp, .int .i64 ck, .int .i64 bk, .slice q vs.length d], ownI w.heap.size TI 1 (p) (xs.length) (c) (ivs xs), ownI w.heap.size TVis 4 (q) (vs.length) (d) (vs.flatMap visitCells), ownI w.heap.size TStr 1 (some ⟨g2, 0, none⟩) (2) (c2) (strs (cutL 124 u)), ownI w.heap.size TStr 1 (some ⟨g1, 0, none⟩) (2) (c1) (strs (cutL 35 l)), blkI w.heap.size (w.heap.size) THouse #[.int .i64 0, .int .i64 0, .slice none 0 0, .int .i64 0, .int .i64 0, .int .i64 0, .int .i64 0, .int .i64 0, .int .i64 0, .slice none 0 0]] from ((((M7.out).store (i := 5) rfl 6 (.int .i64 0))).store (i := 5) rfl 7 (.int .i64 0)))
        have M9 := Lib.hid (show Mem w ((((((((((w5.setCell ⟨w.heap.size, 0, none⟩ (.int .i64 0)).setCell ⟨w.heap.size, 1, none⟩ (.int .i64 0)).setCell ⟨w.heap.size, 2, none⟩ (.slice none 0 0)).setCell ⟨w.heap.size, 3, none⟩ (.int .i64 0)).setCell ⟨w.heap.size, 4, none⟩ (.int .i64 0)).setCell ⟨w.heap.size, 5, none⟩ (.int .i64 0)).setCell ⟨w.heap.size, 6, none⟩ (.int .i64 0)).setCell ⟨w.heap.size, 7, none⟩ (.int .i64 0)).setCell ⟨w.heap.size, 8, none⟩ (.int .i64 0)).setCell ⟨w.heap.size, 9, none⟩ (.slice none 0 0)) [blkI w.heap.size (w3.heap.size) THouse #[.int .i64 W, .int .i64 D, .slice p xs.length c, .int .i64 f, .int .i64 s, .int .i64 pr, .int .i64 cp, .int .i64 ck, .int .i64 bk, .slice q vs.length d], ownI w.heap.size TI 1 (p) (xs.length) (c) (ivs xs), ownI w.heap.size TVis 4 (q) (vs.length) (d) (vs.flatMap visitCells), ownI w.heap.size TStr 1 (some ⟨g2, 0, none⟩) (2) (c2) (strs (cutL 124 u)), ownI w.heap.size TStr 1 (some ⟨g1, 0, none⟩) (2) (c1) (strs (cutL 35 l)), blkI w.heap.size (w.heap.size) THouse #[.int .i64 0, .int .i64 0, .slice none 0 0, .int .i64 0, .int .i64 0, .int .i64 0, .int .i64 0, .int .i64 0, .int .i64 0, .slice none 0 0]] from ((((M8.out).store (i := 5) rfl 8 (.int .i64 0))).store (i := 5) rfl 9 (.slice none 0 0)))
        go_wp2
        clear z0 zf0 z1 zf1 z2 zf2 z3 zf3 z4 zf4 z5 zf5 z6 zf6 z7 zf7 z8 zf8 z9 zf9 lt4_0 lt4_5
        have M10 := Lib.hid (show Mem w ((((((((((w5.setCell ⟨w.heap.size, 0, none⟩ (.int .i64 0)).setCell ⟨w.heap.size, 1, none⟩ (.int .i64 0)).setCell ⟨w.heap.size, 2, none⟩ (.slice none 0 0)).setCell ⟨w.heap.size, 3, none⟩ (.int .i64 0)).setCell ⟨w.heap.size, 4, none⟩ (.int .i64 0)).setCell ⟨w.heap.size, 5, none⟩ (.int .i64 0)).setCell ⟨w.heap.size, 6, none⟩ (.int .i64 0)).setCell ⟨w.heap.size, 7, none⟩ (.int .i64 0)).setCell ⟨w.heap.size, 8, none⟩ (.int .i64 0)).setCell ⟨w.heap.size, 9, none⟩ (.slice none 0 0)) [blkI w.heap.size (w3.heap.size) THouse #[.int .i64 W, .int .i64 D, .slice p xs.length c, .int .i64 f, .int .i64 s, .int .i64 pr, .int .i64 cp, .int .i64 ck, .int .i64 bk, .slice q vs.length d], ownI w.heap.size TI 1 (p) (xs.length) (c) (ivs xs), ownI w.heap.size TVis 4 (q) (vs.length) (d) (vs.flatMap visitCells), ownI w.heap.size TStr 1 (some ⟨g2, 0, none⟩) (2) (c2) (strs (cutL 124 u)), ownI w.heap.size TStr 1 (some ⟨g1, 0, none⟩) (2) (c1) (strs (cutL 35 l)), blkI w.heap.size (w.heap.size) THouse #[.int .i64 0, .int .i64 0, .slice none 0 0, .int .i64 0, .int .i64 0, .int .i64 0, .int .i64 0, .int .i64 0, .int .i64 0, .slice none 0 0]] from M9.out)
        generalize hwz : World.setCell _ _ _ = wz
        rw [hwz] at M10
        clear hwz M4 M5 M6 M7 M8 M9
        have y0 : wz.cell? ⟨w.heap.size, 0, none⟩ = some (.int .i64 0) := (M10.out.blk (i := 5) rfl).cell 0
        have y1 : wz.cell? ⟨w.heap.size, 1, none⟩ = some (.int .i64 0) := (M10.out.blk (i := 5) rfl).cell 1
        have y2 : wz.cell? ⟨w.heap.size, 2, none⟩ = some (.slice none 0 0) := (M10.out.blk (i := 5) rfl).cell 2
        have y3 : wz.cell? ⟨w.heap.size, 3, none⟩ = some (.int .i64 0) := (M10.out.blk (i := 5) rfl).cell 3
        have y4 : wz.cell? ⟨w.heap.size, 4, none⟩ = some (.int .i64 0) := (M10.out.blk (i := 5) rfl).cell 4
        have y5 : wz.cell? ⟨w.heap.size, 5, none⟩ = some (.int .i64 0) := (M10.out.blk (i := 5) rfl).cell 5
        have y6 : wz.cell? ⟨w.heap.size, 6, none⟩ = some (.int .i64 0) := (M10.out.blk (i := 5) rfl).cell 6
        have y7 : wz.cell? ⟨w.heap.size, 7, none⟩ = some (.int .i64 0) := (M10.out.blk (i := 5) rfl).cell 7
        have y8 : wz.cell? ⟨w.heap.size, 8, none⟩ = some (.int .i64 0) := (M10.out.blk (i := 5) rfl).cell 8
        have y9 : wz.cell? ⟨w.heap.size, 9, none⟩ = some (.slice none 0 0) := (M10.out.blk (i := 5) rfl).cell 9
        exact bodyPost_ret (v := .tuple #[.agg #[.int .i64 0, .int .i64 0, .slice none 0 0, .int .i64 0, .int .i64 0, .int .i64 0, .int .i64 0, .int .i64 0, .int .i64 0, .slice none 0 0], .int .i64 0, .bool false]) (by simp [results, Tryz.results43, go_sem, *]) rfl (ret_save_no hno.out M10.out.ext)
      | true =>
        have hsome : Hid (readHouse hh = some ⟨W, D, xs, f, s, pr, cp, ck, bk, vs⟩) := by
          show _ = _
          have h1 := HB.out; have h2 := HH.out
          cases hq : readHouse hh with
          | none => rw [hq] at h1; simp at h1
          | some z => rw [hq] at h2; simpa using h2
        have HI : Hid (IsHouse w5 ⟨W, D, xs, f, s, pr, cp, ck, bk, vs⟩ p xs.length c q vs.length d) := ⟨M4.out.sl (i := 1) rfl, M4.out.sl (i := 2) rfl⟩
        have HT : Hid (∀ (w' : World), Ext w5 w' → Calls Tryz.prog 51 #[.agg #[.int .i64 W, .int .i64 D, .slice p xs.length c, .int .i64 f, .int .i64 s, .int .i64 pr, .int .i64 cp, .int .i64 ck, .int .i64 bk, .slice q vs.length d], .int .i64 x] w' fun e w'' => e = .returned (str (saveText ⟨W, D, xs, f, s, pr, cp, ck, bk, vs⟩ x)) ∧ Ext w' w'') := fun w' hx => specSaveText ⟨W, D, xs, f, s, pr, cp, ck, bk, vs⟩ x p xs.length c q vs.length d w' (HI.out.ext hx)
        generalize hht : saveText ⟨W, D, xs, f, s, pr, cp, ck, bk, vs⟩ x = t at *
        have HTT := Lib.hid hht
        clear hht HI
        have c0 : w5.cell? ⟨w3.heap.size, 0, none⟩ = some (.int .i64 W) := (M4.out.blk (i := 0) rfl).cell 0
        have c1 : w5.cell? ⟨w3.heap.size, 1, none⟩ = some (.int .i64 D) := (M4.out.blk (i := 0) rfl).cell 1
        have c2 : w5.cell? ⟨w3.heap.size, 2, none⟩ = some (.slice p xs.length c) := (M4.out.blk (i := 0) rfl).cell 2
        have c3 : w5.cell? ⟨w3.heap.size, 3, none⟩ = some (.int .i64 f) := (M4.out.blk (i := 0) rfl).cell 3
        have c4 : w5.cell? ⟨w3.heap.size, 4, none⟩ = some (.int .i64 s) := (M4.out.blk (i := 0) rfl).cell 4
        have c5 : w5.cell? ⟨w3.heap.size, 5, none⟩ = some (.int .i64 pr) := (M4.out.blk (i := 0) rfl).cell 5
        have c6 : w5.cell? ⟨w3.heap.size, 6, none⟩ = some (.int .i64 cp) := (M4.out.blk (i := 0) rfl).cell 6
        have c7 : w5.cell? ⟨w3.heap.size, 7, none⟩ = some (.int .i64 ck) := (M4.out.blk (i := 0) rfl).cell 7
        have c8 : w5.cell? ⟨w3.heap.size, 8, none⟩ = some (.int .i64 bk) := (M4.out.blk (i := 0) rfl).cell 8
        have c9 : w5.cell? ⟨w3.heap.size, 9, none⟩ = some (.slice q vs.length d) := (M4.out.blk (i := 0) rfl).cell 9
        go_wp2_with fail
        clear c0 c1 c2 c3 c4 c5 c6 c7 c8 c9
        refine (HT.out _ (Ext.refl _)).mono ?_
        rintro e w4 ⟨rfl, hx4⟩
        have M5 := Lib.hid (show Mem w w4 [blkI w.heap.size (w3.heap.size) THouse #[.int .i64 W, .int .i64 D, .slice p xs.length c, .int .i64 f, .int .i64 s, .int .i64 pr, .int .i64 cp, .int .i64 ck, .int .i64 bk, .slice q vs.length d], ownI w.heap.size TI 1 (p) (xs.length) (c) (ivs xs), ownI w.heap.size TVis 4 (q) (vs.length) (d) (vs.flatMap visitCells), ownI w.heap.size TStr 1 (some ⟨g2, 0, none⟩) (2) (c2) (strs (cutL 124 u)), ownI w.heap.size TStr 1 (some ⟨g1, 0, none⟩) (2) (c1) (strs (cutL 35 l)), blkI w.heap.size (w.heap.size) THouse #[.int .i64 0, .int .i64 0, .slice none 0 0, .int .i64 0, .int .i64 0, .int .i64 0, .int .i64 0, .int .i64 0, .int .i64 0, .slice none 0 0]] from (M4.out).adv hx4)
        clear M4
        clear lt4_0 lt4_5
        have lt5_0 : w3.heap.size < w4.heap.size := (M5.out.lt (i := 0) rfl rfl).2
        have lt5_5 : w.heap.size < w4.heap.size := (M5.out.lt (i := 5) rfl rfl).2
        clear hx4
        by_cases ht : t = l
        · skip
          have hd2 : (t == l) = true := by simp [ht]
          have hyes : Hid (readSave l = some (⟨W, D, xs, f, s, pr, cp, ck, bk, vs⟩, x)) := by show _ = _; rw [HRV.out, hsome.out]; simp [HTT.out, ht]
          clear ht
          have z0 : w4.cell? ⟨w.heap.size, 0, none⟩ = some (.int .i64 0) := (M5.out.blk (i := 5) rfl).cell 0
          have zf0 : w4.frozen? ⟨w.heap.size, 0, none⟩ = false := (M5.out.blk (i := 5) rfl).frozen 0
          have z1 : w4.cell? ⟨w.heap.size, 1, none⟩ = some (.int .i64 0) := (M5.out.blk (i := 5) rfl).cell 1
          have zf1 : w4.frozen? ⟨w.heap.size, 1, none⟩ = false := (M5.out.blk (i := 5) rfl).frozen 1
          have z2 : w4.cell? ⟨w.heap.size, 2, none⟩ = some (.slice none 0 0) := (M5.out.blk (i := 5) rfl).cell 2
          have zf2 : w4.frozen? ⟨w.heap.size, 2, none⟩ = false := (M5.out.blk (i := 5) rfl).frozen 2
          have z3 : w4.cell? ⟨w.heap.size, 3, none⟩ = some (.int .i64 0) := (M5.out.blk (i := 5) rfl).cell 3
          have zf3 : w4.frozen? ⟨w.heap.size, 3, none⟩ = false := (M5.out.blk (i := 5) rfl).frozen 3
          have z4 : w4.cell? ⟨w.heap.size, 4, none⟩ = some (.int .i64 0) := (M5.out.blk (i := 5) rfl).cell 4
          have zf4 : w4.frozen? ⟨w.heap.size, 4, none⟩ = false := (M5.out.blk (i := 5) rfl).frozen 4
          have z5 : w4.cell? ⟨w.heap.size, 5, none⟩ = some (.int .i64 0) := (M5.out.blk (i := 5) rfl).cell 5
          have zf5 : w4.frozen? ⟨w.heap.size, 5, none⟩ = false := (M5.out.blk (i := 5) rfl).frozen 5
          have z6 : w4.cell? ⟨w.heap.size, 6, none⟩ = some (.int .i64 0) := (M5.out.blk (i := 5) rfl).cell 6
          have zf6 : w4.frozen? ⟨w.heap.size, 6, none⟩ = false := (M5.out.blk (i := 5) rfl).frozen 6
          have z7 : w4.cell? ⟨w.heap.size, 7, none⟩ = some (.int .i64 0) := (M5.out.blk (i := 5) rfl).cell 7
          have zf7 : w4.frozen? ⟨w.heap.size, 7, none⟩ = false := (M5.out.blk (i := 5) rfl).frozen 7
          have z8 : w4.cell? ⟨w.heap.size, 8, none⟩ = some (.int .i64 0) := (M5.out.blk (i := 5) rfl).cell 8
          have zf8 : w4.frozen? ⟨w.heap.size, 8, none⟩ = false := (M5.out.blk (i := 5) rfl).frozen 8
          have z9 : w4.cell? ⟨w.heap.size, 9, none⟩ = some (.slice none 0 0) := (M5.out.blk (i := 5) rfl).cell 9
          have zf9 : w4.frozen? ⟨w.heap.size, 9, none⟩ = false := (M5.out.blk (i := 5) rfl).frozen 9
          have b0 : w4.cell? ⟨w3.heap.size, 0, none⟩ = some (.int .i64 W) := (M5.out.blk (i := 0) rfl).cell 0
          have b1 : w4.cell? ⟨w3.heap.size, 1, none⟩ = some (.int .i64 D) := (M5.out.blk (i := 0) rfl).cell 1
          have b2 : w4.cell? ⟨w3.heap.size, 2, none⟩ = some (.slice p xs.length c) := (M5.out.blk (i := 0) rfl).cell 2
          have b3 : w4.cell? ⟨w3.heap.size, 3, none⟩ = some (.int .i64 f) := (M5.out.blk (i := 0) rfl).cell 3
          have b4 : w4.cell? ⟨w3.heap.size, 4, none⟩ = some (.int .i64 s) := (M5.out.blk (i := 0) rfl).cell 4
          have b5 : w4.cell? ⟨w3.heap.size, 5, none⟩ = some (.int .i64 pr) := (M5.out.blk (i := 0) rfl).cell 5
          have b6 : w4.cell? ⟨w3.heap.size, 6, none⟩ = some (.int .i64 cp) := (M5.out.blk (i := 0) rfl).cell 6
          have b7 : w4.cell? ⟨w3.heap.size, 7, none⟩ = some (.int .i64 ck) := (M5.out.blk (i := 0) rfl).cell 7
          have b8 : w4.cell? ⟨w3.heap.size, 8, none⟩ = some (.int .i64 bk) := (M5.out.blk (i := 0) rfl).cell 8
          have b9 : w4.cell? ⟨w3.heap.size, 9, none⟩ = some (.slice q vs.length d) := (M5.out.blk (i := 0) rfl).cell 9
          have ne0_1a : ¬ (w3.heap.size = w.heap.size) := M5.out.ne (i := 0) (j := 5) (by omega) rfl rfl rfl rfl
          have ne0_1b : ¬ (w.heap.size = w3.heap.size) := fun h => ne0_1a h.symm
          have M6 := Lib.hid (show Mem w ((w4.setCell ⟨w.heap.size, 0, none⟩ (.int .i64 W)).setCell ⟨w.heap.size, 1, none⟩ (.int .i64 D)) [blkI w.heap.size (w3.heap.size) THouse #[.int .i64 W, .int .i64 D, .slice p xs.length c, .int .i64 f, .int .i64 s, .int .i64 pr, .int .i64 cp, .int .i64 ck, .int .i64 bk, .slice q vs.length d], ownI w.heap.size TI 1 (p) (xs.length) (c) (ivs xs), ownI w.heap.size TVis 4 (q) (vs.length) (d) (vs.flatMap visitCells), ownI w.heap.size TStr 1 (some ⟨g2, 0, none⟩) (2) (c2) (strs (cutL 124 u)), ownI w.heap.size TStr 1 (some ⟨g1, 0, none⟩) (2) (c1) (strs (cutL 35 l)), blkI w.heap.size (w.heap.size) THouse #[.int .i64 W, .int .i64 D, .slice none 0 0, .int .i64 0, .int .i64 0, .int .i64 0, .int .i64 0, .int .i64 0, .int .i64 0, .slice none 0 0]] from ((((M5.out).store (i := 5) rfl 0 (.int .i64 W))).store (i := 5) rfl 1 (.int .i64 D)))
          have M7 := Lib.hid (show Mem w ((((w4.setCell ⟨w.heap.size, 0, none⟩ (.int .i64 W)).setCell ⟨w.heap.size, 1, none⟩ (.int .i64 D)).setCell ⟨w.heap.size, 2, none⟩ (.slice p xs.length c)).setCell ⟨w.heap.size, 3, none⟩ (.int .i64 f)) [blkI w.heap.size (w3.heap.size) THouse #[.int .i64 W, .int .i64 D, .slice p xs.length c, .int .i64 f, .int .i64 s, .int .i64 pr, .int .i64 cp, .int .i64 ck, .int .i64 bk, .slice q vs.length d], ownI w.heap.size TI 1 (p) (xs.length) (c) (ivs xs), ownI w.heap.size TVis 4 (q) (vs.length) (d) (vs.flatMap visitCells), ownI w.heap.size TStr 1 (some ⟨g2, 0, none⟩) (2) (c2) (strs (cutL 124 u)), ownI w.heap.size TStr 1 (some ⟨g1, 0, none⟩) (2) (c1) (strs (cutL 35 l)), blkI w.heap.size (w.heap.size) THouse #[.int .i64 W, .int .i64 D, .slice p xs.length c, .int .i64 f, .int .i64 0, .int .i64 0, .int .i64 0, .int .i64 0, .int .i64 0, .slice none 0 0]] from ((((M6.out).store (i := 5) rfl 2 (.slice p xs.length c))).store (i := 5) rfl 3 (.int .i64 f)))
          have M8 := Lib.hid (show Mem w ((((((w4.setCell ⟨w.heap.size, 0, none⟩ (.int .i64 W)).setCell ⟨w.heap.size, 1, none⟩ (.int .i64 D)).setCell ⟨w.heap.size, 2, none⟩ (.slice p xs.length c)).setCell ⟨w.heap.size, 3, none⟩ (.int .i64 f)).setCell ⟨w.heap.size, 4, none⟩ (.int .i64 s)).setCell ⟨w.heap.size, 5, none⟩ (.int .i64 pr)) [blkI w.heap.size (w3.heap.size) THouse #[.int .i64 W, .int .i64 D, .slice p xs.length c, .int .i64 f, .int .i64 s, .int .i64 pr, .int .i64 cp, .int .i64 ck, .int .i64 bk, .slice q vs.length d], ownI w.heap.size TI 1 (p) (xs.length) (c) (ivs xs), ownI w.heap.size TVis 4 (q) (vs.length) (d) (vs.flatMap visitCells), ownI w.heap.size TStr 1 (some ⟨g2, 0, none⟩) (2) (c2) (strs (cutL 124 u)), ownI w.heap.size TStr 1 (some ⟨g1, 0, none⟩) (2) (c1) (strs (cutL 35 l)), blkI w.heap.size (w.heap.size) THouse #[.int .i64 W, .int .i64 D, .slice p xs.length c, .int .i64 f, .int .i64 s, .int .i64 pr, .int .i64 0, .int .i64 0, .int .i64 0, .slice none 0 0]] from ((((M7.out).store (i := 5) rfl 4 (.int .i64 s))).store (i := 5) rfl 5 (.int .i64 pr)))
          have M9 := Lib.hid (show Mem w ((((((((w4.setCell ⟨w.heap.size, 0, none⟩ (.int .i64 W)).setCell ⟨w.heap.size, 1, none⟩ (.int .i64 D)).setCell ⟨w.heap.size, 2, none⟩ (.slice p xs.length c)).setCell ⟨w.heap.size, 3, none⟩ (.int .i64 f)).setCell ⟨w.heap.size, 4, none⟩ (.int .i64 s)).setCell ⟨w.heap.size, 5, none⟩ (.int .i64 pr)).setCell ⟨w.heap.size, 6, none⟩ (.int .i64 cp)).setCell ⟨w.heap.size, 7, none⟩ (.int .i64 ck)) [blkI w.heap.size (w3.heap.size) THouse #[.int .i64 W, .int .i64 D, .slice p xs.length c, .int .i64 f, .int .i64 s, .int .i64 pr, .int .i64 cp, .int .i64 ck, .int .i64 bk, .slice q vs.length d], ownI w.heap.size TI 1 (p) (xs.length) (c) (ivs xs), ownI w.heap.size TVis 4 (q) (vs.length) (d) (vs.flatMap visitCells), ownI w.heap.size TStr 1 (some ⟨g2, 0, none⟩) (2) (c2) (strs (cutL 124 u)), ownI w.heap.size TStr 1 (some ⟨g1, 0, none⟩) (2) (c1) (strs (cutL 35 l)), blkI w.heap.size (w.heap.size) THouse #[.int .i64 W, .int .i64 D, .slice p xs.length c, .int .i64 f, .int .i64 s, .int .i64 pr, .int .i64 cp, .int .i64 ck, .int .i64 0, .slice none 0 0]] from ((((M8.out).store (i := 5) rfl 6 (.int .i64 cp))).store (i := 5) rfl 7 (.int .i64 ck)))
          have M10 := Lib.hid (show Mem w ((((((((((w4.setCell ⟨w.heap.size, 0, none⟩ (.int .i64 W)).setCell ⟨w.heap.size, 1, none⟩ (.int .i64 D)).setCell ⟨w.heap.size, 2, none⟩ (.slice p xs.length c)).setCell ⟨w.heap.size, 3, none⟩ (.int .i64 f)).setCell ⟨w.heap.size, 4, none⟩ (.int .i64 s)).setCell ⟨w.heap.size, 5, none⟩ (.int .i64 pr)).setCell ⟨w.heap.size, 6, none⟩ (.int .i64 cp)).setCell ⟨w.heap.size, 7, none⟩ (.int .i64 ck)).setCell ⟨w.heap.size, 8, none⟩ (.int .i64 bk)).setCell ⟨w.heap.size, 9, none⟩ (.slice q vs.length d)) [blkI w.heap.size (w3.heap.size) THouse #[.int .i64 W, .int .i64 D, .slice p xs.length c, .int .i64 f, .int .i64 s, .int .i64 pr, .int .i64 cp, .int .i64 ck, .int .i64 bk, .slice q vs.length d], ownI w.heap.size TI 1 (p) (xs.length) (c) (ivs xs), ownI w.heap.size TVis 4 (q) (vs.length) (d) (vs.flatMap visitCells), ownI w.heap.size TStr 1 (some ⟨g2, 0, none⟩) (2) (c2) (strs (cutL 124 u)), ownI w.heap.size TStr 1 (some ⟨g1, 0, none⟩) (2) (c1) (strs (cutL 35 l)), blkI w.heap.size (w.heap.size) THouse #[.int .i64 W, .int .i64 D, .slice p xs.length c, .int .i64 f, .int .i64 s, .int .i64 pr, .int .i64 cp, .int .i64 ck, .int .i64 bk, .slice q vs.length d]] from ((((M9.out).store (i := 5) rfl 8 (.int .i64 bk))).store (i := 5) rfl 9 (.slice q vs.length d)))
          go_wp2
          clear z0 zf0 z1 zf1 z2 zf2 z3 zf3 z4 zf4 z5 zf5 z6 zf6 z7 zf7 z8 zf8 z9 zf9 b0 b1 b2 b3 b4 b5 b6 b7 b8 b9 ne0_1a ne0_1b lt5_0 lt5_5
          have M11 := Lib.hid (show Mem w ((((((((((w4.setCell ⟨w.heap.size, 0, none⟩ (.int .i64 W)).setCell ⟨w.heap.size, 1, none⟩ (.int .i64 D)).setCell ⟨w.heap.size, 2, none⟩ (.slice p xs.length c)).setCell ⟨w.heap.size, 3, none⟩ (.int .i64 f)).setCell ⟨w.heap.size, 4, none⟩ (.int .i64 s)).setCell ⟨w.heap.size, 5, none⟩ (.int .i64 pr)).setCell ⟨w.heap.size, 6, none⟩ (.int .i64 cp)).setCell ⟨w.heap.size, 7, none⟩ (.int .i64 ck)).setCell ⟨w.heap.size, 8, none⟩ (.int .i64 bk)).setCell ⟨w.heap.size, 9, none⟩ (.slice q vs.length d)) [blkI w.heap.size (w3.heap.size) THouse #[.int .i64 W, .int .i64 D, .slice p xs.length c, .int .i64 f, .int .i64 s, .int .i64 pr, .int .i64 cp, .int .i64 ck, .int .i64 bk, .slice q vs.length d], ownI w.heap.size TI 1 (p) (xs.length) (c) (ivs xs), ownI w.heap.size TVis 4 (q) (vs.length) (d) (vs.flatMap visitCells), ownI w.heap.size TStr 1 (some ⟨g2, 0, none⟩) (2) (c2) (strs (cutL 124 u)), ownI w.heap.size TStr 1 (some ⟨g1, 0, none⟩) (2) (c1) (strs (cutL 35 l)), blkI w.heap.size (w.heap.size) THouse #[.int .i64 W, .int .i64 D, .slice p xs.length c, .int .i64 f, .int .i64 s, .int .i64 pr, .int .i64 cp, .int .i64 ck, .int .i64 bk, .slice q vs.length d]] from M10.out)
          generalize hwz : World.setCell _ _ _ = wz
          rw [hwz] at M11
          clear hwz M5 M6 M7 M8 M9 M10
          have y0 : wz.cell? ⟨w.heap.size, 0, none⟩ = some (.int .i64 W) := (M11.out.blk (i := 5) rfl).cell 0
          have y1 : wz.cell? ⟨w.heap.size, 1, none⟩ = some (.int .i64 D) := (M11.out.blk (i := 5) rfl).cell 1
          have y2 : wz.cell? ⟨w.heap.size, 2, none⟩ = some (.slice p xs.length c) := (M11.out.blk (i := 5) rfl).cell 2
          have y3 : wz.cell? ⟨w.heap.size, 3, none⟩ = some (.int .i64 f) := (M11.out.blk (i := 5) rfl).cell 3
          have y4 : wz.cell? ⟨w.heap.size, 4, none⟩ = some (.int .i64 s) := (M11.out.blk (i := 5) rfl).cell 4
          have y5 : wz.cell? ⟨w.heap.size, 5, none⟩ = some (.int .i64 pr) := (M11.out.blk (i := 5) rfl).cell 5
          have y6 : wz.cell? ⟨w.heap.size, 6, none⟩ = some (.int .i64 cp) := (M11.out.blk (i := 5) rfl).cell 6
          have y7 : wz.cell? ⟨w.heap.size, 7, none⟩ = some (.int .i64 ck) := (M11.out.blk (i := 5) rfl).cell 7
          have y8 : wz.cell? ⟨w.heap.size, 8, none⟩ = some (.int .i64 bk) := (M11.out.blk (i := 5) rfl).cell 8
          have y9 : wz.cell? ⟨w.heap.size, 9, none⟩ = some (.slice q vs.length d) := (M11.out.blk (i := 5) rfl).cell 9
          exact bodyPost_ret (v := .tuple #[.agg #[.int .i64 W, .int .i64 D, .slice p xs.length c, .int .i64 f, .int .i64 s, .int .i64 pr, .int .i64 cp, .int .i64 ck, .int .i64 bk, .slice q vs.length d], .int .i64 x, .bool true]) (by simp [results, Tryz.results43, go_sem, *]) rfl (ret_save_yes hyes.out (M11.out.own (i := 1) rfl) (M11.out.own (i := 2) rfl) M11.out.ext)
        · skip
          have hd2 : (t == l) = false := by simp [ht]
          have hno : Hid (readSave l = none) := by show _ = _; rw [HRV.out, hsome.out]; simp [HTT.out, ht]
          clear ht
          have z0 : w4.cell? ⟨w.heap.size, 0, none⟩ = some (.int .i64 0) := (M5.out.blk (i := 5) rfl).cell 0
          have zf0 : w4.frozen? ⟨w.heap.size, 0, none⟩ = false := (M5.out.blk (i := 5) rfl).frozen 0
          have z1 : w4.cell? ⟨w.heap.size, 1, none⟩ = some (.int .i64 0) := (M5.out.blk (i := 5) rfl).cell 1
          have zf1 : w4.frozen? ⟨w.heap.size, 1, none⟩ = false := (M5.out.blk (i := 5) rfl).frozen 1
          have z2 : w4.cell? ⟨w.heap.size, 2, none⟩ = some (.slice none 0 0) := (M5.out.blk (i := 5) rfl).cell 2
          have zf2 : w4.frozen? ⟨w.heap.size, 2, none⟩ = false := (M5.out.blk (i := 5) rfl).frozen 2
          have z3 : w4.cell? ⟨w.heap.size, 3, none⟩ = some (.int .i64 0) := (M5.out.blk (i := 5) rfl).cell 3
          have zf3 : w4.frozen? ⟨w.heap.size, 3, none⟩ = false := (M5.out.blk (i := 5) rfl).frozen 3
          have z4 : w4.cell? ⟨w.heap.size, 4, none⟩ = some (.int .i64 0) := (M5.out.blk (i := 5) rfl).cell 4
          have zf4 : w4.frozen? ⟨w.heap.size, 4, none⟩ = false := (M5.out.blk (i := 5) rfl).frozen 4
          have z5 : w4.cell? ⟨w.heap.size, 5, none⟩ = some (.int .i64 0) := (M5.out.blk (i := 5) rfl).cell 5
          have zf5 : w4.frozen? ⟨w.heap.size, 5, none⟩ = false := (M5.out.blk (i := 5) rfl).frozen 5
          have z6 : w4.cell? ⟨w.heap.size, 6, none⟩ = some (.int .i64 0) := (M5.out.blk (i := 5) rfl).cell 6
          have zf6 : w4.frozen? ⟨w.heap.size, 6, none⟩ = false := (M5.out.blk (i := 5) rfl).frozen 6
          have z7 : w4.cell? ⟨w.heap.size, 7, none⟩ = some (.int .i64 0) := (M5.out.blk (i := 5) rfl).cell 7
          have zf7 : w4.frozen? ⟨w.heap.size, 7, none⟩ = false := (M5.out.blk (i := 5) rfl).frozen 7
          have z8 : w4.cell? ⟨w.heap.size, 8, none⟩ = some (.int .i64 0) := (M5.out.blk (i := 5) rfl).cell 8
          have zf8 : w4.frozen? ⟨w.heap.size, 8, none⟩ = false := (M5.out.blk (i := 5) rfl).frozen 8
          have z9 : w4.cell? ⟨w.heap.size, 9, none⟩ = some (.slice none 0 0) := (M5.out.blk (i := 5) rfl).cell 9
          have zf9 : w4.frozen? ⟨w.heap.size, 9, none⟩ = false := (M5.out.blk (i := 5) rfl).frozen 9
          have M6 := Lib.hid (show Mem w ((w4.setCell ⟨w.heap.size, 0, none⟩ (.int .i64 0)).setCell ⟨w.heap.size, 1, none⟩ (.int .i64 0)) [blkI w.heap.size (w3.heap.size) THouse #[.int .i64 W, .int .i64 D, .slice p xs.length c, .int .i64 f, .int .i64 s, .int .i64 pr, .int .i64 cp, .int .i64 ck, .int .i64 bk, .slice q vs.length d], ownI w.heap.size TI 1 (p) (xs.length) (c) (ivs xs), ownI w.heap.size TVis 4 (q) (vs.length) (d) (vs.flatMap visitCells), ownI w.heap.size TStr 1 (some ⟨g2, 0, none⟩) (2) (c2) (strs (cutL 124 u)), ownI w.heap.size TStr 1 (some ⟨g1, 0, none⟩) (2) (c1) (strs (cutL 35 l)), blkI w.heap.size (w.heap.size) THouse #[.int .i64 0, .int .i64 0, .slice none 0 0, .int .i64 0, .int .i64 0, .int .i64 0, .int .i64 0, .int .i64 0, .int .i64 0, .slice none 0 0]] from ((((M5.out).store (i := 5) rfl 0 (.int .i64 0))).store (i := 5) rfl 1 (.int .i64 0)))
          have M7 := Lib.hid (show Mem w ((((w4.setCell ⟨w.heap.size, 0, none⟩ (.int .i64 0)).setCell ⟨w.heap.size, 1, none⟩ (.int .i64 0)).setCell ⟨w.heap.size, 2, none⟩ (.slice none 0 0)).setCell ⟨w.heap.size, 3, none⟩ (.int .i64 0)) [blkI w.heap.size (w3.heap.size) THouse #[.int .i64 W, .int .i64 D, .slice p xs.length c, .int .i64 f, .int .i64 s, .int .i64 pr, .int .i64 cp, .int .i64 ck, .int .i64 bk, .slice q vs.length d], ownI w.heap.size TI 1 (p) (xs.length) (c) (ivs xs), ownI w.heap.size TVis 4 (q) (vs.length) (d) (vs.flatMap visitCells), ownI w.heap.size TStr 1 (some ⟨g2, 0, none⟩) (2) (c2) (strs (cutL 124 u)), ownI w.heap.size TStr 1 (some ⟨g1, 0, none⟩) (2) (c1) (strs (cutL 35 l)), blkI w.heap.size (w.heap.size) THouse #[.int .i64 0, .int .i64 0, .slice none 0 0, .int .i64 0, .int .i64 0, .int .i64 0, .int .i64 0, .int .i64 0, .int .i64 0, .slice none 0 0]] from ((((M6.out).store (i := 5) rfl 2 (.slice none 0 0))).store (i := 5) rfl 3 (.int .i64 0)))
          have M8 := Lib.hid (show Mem w ((((((w4.setCell ⟨w.heap.size, 0, none⟩ (.int .i64 0)).setCell ⟨w.heap.size, 1, none⟩ (.int .i64 0)).setCell ⟨w.heap.size, 2, none⟩ (.slice none 0 0)).setCell ⟨w.heap.size, 3, none⟩ (.int .i64 0)).setCell ⟨w.heap.size, 4, none⟩ (.int .i64 0)).setCell ⟨w.heap.size, 5, none⟩ (.int .i64 0)) [blkI w.heap.size (w3.heap.size) THouse #[.int .i64 W, .int .i64 D, .slice p xs.length c, .int .i64 f, .int .i64 s, .int .i64 pr, .int .i64 cp, .int .i64 ck, .int .i64 bk, .slice q vs.length d], ownI w.heap.size TI 1 (p) (xs.length) (c) (ivs xs), ownI w.heap.size TVis 4 (q) (vs.length) (d) (vs.flatMap visitCells), ownI w.heap.size TStr 1 (some ⟨g2, 0, none⟩) (2) (c2) (strs (cutL 124 u)), ownI w.heap.size TStr 1 (some ⟨g1, 0, none⟩) (2) (c1) (strs (cutL 35 l)), blkI w.heap.size (w.heap.size) THouse #[.int .i64 0, .int .i64 0, .slice none 0 0, .int .i64 0, .int .i64 0, .int .i64 0, .int .i64 0, .int .i64 0, .int .i64 0, .slice none 0 0]] from ((((M7.out).store (i := 5) rfl 4 (.int .i64 0))).store (i := 5) rfl 5 (.int .i64 0)))
          have M9 := Lib.hid (show Mem w ((((((((w4.setCell ⟨w.heap.size, 0, none⟩ (.int .i64 0)).setCell ⟨w.heap.size, 1, none⟩ (.int .i64 0)).setCell ⟨w.heap.size, 2, none⟩ (.slice none 0 0)).setCell ⟨w.heap.size, 3, none⟩ (.int .i64 0)).setCell ⟨w.heap.size, 4, none⟩ (.int .i64 0)).setCell ⟨w.heap.size, 5, none⟩ (.int .i64 0)).setCell ⟨w.heap.size, 6, none⟩ (.int .i64 0)).setCell ⟨w.heap.size, 7, none⟩ (.int .i64 0)) [blkI w.heap.size (w3.heap.size) THouse #[.int .i64 W, .int .i64 D, .slice p xs.length c, .int .i64 f, .int .i64 s, .int .i64 pr, .int .i64 cp, .int .i64 ck, .int .i64 bk, .slice q vs.length d], ownI w.heap.size TI 1 (p) (xs.length) (c) (ivs xs), ownI w.heap.size TVis 4 (q) (vs.length) (d) (vs.flatMap visitCells), ownI w.heap.size TStr 1 (some ⟨g2, 0, none⟩) (2) (c2) (strs (cutL 124 u)), ownI w.heap.size TStr 1 (some ⟨g1, 0, none⟩) (2) (c1) (strs (cutL 35 l)), blkI w.heap.size (w.heap.size) THouse #[.int .i64 0, .int .i64 0, .slice none 0 0, .int .i64 0, .int .i64 0, .int .i64 0, .int .i64 0, .int .i64 0, .int .i64 0, .slice none 0 0]] from ((((M8.out).store (i := 5) rfl 6 (.int .i64 0))).store (i := 5) rfl 7 (.int .i64 0)))
          have M10 := Lib.hid (show Mem w ((((((((((w4.setCell ⟨w.heap.size, 0, none⟩ (.int .i64 0)).setCell ⟨w.heap.size, 1, none⟩ (.int .i64 0)).setCell ⟨w.heap.size, 2, none⟩ (.slice none 0 0)).setCell ⟨w.heap.size, 3, none⟩ (.int .i64 0)).setCell ⟨w.heap.size, 4, none⟩ (.int .i64 0)).setCell ⟨w.heap.size, 5, none⟩ (.int .i64 0)).setCell ⟨w.heap.size, 6, none⟩ (.int .i64 0)).setCell ⟨w.heap.size, 7, none⟩ (.int .i64 0)).setCell ⟨w.heap.size, 8, none⟩ (.int .i64 0)).setCell ⟨w.heap.size, 9, none⟩ (.slice none 0 0)) [blkI w.heap.size (w3.heap.size) THouse #[.int .i64 W, .int .i64 D, .slice p xs.length c, .int .i64 f, .int .i64 s, .int .i64 pr, .int .i64 cp, .int .i64 ck, .int .i64 bk, .slice q vs.length d], ownI w.heap.size TI 1 (p) (xs.length) (c) (ivs xs), ownI w.heap.size TVis 4 (q) (vs.length) (d) (vs.flatMap visitCells), ownI w.heap.size TStr 1 (some ⟨g2, 0, none⟩) (2) (c2) (strs (cutL 124 u)), ownI w.heap.size TStr 1 (some ⟨g1, 0, none⟩) (2) (c1) (strs (cutL 35 l)), blkI w.heap.size (w.heap.size) THouse #[.int .i64 0, .int .i64 0, .slice none 0 0, .int .i64 0, .int .i64 0, .int .i64 0, .int .i64 0, .int .i64 0, .int .i64 0, .slice none 0 0]] from ((((M9.out).store (i := 5) rfl 8 (.int .i64 0))).store (i := 5) rfl 9 (.slice none 0 0)))
          go_wp2
          clear z0 zf0 z1 zf1 z2 zf2 z3 zf3 z4 zf4 z5 zf5 z6 zf6 z7 zf7 z8 zf8 z9 zf9 lt5_0 lt5_5
          have M11 := Lib.hid (show Mem w ((((((((((w4.setCell ⟨w.heap.size, 0, none⟩ (.int .i64 0)).setCell ⟨w.heap.size, 1, none⟩ (.int .i64 0)).setCell ⟨w.heap.size, 2, none⟩ (.slice none 0 0)).setCell ⟨w.heap.size, 3, none⟩ (.int .i64 0)).setCell ⟨w.heap.size, 4, none⟩ (.int .i64 0)).setCell ⟨w.heap.size, 5, none⟩ (.int .i64 0)).setCell ⟨w.heap.size, 6, none⟩ (.int .i64 0)).setCell ⟨w.heap.size, 7, none⟩ (.int .i64 0)).setCell ⟨w.heap.size, 8, none⟩ (.int .i64 0)).setCell ⟨w.heap.size, 9, none⟩ (.slice none 0 0)) [blkI w.heap.size (w3.heap.size) THouse #[.int .i64 W, .int .i64 D, .slice p xs.length c, .int .i64 f, .int .i64 s, .int .i64 pr, .int .i64 cp, .int .i64 ck, .int .i64 bk, .slice q vs.length d], ownI w.heap.size TI 1 (p) (xs.length) (c) (ivs xs), ownI w.heap.size TVis 4 (q) (vs.length) (d) (vs.flatMap visitCells), ownI w.heap.size TStr 1 (some ⟨g2, 0, none⟩) (2) (c2) (strs (cutL 124 u)), ownI w.heap.size TStr 1 (some ⟨g1, 0, none⟩) (2) (c1) (strs (cutL 35 l)), blkI w.heap.size (w.heap.size) THouse #[.int .i64 0, .int .i64 0, .slice none 0 0, .int .i64 0, .int .i64 0, .int .i64 0, .int .i64 0, .int .i64 0, .int .i64 0, .slice none 0 0]] from M10.out)
          generalize hwz : World.setCell _ _ _ = wz
          rw [hwz] at M11
          clear hwz M5 M6 M7 M8 M9 M10
          have y0 : wz.cell? ⟨w.heap.size, 0, none⟩ = some (.int .i64 0) := (M11.out.blk (i := 5) rfl).cell 0
          have y1 : wz.cell? ⟨w.heap.size, 1, none⟩ = some (.int .i64 0) := (M11.out.blk (i := 5) rfl).cell 1
          have y2 : wz.cell? ⟨w.heap.size, 2, none⟩ = some (.slice none 0 0) := (M11.out.blk (i := 5) rfl).cell 2
          have y3 : wz.cell? ⟨w.heap.size, 3, none⟩ = some (.int .i64 0) := (M11.out.blk (i := 5) rfl).cell 3
          have y4 : wz.cell? ⟨w.heap.size, 4, none⟩ = some (.int .i64 0) := (M11.out.blk (i := 5) rfl).cell 4
          have y5 : wz.cell? ⟨w.heap.size, 5, none⟩ = some (.int .i64 0) := (M11.out.blk (i := 5) rfl).cell 5
          have y6 : wz.cell? ⟨w.heap.size, 6, none⟩ = some (.int .i64 0) := (M11.out.blk (i := 5) rfl).cell 6
          have y7 : wz.cell? ⟨w.heap.size, 7, none⟩ = some (.int .i64 0) := (M11.out.blk (i := 5) rfl).cell 7
          have y8 : wz.cell? ⟨w.heap.size, 8, none⟩ = some (.int .i64 0) := (M11.out.blk (i := 5) rfl).cell 8
          have y9 : wz.cell? ⟨w.heap.size, 9, none⟩ = some (.slice none 0 0) := (M11.out.blk (i := 5) rfl).cell 9
          exact bodyPost_ret (v := .tuple #[.agg #[.int .i64 0, .int .i64 0, .slice none 0 0, .int .i64 0, .int .i64 0, .int .i64 0, .int .i64 0, .int .i64 0, .int .i64 0, .slice none 0 0], .int .i64 0, .bool false]) (by simp [results, Tryz.results43, go_sem, *]) rfl (ret_save_no hno.out M11.out.ext)
    · skip
      have hno : Hid (readSave l = none) := by show _ = _; rw [HRV.out, if_neg]; rintro ⟨_, h⟩; exact hPP h
      have q2 : ((P : Int) != 2) = true := by simp; omega
      subst hTT
      clear hPP
      have z0 : w2.cell? ⟨w.heap.size, 0, none⟩ = some (.int .i64 0) := (M2.out.blk (i := 2) rfl).cell 0
      have zf0 : w2.frozen? ⟨w.heap.size, 0, none⟩ = false := (M2.out.blk (i := 2) rfl).frozen 0
      have z1 : w2.cell? ⟨w.heap.size, 1, none⟩ = some (.int .i64 0) := (M2.out.blk (i := 2) rfl).cell 1
      have zf1 : w2.frozen? ⟨w.heap.size, 1, none⟩ = false := (M2.out.blk (i := 2) rfl).frozen 1
      have z2 : w2.cell? ⟨w.heap.size, 2, none⟩ = some (.slice none 0 0) := (M2.out.blk (i := 2) rfl).cell 2
      have zf2 : w2.frozen? ⟨w.heap.size, 2, none⟩ = false := (M2.out.blk (i := 2) rfl).frozen 2
      have z3 : w2.cell? ⟨w.heap.size, 3, none⟩ = some (.int .i64 0) := (M2.out.blk (i := 2) rfl).cell 3
      have zf3 : w2.frozen? ⟨w.heap.size, 3, none⟩ = false := (M2.out.blk (i := 2) rfl).frozen 3
      have z4 : w2.cell? ⟨w.heap.size, 4, none⟩ = some (.int .i64 0) := (M2.out.blk (i := 2) rfl).cell 4
      have zf4 : w2.frozen? ⟨w.heap.size, 4, none⟩ = false := (M2.out.blk (i := 2) rfl).frozen 4
      have z5 : w2.cell? ⟨w.heap.size, 5, none⟩ = some (.int .i64 0) := (M2.out.blk (i := 2) rfl).cell 5
      have zf5 : w2.frozen? ⟨w.heap.size, 5, none⟩ = false := (M2.out.blk (i := 2) rfl).frozen 5
      have z6 : w2.cell? ⟨w.heap.size, 6, none⟩ = some (.int .i64 0) := (M2.out.blk (i := 2) rfl).cell 6
      have zf6 : w2.frozen? ⟨w.heap.size, 6, none⟩ = false := (M2.out.blk (i := 2) rfl).frozen 6
      have z7 : w2.cell? ⟨w.heap.size, 7, none⟩ = some (.int .i64 0) := (M2.out.blk (i := 2) rfl).cell 7
      have zf7 : w2.frozen? ⟨w.heap.size, 7, none⟩ = false := (M2.out.blk (i := 2) rfl).frozen 7
      have z8 : w2.cell? ⟨w.heap.size, 8, none⟩ = some (.int .i64 0) := (M2.out.blk (i := 2) rfl).cell 8
      have zf8 : w2.frozen? ⟨w.heap.size, 8, none⟩ = false := (M2.out.blk (i := 2) rfl).frozen 8
      have z9 : w2.cell? ⟨w.heap.size, 9, none⟩ = some (.slice none 0 0) := (M2.out.blk (i := 2) rfl).cell 9
      have zf9 : w2.frozen? ⟨w.heap.size, 9, none⟩ = false := (M2.out.blk (i := 2) rfl).frozen 9
      have M3 := Lib.hid (show Mem w ((w2.setCell ⟨w.heap.size, 0, none⟩ (.int .i64 0)).setCell ⟨w.heap.size, 1, none⟩ (.int .i64 0)) [ownI w.heap.size TStr 1 (some ⟨g2, 0, none⟩) (P) (c2) (strs (cutL 124 u)), ownI w.heap.size TStr 1 (some ⟨g1, 0, none⟩) (2) (c1) (strs (cutL 35 l)), blkI w.heap.size (w.heap.size) THouse #[.int .i64 0, .int .i64 0, .slice none 0 0, .int .i64 0, .int .i64 0, .int .i64 0, .int .i64 0, .int .i64 0, .int .i64 0, .slice none 0 0]] from ((((M2.out).store (i := 2) rfl 0 (.int .i64 0))).store (i := 2) rfl 1 (.int .i64 0)))
      have M4 := Lib.hid (show Mem w ((((w2.setCell ⟨w.heap.size, 0, none⟩ (.int .i64 0)).setCell ⟨w.heap.size, 1, none⟩ (.int .i64 0)).setCell ⟨w.heap.size, 2, none⟩ (.slice none 0 0)).setCell ⟨w.heap.size, 3, none⟩ (.int .i64 0)) [ownI w.heap.size TStr 1 (some ⟨g2, 0, none⟩) (P) (c2) (strs (cutL 124 u)), ownI w.heap.size TStr 1 (some ⟨g1, 0, none⟩) (2) (c1) (strs (cutL 35 l)), blkI w.heap.size (w.heap.size) THouse #[.int .i64 0, .int .i64 0, .slice none 0 0, .int .i64 0, .int .i64 0, .int .i64 0, .int .i64 0, .int .i64 0, .int .i64 0, .slice none 0 0]] from ((((M3.out).store (i := 2) rfl 2 (.slice none 0 0))).store (i := 2) rfl 3 (.int .i64 0)))
      have M5 := Lib.hid (show Mem w ((((((w2.setCell ⟨w.heap.size, 0, none⟩ (.int .i64 0)).setCell ⟨w.heap.size, 1, none⟩ (.int .i64 0)).setCell ⟨w.heap.size, 2, none⟩ (.slice none 0 0)).setCell ⟨w.heap.size, 3, none⟩ (.int .i64 0)).setCell ⟨w.heap.size, 4, none⟩ (.int .i64 0)).setCell ⟨w.heap.size, 5, none⟩ (.int .i64 0)) [ownI w.heap.size TStr 1 (some ⟨g2, 0, none⟩) (P) (c2) (strs (cutL 124 u)), ownI w.heap.size TStr 1 (some ⟨g1, 0, none⟩) (2) (c1) (strs (cutL 35 l)), blkI w.heap.size (w.heap.size) THouse #[.int .i64 0, .int .i64 0, .slice none 0 0, .int .i64 0, .int .i64 0, .int .i64 0, .int .i64 0, .int .i64 0, .int .i64 0, .slice none 0 0]] from ((((M4.out).store (i := 2) rfl 4 (.int .i64 0))).store (i := 2) rfl 5 (.int .i64 0)))
      have M6 := Lib.hid (show Mem w ((((((((w2.setCell ⟨w.heap.size, 0, none⟩ (.int .i64 0)).setCell ⟨w.heap.size, 1, none⟩ (.int .i64 0)).setCell ⟨w.heap.size, 2, none⟩ (.slice none 0 0)).setCell ⟨w.heap.size, 3, none⟩ (.int .i64 0)).setCell ⟨w.heap.size, 4, none⟩ (.int .i64 0)).setCell ⟨w.heap.size, 5, none⟩ (.int .i64 0)).setCell ⟨w.heap.size, 6, none⟩ (.int .i64 0)).setCell ⟨w.heap.size, 7, none⟩ (.int .i64 0)) [ownI w.heap.size TStr 1 (some ⟨g2, 0, none⟩) (P) (c2) (strs (cutL 124 u)), ownI w.heap.size TStr 1 (some ⟨g1, 0, none⟩) (2) (c1) (strs (cutL 35 l)), blkI w.heap.size (w.heap.size) THouse #[.int .i64 0, .int .i64 0, .slice none 0 0, .int .i64 0, .int .i64 0, .int .i64 0, .int .i64 0, .int .i64 0, .int .i64 0, .slice none 0 0]] from ((((M5.out).store (i := 2) rfl 6 (.int .i64 0))).store (i := 2) rfl 7 (.int .i64 0)))
      have M7 := Lib.hid (show Mem w ((((((((((w2.setCell ⟨w.heap.size, 0, none⟩ (.int .i64 0)).setCell ⟨w.heap.size, 1, none⟩ (.int .i64 0)).setCell ⟨w.heap.size, 2, none⟩ (.slice none 0 0)).setCell ⟨w.heap.size, 3, none⟩ (.int .i64 0)).setCell ⟨w.heap.size, 4, none⟩ (.int .i64 0)).setCell ⟨w.heap.size, 5, none⟩ (.int .i64 0)).setCell ⟨w.heap.size, 6, none⟩ (.int .i64 0)).setCell ⟨w.heap.size, 7, none⟩ (.int .i64 0)).setCell ⟨w.heap.size, 8, none⟩ (.int .i64 0)).setCell ⟨w.heap.size, 9, none⟩ (.slice none 0 0)) [ownI w.heap.size TStr 1 (some ⟨g2, 0, none⟩) (P) (c2) (strs (cutL 124 u)), ownI w.heap.size TStr 1 (some ⟨g1, 0, none⟩) (2) (c1) (strs (cutL 35 l)), blkI w.heap.size (w.heap.size) THouse #[.int .i64 0, .int .i64 0, .slice none 0 0, .int .i64 0, .int .i64 0, .int .i64 0, .int .i64 0, .int .i64 0, .int .i64 0, .slice none 0 0]] from ((((M6.out).store (i := 2) rfl 8 (.int .i64 0))).store (i := 2) rfl 9 (.slice none 0 0)))
      go_wp2
      clear z0 zf0 z1 zf1 z2 zf2 z3 zf3 z4 zf4 z5 zf5 z6 zf6 z7 zf7 z8 zf8 z9 zf9 lt2_2
      have M8 := Lib.hid (show Mem w ((((((((((w2.setCell ⟨w.heap.size, 0, none⟩ (.int .i64 0)).setCell ⟨w.heap.size, 1, none⟩ (.int .i64 0)).setCell ⟨w.heap.size, 2, none⟩ (.slice none 0 0)).setCell ⟨w.heap.size, 3, none⟩ (.int .i64 0)).setCell ⟨w.heap.size, 4, none⟩ (.int .i64 0)).setCell ⟨w.heap.size, 5, none⟩ (.int .i64 0)).setCell ⟨w.heap.size, 6, none⟩ (.int .i64 0)).setCell ⟨w.heap.size, 7, none⟩ (.int .i64 0)).setCell ⟨w.heap.size, 8, none⟩ (.int .i64 0)).setCell ⟨w.heap.size, 9, none⟩ (.slice none 0 0)) [ownI w.heap.size TStr 1 (some ⟨g2, 0, none⟩) (P) (c2) (strs (cutL 124 u)), ownI w.heap.size TStr 1 (some ⟨g1, 0, none⟩) (2) (c1) (strs (cutL 35 l)), blkI w.heap.size (w.heap.size) THouse #[.int .i64 0, .int .i64 0, .slice none 0 0, .int .i64 0, .int .i64 0, .int .i64 0, .int .i64 0, .int .i64 0, .int .i64 0, .slice none 0 0]] from M7.out)
      generalize hwz : World.setCell _ _ _ = wz
      rw [hwz] at M8
      clear hwz M2 M3 M4 M5 M6 M7
      have y0 : wz.cell? ⟨w.heap.size, 0, none⟩ = some (.int .i64 0) := (M8.out.blk (i := 2) rfl).cell 0
      have y1 : wz.cell? ⟨w.heap.size, 1, none⟩ = some (.int .i64 0) := (M8.out.blk (i := 2) rfl).cell 1
      have y2 : wz.cell? ⟨w.heap.size, 2, none⟩ = some (.slice none 0 0) := (M8.out.blk (i := 2) rfl).cell 2
      have y3 : wz.cell? ⟨w.heap.size, 3, none⟩ = some (.int .i64 0) := (M8.out.blk (i := 2) rfl).cell 3
      have y4 : wz.cell? ⟨w.heap.size, 4, none⟩ = some (.int .i64 0) := (M8.out.blk (i := 2) rfl).cell 4
      have y5 : wz.cell? ⟨w.heap.size, 5, none⟩ = some (.int .i64 0) := (M8.out.blk (i := 2) rfl).cell 5
      have y6 : wz.cell? ⟨w.heap.size, 6, none⟩ = some (.int .i64 0) := (M8.out.blk (i := 2) rfl).cell 6
      have y7 : wz.cell? ⟨w.heap.size, 7, none⟩ = some (.int .i64 0) := (M8.out.blk (i := 2) rfl).cell 7
      have y8 : wz.cell? ⟨w.heap.size, 8, none⟩ = some (.int .i64 0) := (M8.out.blk (i := 2) rfl).cell 8
      have y9 : wz.cell? ⟨w.heap.size, 9, none⟩ = some (.slice none 0 0) := (M8.out.blk (i := 2) rfl).cell 9
      exact bodyPost_ret (v := .tuple #[.agg #[.int .i64 0, .int .i64 0, .slice none 0 0, .int .i64 0, .int .i64 0, .int .i64 0, .int .i64 0, .int .i64 0, .int .i64 0, .slice none 0 0], .int .i64 0, .bool false]) (by simp [results, Tryz.results43, go_sem, *]) rfl (ret_save_no hno.out M8.out.ext)
  · skip
    have hno : Hid (readSave l = none) := by show _ = _; rw [HRV.out, if_neg]; rintro ⟨h, _⟩; exact hTT h
    have q1 : ((T : Int) != 2) = true := by simp; omega
    clear hTT
    have z0 : w2.cell? ⟨w.heap.size, 0, none⟩ = some (.int .i64 0) := (M2.out.blk (i := 2) rfl).cell 0
    have zf0 : w2.frozen? ⟨w.heap.size, 0, none⟩ = false := (M2.out.blk (i := 2) rfl).frozen 0
    have z1 : w2.cell? ⟨w.heap.size, 1, none⟩ = some (.int .i64 0) := (M2.out.blk (i := 2) rfl).cell 1
    have zf1 : w2.frozen? ⟨w.heap.size, 1, none⟩ = false := (M2.out.blk (i := 2) rfl).frozen 1
    have z2 : w2.cell? ⟨w.heap.size, 2, none⟩ = some (.slice none 0 0) := (M2.out.blk (i := 2) rfl).cell 2
    have zf2 : w2.frozen? ⟨w.heap.size, 2, none⟩ = false := (M2.out.blk (i := 2) rfl).frozen 2
    have z3 : w2.cell? ⟨w.heap.size, 3, none⟩ = some (.int .i64 0) := (M2.out.blk (i := 2) rfl).cell 3
    have zf3 : w2.frozen? ⟨w.heap.size, 3, none⟩ = false := (M2.out.blk (i := 2) rfl).frozen 3
    have z4 : w2.cell? ⟨w.heap.size, 4, none⟩ = some (.int .i64 0) := (M2.out.blk (i := 2) rfl).cell 4
    have zf4 : w2.frozen? ⟨w.heap.size, 4, none⟩ = false := (M2.out.blk (i := 2) rfl).frozen 4
    have z5 : w2.cell? ⟨w.heap.size, 5, none⟩ = some (.int .i64 0) := (M2.out.blk (i := 2) rfl).cell 5
    have zf5 : w2.frozen? ⟨w.heap.size, 5, none⟩ = false := (M2.out.blk (i := 2) rfl).frozen 5
    have z6 : w2.cell? ⟨w.heap.size, 6, none⟩ = some (.int .i64 0) := (M2.out.blk (i := 2) rfl).cell 6
    have zf6 : w2.frozen? ⟨w.heap.size, 6, none⟩ = false := (M2.out.blk (i := 2) rfl).frozen 6
    have z7 : w2.cell? ⟨w.heap.size, 7, none⟩ = some (.int .i64 0) := (M2.out.blk (i := 2) rfl).cell 7
    have zf7 : w2.frozen? ⟨w.heap.size, 7, none⟩ = false := (M2.out.blk (i := 2) rfl).frozen 7
    have z8 : w2.cell? ⟨w.heap.size, 8, none⟩ = some (.int .i64 0) := (M2.out.blk (i := 2) rfl).cell 8
    have zf8 : w2.frozen? ⟨w.heap.size, 8, none⟩ = false := (M2.out.blk (i := 2) rfl).frozen 8
    have z9 : w2.cell? ⟨w.heap.size, 9, none⟩ = some (.slice none 0 0) := (M2.out.blk (i := 2) rfl).cell 9
    have zf9 : w2.frozen? ⟨w.heap.size, 9, none⟩ = false := (M2.out.blk (i := 2) rfl).frozen 9
    have M3 := Lib.hid (show Mem w ((w2.setCell ⟨w.heap.size, 0, none⟩ (.int .i64 0)).setCell ⟨w.heap.size, 1, none⟩ (.int .i64 0)) [ownI w.heap.size TStr 1 (some ⟨g2, 0, none⟩) (P) (c2) (strs (cutL 124 u)), ownI w.heap.size TStr 1 (some ⟨g1, 0, none⟩) (T) (c1) (strs (cutL 35 l)), blkI w.heap.size (w.heap.size) THouse #[.int .i64 0, .int .i64 0, .slice none 0 0, .int .i64 0, .int .i64 0, .int .i64 0, .int .i64 0, .int .i64 0, .int .i64 0, .slice none 0 0]] from ((((M2.out).store (i := 2) rfl 0 (.int .i64 0))).store (i := 2) rfl 1 (.int .i64 0)))
    have M4 := Lib.hid (show Mem w ((((w2.setCell ⟨w.heap.size, 0, none⟩ (.int .i64 0)).setCell ⟨w.heap.size, 1, none⟩ (.int .i64 0)).setCell ⟨w.heap.size, 2, none⟩ (.slice none 0 0)).setCell ⟨w.heap.size, 3, none⟩ (.int .i64 0)) [ownI w.heap.size TStr 1 (some ⟨g2, 0, none⟩) (P) (c2) (strs (cutL 124 u)), ownI w.heap.size TStr 1 (some ⟨g1, 0, none⟩) (T) (c1) (strs (cutL 35 l)), blkI w.heap.size (w.heap.size) THouse #[.int .i64 0, .int .i64 0, .slice none 0 0, .int .i64 0, .int .i64 0, .int .i64 0, .int .i64 0, .int .i64 0, .int .i64 0, .slice none 0 0]] from ((((M3.out).store (i := 2) rfl 2 (.slice none 0 0))).store (i := 2) rfl 3 (.int .i64 0)))
    have M5 := Lib.hid (show Mem w ((((((w2.setCell ⟨w.heap.size, 0, none⟩ (.int .i64 0)).setCell ⟨w.heap.size, 1, none⟩ (.int .i64 0)).setCell ⟨w.heap.size, 2, none⟩ (.slice none 0 0)).setCell ⟨w.heap.size, 3, none⟩ (.int .i64 0)).setCell ⟨w.heap.size, 4, none⟩ (.int .i64 0)).setCell ⟨w.heap.size, 5, none⟩ (.int .i64 0)) [ownI w.heap.size TStr 1 (some ⟨g2, 0, none⟩) (P) (c2) (strs (cutL 124 u)), ownI w.heap.size TStr 1 (some ⟨g1, 0, none⟩) (T) (c1) (strs (cutL 35 l)), blkI w.heap.size (w.heap.size) THouse #[.int .i64 0, .int .i64 0, .slice none 0 0, .int .i64 0, .int .i64 0, .int .i64 0, .int .i64 0, .int .i64 0, .int .i64 0, .slice none 0 0]] from ((((M4.out).store (i := 2) rfl 4 (.int .i64 0))).store (i := 2) rfl 5 (.int .i64 0)))
    have M6 := Lib.hid (show Mem w ((((((((w2.setCell ⟨w.heap.size, 0, none⟩ (.int .i64 0)).setCell ⟨w.heap.size, 1, none⟩ (.int .i64 0)).setCell ⟨w.heap.size, 2, none⟩ (.slice none 0 0)).setCell ⟨w.heap.size, 3, none⟩ (.int .i64 0)).setCell ⟨w.heap.size, 4, none⟩ (.int .i64 0)).setCell ⟨w.heap.size, 5, none⟩ (.int .i64 0)).setCell ⟨w.heap.size, 6, none⟩ (.int .i64 0)).setCell ⟨w.heap.size, 7, none⟩ (.int .i64 0)) [ownI w.heap.size TStr 1 (some ⟨g2, 0, none⟩) (P) (c2) (strs (cutL 124 u)), ownI w.heap.size TStr 1 (some ⟨g1, 0, none⟩) (T) (c1) (strs (cutL 35 l)), blkI w.heap.size (w.heap.size) THouse #[.int .i64 0, .int .i64 0, .slice none 0 0, .int .i64 0, .int .i64 0, .int .i64 0, .int .i64 0, .int .i64 0, .int .i64 0, .slice none 0 0]] from ((((M5.out).store (i := 2) rfl 6 (.int .i64 0))).store (i := 2) rfl 7 (.int .i64 0)))
    have M7 := Lib.hid (show Mem w ((((((((((w2.setCell ⟨w.heap.size, 0, none⟩ (.int .i64 0)).setCell ⟨w.heap.size, 1, none⟩ (.int .i64 0)).setCell ⟨w.heap.size, 2, none⟩ (.slice none 0 0)).setCell ⟨w.heap.size, 3, none⟩ (.int .i64 0)).setCell ⟨w.heap.size, 4, none⟩ (.int .i64 0)).setCell ⟨w.heap.size, 5, none⟩ (.int .i64 0)).setCell ⟨w.heap.size, 6, none⟩ (.int .i64 0)).setCell ⟨w.heap.size, 7, none⟩ (.int .i64 0)).setCell ⟨w.heap.size, 8, none⟩ (.int .i64 0)).setCell ⟨w.heap.size, 9, none⟩ (.slice none 0 0)) [ownI w.heap.size TStr 1 (some ⟨g2, 0, none⟩) (P) (c2) (strs (cutL 124 u)), ownI w.heap.size TStr 1 (some ⟨g1, 0, none⟩) (T) (c1) (strs (cutL 35 l)), blkI w.heap.size (w.heap.size) THouse #[.int .i64 0, .int .i64 0, .slice none 0 0, .int .i64 0, .int .i64 0, .int .i64 0, .int .i64 0, .int .i64 0, .int .i64 0, .slice none 0 0]] from ((((M6.out).store (i := 2) rfl 8 (.int .i64 0))).store (i := 2) rfl 9 (.slice none 0 0)))
    go_wp2
    clear z0 zf0 z1 zf1 z2 zf2 z3 zf3 z4 zf4 z5 zf5 z6 zf6 z7 zf7 z8 zf8 z9 zf9 lt2_2
    have M8 := Lib.hid (show Mem w ((((((((((w2.setCell ⟨w.heap.size, 0, none⟩ (.int .i64 0)).setCell ⟨w.heap.size, 1, none⟩ (.int .i64 0)).setCell ⟨w.heap.size, 2, none⟩ (.slice none 0 0)).setCell ⟨w.heap.size, 3, none⟩ (.int .i64 0)).setCell ⟨w.heap.size, 4, none⟩ (.int .i64 0)).setCell ⟨w.heap.size, 5, none⟩ (.int .i64 0)).setCell ⟨w.heap.size, 6, none⟩ (.int .i64 0)).setCell ⟨w.heap.size, 7, none⟩ (.int .i64 0)).setCell ⟨w.heap.size, 8, none⟩ (.int .i64 0)).setCell ⟨w.heap.size, 9, none⟩ (.slice none 0 0)) [ownI w.heap.size TStr 1 (some ⟨g2, 0, none⟩) (P) (c2) (strs (cutL 124 u)), ownI w.heap.size TStr 1 (some ⟨g1, 0, none⟩) (T) (c1) (strs (cutL 35 l)), blkI w.heap.size (w.heap.size) THouse #[.int .i64 0, .int .i64 0, .slice none 0 0, .int .i64 0, .int .i64 0, .int .i64 0, .int .i64 0, .int .i64 0, .int .i64 0, .slice none 0 0]] from M7.out)
    generalize hwz : World.setCell _ _ _ = wz
    rw [hwz] at M8
    clear hwz M2 M3 M4 M5 M6 M7
    have y0 : wz.cell? ⟨w.heap.size, 0, none⟩ = some (.int .i64 0) := (M8.out.blk (i := 2) rfl).cell 0
    have y1 : wz.cell? ⟨w.heap.size, 1, none⟩ = some (.int .i64 0) := (M8.out.blk (i := 2) rfl).cell 1
    have y2 : wz.cell? ⟨w.heap.size, 2, none⟩ = some (.slice none 0 0) := (M8.out.blk (i := 2) rfl).cell 2
    have y3 : wz.cell? ⟨w.heap.size, 3, none⟩ = some (.int .i64 0) := (M8.out.blk (i := 2) rfl).cell 3
    have y4 : wz.cell? ⟨w.heap.size, 4, none⟩ = some (.int .i64 0) := (M8.out.blk (i := 2) rfl).cell 4
    have y5 : wz.cell? ⟨w.heap.size, 5, none⟩ = some (.int .i64 0) := (M8.out.blk (i := 2) rfl).cell 5
    have y6 : wz.cell? ⟨w.heap.size, 6, none⟩ = some (.int .i64 0) := (M8.out.blk (i := 2) rfl).cell 6
    have y7 : wz.cell? ⟨w.heap.size, 7, none⟩ = some (.int .i64 0) := (M8.out.blk (i := 2) rfl).cell 7
    have y8 : wz.cell? ⟨w.heap.size, 8, none⟩ = some (.int .i64 0) := (M8.out.blk (i := 2) rfl).cell 8
    have y9 : wz.cell? ⟨w.heap.size, 9, none⟩ = some (.slice none 0 0) := (M8.out.blk (i := 2) rfl).cell 9
    exact bodyPost_ret (v := .tuple #[.agg #[.int .i64 0, .int .i64 0, .slice none 0 0, .int .i64 0, .int .i64 0, .int .i64 0, .int .i64 0, .int .i64 0, .int .i64 0, .slice none 0 0], .int .i64 0, .bool false]) (by simp [results, Tryz.results43, go_sem, *]) rfl (ret_save_no hno.out M8.out.ext)
end Go.Proofs.YteejdnmmpmcmeaaGreatDoor
