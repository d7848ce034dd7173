/-
  slices.Delete of one booking of a slice of the call's own. Condition: the slice is the call's own.
-/
import Derived.Test.YtndcnflchkfaeaaBk9
namespace Go.Proofs.Ytndcnflchkfaeaa
open Go.RowKit
set_option linter.unusedVariables false
set_option linter.unusedSimpArgs false

theorem take_set_lt {α : Type} : ∀ (xs : List α) (k : Nat) (v : α), k < xs.length → (xs.set k v).take (k + 1) = xs.take k ++ [v]
  | [], _, _, h => by simp at h
  | x :: xs, 0, v, _ => by simp
  | x :: xs, k + 1, v, h => by simp only [List.set_cons_succ, List.take_succ_cons, take_set_lt xs k v (by simpa using h)]; rfl
theorem drop_set_gt {α : Type} : ∀ (xs : List α) (k j : Nat) (v : α), k < j → (xs.set k v).drop j = xs.drop j
  | [], _, _, _, _ => by simp
  | x :: xs, 0, j + 1, v, _ => by simp
  | x :: xs, k + 1, j + 1, v, h => by simp only [List.set_cons_succ, List.drop_succ_cons]; exact drop_set_gt xs k j v (by omega)
theorem own_setCells {B n c sz g : Nat} {e : TypeId} : ∀ (vs : List Value) (k : Nat) (xs : List Value) (w : World), w.ownsRow B e sz (.slice (some ⟨g, 0, none⟩) n c) n xs → k + vs.length ≤ xs.length →
    (w.setCells g k vs).ownsRow B e sz (.slice (some ⟨g, 0, none⟩) n c) n (xs.take k ++ vs ++ xs.drop (k + vs.length)) ∧ w.grownBy (w.setCells g k vs) (some g)
  | [], k, xs, w, h, _ => by
    refine ⟨?_, World.grownBy.refl _ _⟩
    simpa [World.setCells] using h
  | v :: vs, k, xs, w, h, hl => by
    simp only [List.length_cons] at hl
    obtain ⟨h1, h2⟩ := own_setCells vs (k + 1) (xs.set k v) _ (h.stored k v).1 (by simp; omega)
    rw [take_set_lt xs k v (by omega), drop_set_gt xs k _ v (by omega)] at h1
    refine ⟨?_, (gset (World.grownBy.refl _ _) k v).trans h2⟩
    rw [List.length_cons, show k + (vs.length + 1) = k + 1 + vs.length by omega]
    simpa [World.setCells] using h1
theorem own_cut {w : World} {B n c sz k : Nat} {e : TypeId} {q : Option Addr} {xs : List Value} (h : w.ownsRow B e sz (.slice q n c) n xs) (hk : k ≤ n) (h0 : 0 < n) : w.ownsRow B e sz (.slice q k c) k (xs.take (k * sz)) := by
  have hm := Nat.mul_le_mul_right sz hk
  refine ⟨by rw [List.length_take, h.1]; omega, ?_⟩
  rcases h.2 with ⟨_, h3⟩ | ⟨g, cap', cur, e1, hb, hg, hn, hmx, hs, ht⟩
  · omega
  · injection e1 with e1 e2 e3
    subst e1 e3
    refine .inr ⟨g, c, cur, rfl, hb, hg, by omega, hmx, hs, ?_⟩
    rw [← ht, List.take_take, Nat.min_eq_left hm]

theorem zero_book (w : World) : (zeroValue TBk).run Try.prog w = .ok (.agg #[.int .i64 0, .int .i64 0, .int .i64 0, .int .i64 0]) w := by
  simp [Try.zeroValue50]
theorem clear_book (w : World) (ty : TypeId) (b o c : Nat) (hc : ∀ j, j < 4 → (w.cell? ⟨b, o + j, none⟩).isSome = true) (hf : ∀ j, j < 4 → w.frozen? ⟨b, o + j, none⟩ = false) :
    (Builtin.clear_ #[26] ty #[.slice (some ⟨b, o, none⟩) 1 c]).run Try.prog w = .ok (.tuple #[]) (w.setCells b o [.int .i64 0, .int .i64 0, .int .i64 0, .int .i64 0]) := by
  have hzc : (Builtin.zeroCells (Value.agg #[.int .i64 0, .int .i64 0, .int .i64 0, .int .i64 0]).cells 1).toList = [.int .i64 0, .int .i64 0, .int .i64 0, .int .i64 0] := by kernel_rfl
  have hst := run_storeCells_cells (P := Try.prog) b o [.int .i64 0, .int .i64 0, .int .i64 0, .int .i64 0] 0 w (by simpa using hc) (by simpa using hf) (by intro v hv; simp at hv; subst hv; rfl)
  simp only [Nat.add_zero] at hst
  simp [Builtin.clear_, run_underlying Try.underlying26, zero_book, hzc, hst]
theorem erase_cells (bs : List Visit4) (i n : Nat) (hn : bs.length = n) (hi : i < n) :
    ((bs.flatMap visitCells).take (i * 4) ++ (bs.drop (i + 1)).flatMap visitCells ++ (bs.flatMap visitCells).drop (i * 4 + ((bs.drop (i + 1)).flatMap visitCells).length)).take ((n - 1) * 4) = (bs.eraseIdx i).flatMap visitCells := by
  have h1 : ((bs.take i).flatMap visitCells).length = i * 4 := by rw [flat_len visitCells 4 (fun _ => rfl), List.length_take]; congr 1; omega
  have h2 : ((bs.drop (i + 1)).flatMap visitCells).length = (n - 1 - i) * 4 := by rw [flat_len visitCells 4 (fun _ => rfl), List.length_drop]; congr 1; omega
  rw [take_books, List.take_append_of_le_length (by rw [List.length_append, h1, h2, ← Nat.add_mul]; exact Nat.mul_le_mul_right 4 (by omega)), List.take_of_length_le (by rw [List.length_append, h1, h2, ← Nat.add_mul]; exact Nat.mul_le_mul_right 4 (by omega)), ← List.flatMap_append, List.eraseIdx_eq_take_drop_succ]
set_option maxRecDepth 100000 in
set_option maxHeartbeats 8000000 in
theorem del_any (g n c B i j : Nat) (bs : List Visit4) (w : World) (hn : n ≤ 1000) (hi : i < n) (hj : Hid (j = i + 1)) (hO : w.ownsRow B TBk 4 (.slice (some ⟨g, 0, none⟩) n c) n (bs.flatMap visitCells)) :
    Calls Try.prog 35 #[.slice (some ⟨g, 0, none⟩) n c, .int .i64 (i : Int), .int .i64 (j : Int)] w fun e w' => e = .returned (.slice (some ⟨g, 0, none⟩) (n - 1) c) ∧ w'.ownsRow B TBk 4 (.slice (some ⟨g, 0, none⟩) (n - 1) c) (n - 1) ((bs.eraseIdx i).flatMap visitCells) ∧ w.grownBy w' (some g) := by
  obtain ⟨i0, hi0, hz0, hz1, hz2⟩ := info_parts (show (Try.prog.info? TBk).map (fun i => (i.zero, i.size, i.bytes)) = some (some (.agg #[.int .i64 0, .int .i64 0, .int .i64 0, .int .i64 0]), 4, 32) by kernel_rfl)
  have hO' : w.drew.ownsRow B TBk 4 (.slice (some ⟨g, 0, none⟩) n c) n (bs.flatMap visitCells) := own_ext hO (Ext.drew (Ext.refl _))
  have hl0 : bs.length = n := by have := hO.1; rw [flat_len visitCells 4 (fun _ => rfl)] at this; omega
  have hcap : n ≤ c := by
    rcases hO.2 with ⟨_, h3⟩ | ⟨g', cap', cur, e1, hb, hg, hn', _⟩
    · omega
    · injection e1 with e1 e2 e3; omega
  have hmx : c ≤ 9223372036854775807 := by
    have := (Sl.own hO).mx; unfold maxLen at this; omega
  have hj1 : j = i + 1 := hj.out
  obtain ⟨news, hnews⟩ : ∃ news, news = (bs.drop (i + 1)).flatMap visitCells := ⟨_, rfl⟩
  have hnl : news.length = (n - j) * 4 := by rw [hnews, flat_len visitCells 4 (fun _ => rfl), List.length_drop, hl0, hj1]
  obtain ⟨A, hA, hsrc⟩ : ∃ A : Addr, (if c = j then some (⟨g, 0, none⟩ : Addr) else some ⟨g, j * 4, none⟩) = some A ∧ Hid (∀ t u, news[t]? = some u → w.drew.cell? (A.add t) = some u) := by
    by_cases h : c = j
    · refine ⟨⟨g, 0, none⟩, by simp [h], fun t u hu => ?_⟩
      rw [List.eq_nil_of_length_eq_zero (by rw [hnl]; omega : news.length = 0)] at hu
      simp at hu
    · refine ⟨⟨g, j * 4, none⟩, by simp [h], fun t u hu => ?_⟩
      have ht : t < (n - j) * 4 := by have := (List.getElem?_eq_some_iff.1 hu).1; rwa [hnl] at this
      rw [Addr.add_lit, hO'.cellAt _ (by omega)]
      rw [hnews, ← drop_books, List.getElem?_drop] at hu
      rw [hj1]; exact hu
  have s1 : Hid (news.length = (n - j) * 4) := hnl
  have s2 : Hid (∀ u ∈ news, u.oneCell' = true) := by show ∀ u ∈ news, _; rw [hnews]; exact books_one _
  have hxl : (bs.flatMap visitCells).length = n * 4 := by rw [flat_len visitCells 4 (fun _ => rfl), hl0]
  have s3 : Hid (∀ t, t < news.length → (w.drew.cell? ⟨g, 0 + i * 4 + t, none⟩).isSome = true ∧ w.drew.frozen? ⟨g, 0 + i * 4 + t, none⟩ = false) := by
    intro t ht
    rw [hnl] at ht
    refine ⟨?_, hO'.frozenAt _⟩
    rw [hO'.cellAt _ (by omega), List.getElem?_eq_getElem (by rw [hxl]; omega)]; rfl
  obtain ⟨W1, hW1⟩ : ∃ W1, W1 = w.drew.setCells g (0 + i * 4) news := ⟨_, rfl⟩
  obtain ⟨h1, g1⟩ := own_setCells news (i * 4) _ _ hO' (by rw [hnl, hxl]; omega)
  have hW : Hid (W1 = w.drew.setCells g (0 + i * 4) news) := hW1
  rw [Nat.zero_add] at hW1
  rw [← hW1] at h1 g1
  obtain ⟨ys, hys⟩ : ∃ ys, ys = (bs.flatMap visitCells).take (i * 4) ++ news ++ (bs.flatMap visitCells).drop (i * 4 + news.length) := ⟨_, rfl⟩
  rw [← hys] at h1
  have hcl := fun ty => clear_book W1 ty g ((n - 1) * 4) (c - (n - 1)) (fun t ht => by rw [h1.cellAt _ (by omega), List.getElem?_eq_getElem (by rw [h1.1]; omega)]; rfl) (fun t _ => h1.frozenAt _)
  obtain ⟨h2, g2⟩ := own_setCells [.int .i64 0, .int .i64 0, .int .i64 0, .int .i64 0] ((n - 1) * 4) _ _ h1 (by rw [h1.1]; simp; omega)
  have hfin : Hid ((W1.setCells g ((n - 1) * 4) [.int .i64 0, .int .i64 0, .int .i64 0, .int .i64 0]).ownsRow B TBk 4 (.slice (some ⟨g, 0, none⟩) (n - 1) c) (n - 1) ((bs.eraseIdx i).flatMap visitCells)) := by
    have h3 := own_cut h2 (k := n - 1) (by omega) (by omega)
    rw [List.append_assoc, List.take_append_of_le_length (by rw [List.length_take, h1.1]; omega), List.take_take, Nat.min_self, hys, hnews, erase_cells bs i n hl0 hi] at h3
    exact h3
  have hgr : Hid (w.grownBy (W1.setCells g ((n - 1) * 4) [.int .i64 0, .int .i64 0, .int .i64 0, .int .i64 0]) (some g)) := by
    exact (show w.grownBy w.drew (some g) from ⟨rfl, rfl, rfl, Nat.le_refl _, fun _ _ _ => rfl⟩).trans (g1.trans g2)
  have hij : i ≤ j := by omega
  have hjn : j ≤ n := by omega
  have hic : i ≤ c := by omega
  have hjc : j ≤ c := by omega
  have hne : ¬ i = j := by omega
  have hnn : i + (n - j) = n - 1 := by omega
  have hz23 : n - (n - 1) = 1 := by omega
  have hn1 : n - 1 ≤ n := by omega
  have hn2 : n - 1 ≤ c := by omega
  have hcn : ¬ c = n - 1 := by omega
  have HNN := Lib.hid hnn
  clear hW1 h1 g1 h2 g2 hys hnews hnl hO hO' hl0 hxl hj1 hj hnn
  go_enter Try.func35, Try.ntmps35
  go_wp2_with fail
  go_region_law (refine step_append_room rfl (.tmp 22) (.tmp 25) 26 rfl TBk i0 4 Try.underlying26 hi0 hz1 g 0 i c (by simp [Act.eval, Act.put]) A (n - j) (c - j) news (by simp [Act.eval, Act.put]) s1.out hsrc.out s2.out (by omega) s3.out ?_; rw [← hW.out, HNN.out])
  go_wp2
  go_ret
  exact ⟨rfl, hfin.out, hgr.out⟩
end Go.Proofs.Ytndcnflchkfaeaa
