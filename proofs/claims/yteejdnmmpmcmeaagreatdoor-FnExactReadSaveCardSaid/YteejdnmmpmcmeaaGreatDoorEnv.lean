/-
  What the walks ask of the world: the library's table of powers of ten is laid, and the variable bytealg.MaxLen holds a number. Both stay as they are while the world only grows.
-/
import Derived.Test.YteejdnmmpmcmeaaGreatDoorMem
import Derived.Test.YteejdnmmpmcmeaaGreatDoorShelf
import Derived.Lib.ItoaMem
import Derived.Lib.SmallJoins
import Derived.Lib.ItoaLen
import Derived.Lib.Hide
import Derived.Deep.DeepFit
import Derived.Handy
import Derived.Deep.RegionHeld3
import Derived.Deep.DeepCutAuto
namespace Go.Proofs.YteejdnmmpmcmeaaGreatDoor
open Go.RowKit
set_option linter.unusedVariables false

theorem gTab : Tryz.prog.globalNamed "internal/strconv.uint64pow10" = some 1 := by kernel_rfl
structure Env (w : World) : Prop where
  tab : Lib.TabIs Tryz.prog w "internal/strconv.uint64pow10" .u64 Lib.pow10Tab
  mx : ∃ m, w.cell? ⟨0, 0, none⟩ = some (.int .i64 m)

theorem Env.ext {w w' : World} (h : Env w) (hb : Ext w w') : Env w' where
  tab := Joins.var_stays gTab h.tab hb (Nat.le_refl _)
  mx := by
    obtain ⟨m, hm⟩ := h.mx
    exact ⟨m, (hb.cells.1 _ _ (World.block_lt_of_cell? w _ hm)).trans hm⟩

theorem Env.start {w : World} (ht : Lib.TabIs Tryz.prog w "internal/strconv.uint64pow10" .u64 Lib.pow10Tab) (hS : w.ShapedOpen Tryz.prog) : Env w where
  tab := ht
  mx := Tryz.laysM145.s1_3 w hS

/-- a text as a value -/
abbrev str (l : List UInt8) : Value := .string ⟨l.toArray⟩

theorem ret_str {a b : List UInt8} (h : a = b) : Ending.returned (str a) = .returned (str b) := by rw [h]

theorem itoa_nat (n : Nat) : Lib.itoa (n : Int) = Lib.decDigits n := by
  unfold Lib.itoa; rw [if_neg (by omega)]; simp

theorem ext_grow (w : World) (os : Array Obj) : Ext w (Sort.grow w os) :=
  ⟨rfl, rfl, rfl, by simp, fun k hk => by simp only [Sort.grow]; rw [Array.getElem?_append_left hk]⟩

/-- strconv.Itoa -/
theorem itoa_any (n : Nat) (w : World) (hn : n ≤ 9223372036854775807) (hE : Env w) :
    Calls Tryz.prog 106 #[.int .i64 n] w fun e w' => e = .returned (str (Lib.decDigits n)) ∧ Ext w w' := by
  refine (Tryz.strconv_Itoa (n : Int) (by omega) (by omega) w hE.tab).mono ?_
  rintro e w' ⟨rfl, k, os, rfl⟩
  exact ⟨by rw [itoa_nat], (Ext.drewN (Ext.refl w) k).trans (ext_grow _ _)⟩

theorem itoaI (n : Int) (w : World) (h0 : 0 ≤ n) (hn : n ≤ 9223372036854775807) (hE : Env w) :
    Calls Tryz.prog 106 #[.int .i64 n] w fun e w' => e = .returned (str (Lib.decDigits n.toNat)) ∧ Ext w w' := by
  obtain ⟨m, rfl⟩ := Int.eq_ofNat_of_zero_le h0
  exact itoa_any m w (by omega) hE

/-- string([]byte{x}) -/
theorem conv1 (x : Int) (W : World) (b : Nat) (h : W.cell? ⟨b, 0, none⟩ = some (.int .u8 x)) : Sem.run Tryz.prog (convert 22 9 (.slice (some ⟨b, 0, none⟩) 1 1)) W = .ok (str [UInt8.ofNat x.toNat]) W :=
  run_convert_bytes_arg W 22 5 Tryz.underlying22 Tryz.underlying5 b 0 1 1 [x] rfl (fun i hi => by
    obtain rfl : i = 0 := by omega
    simpa using h) 9 Tryz.underlying9

theorem decDigits_lt (n : Nat) (h : n < 10) : Lib.decDigits n = [UInt8.ofNat (48 + n)] := by rw [Lib.decDigits]; simp [h]
theorem decDigits_ge (n : Nat) (h : ¬ n < 10) : Lib.decDigits n = Lib.decDigits (n / 10) ++ [UInt8.ofNat (48 + n % 10)] := by rw [Lib.decDigits]; simp [h]
theorem decDigits_len (n : Nat) (h : n ≤ 9223372036854775807) : (Lib.decDigits n).length ≤ 21 := by
  rw [← itoa_nat]; exact Lib.itoa_length_le _ (by omega) (by omega)
theorem decDigits_pos (n : Nat) : 1 ≤ (Lib.decDigits n).length := by
  by_cases h : n < 10
  · rw [decDigits_lt n h]; simp
  · rw [decDigits_ge n h]; simp
end Go.Proofs.YteejdnmmpmcmeaaGreatDoor
