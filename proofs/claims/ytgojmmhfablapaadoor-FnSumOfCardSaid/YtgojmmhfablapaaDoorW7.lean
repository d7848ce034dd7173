/-
  The walk of the law FnSumOf.
-/
import Derived.Test.YtgojmmhfablapaaDoorDrawB
import Derived.Test.YtgojmmhfablapaaDoorAlive
namespace Go.Proofs.YtgojmmhfablapaaDoor
open Go.RowKit
set_option linter.unusedVariables false

set_option maxRecDepth 100000 in
set_option maxHeartbeats 1000000 in
theorem fnSum_big (p : Option Addr) (n cap : Nat) (w : World) (h : (1048576 : Int) < n) :
    Calls Tryd.prog 5 #[.slice p n cap] w fun e w' => e = .returned (.bool true) ∧ Ext w w' := by
  go_enter Tryd.func5, Tryd.ntmps5
  go_wp2
  go_ret
  exact ⟨rfl, by (repeat' (first | exact Ext.refl _ | (with_reducible assumption) | (with_reducible refine Ext.alloc ?_ _) | (with_reducible refine Ext.setCell ?_ (by first | exact Nat.le_refl _ | (dsimp only; omega) | (simp; done) | (simp; omega)) _) | (with_reducible refine Ext.drew ?_) | (with_reducible refine Ext.drewN ?_ _) | (refine Ext.trans ?_ (by with_reducible assumption))))⟩

theorem bytes_same {a b : ByteArray} (h : a.toList = b.toList) : a = b := by
  rw [ByteArray.toList_eq, ByteArray.toList_eq] at h
  exact Go.WideShapes.bytes_inj h
theorem digit_sum (s : ByteArray) (k d : Nat) (hk : k < s.size) (hd : d < 10) (hb : ∀ c ∈ s.data.toList, c.toNat < 128) :
    (s.extract 0 k ++ (⟨#[48, 49, 50, 51, 52, 53, 54, 55, 56, 57]⟩ : ByteArray).extract d (d + 1) ++ s.extract (k + 1) s.size).size ≤ s.size ∧
    (sumL (s.extract 0 k ++ (⟨#[48, 49, 50, 51, 52, 53, 54, 55, 56, 57]⟩ : ByteArray).extract d (d + 1) ++ s.extract (k + 1) s.size).data.toList = sumL s.data.toList →
      s.extract 0 k ++ (⟨#[48, 49, 50, 51, 52, 53, 54, 55, 56, 57]⟩ : ByteArray).extract d (d + 1) ++ s.extract (k + 1) s.size = s) := by
  obtain ⟨⟨l⟩⟩ := s
  have hk' : k < l.length := by simpa [ByteArray.size] using hk
  obtain ⟨c, hc⟩ : ∃ c, l[k]? = some c := ⟨_, List.getElem?_eq_getElem hk'⟩
  have e : (((⟨l.toArray⟩ : ByteArray).extract 0 k ++ (⟨#[48, 49, 50, 51, 52, 53, 54, 55, 56, 57]⟩ : ByteArray).extract d (d + 1) ++ (⟨l.toArray⟩ : ByteArray).extract (k + 1) (⟨l.toArray⟩ : ByteArray).size)).data.toList = l.take k ++ UInt8.ofNat (48 + d) :: l.drop (k + 1) := by
    have : ∀ d, d < 10 → ((⟨#[48, 49, 50, 51, 52, 53, 54, 55, 56, 57]⟩ : ByteArray).extract d (d + 1)).data.toList = [UInt8.ofNat (48 + d)] := by decide
    have h2 := this d hd
    simp only [ByteArray.data_append, ByteArray.data_extract, Array.toList_append, Array.toList_extract] at h2 ⊢
    simp [List.extract, ByteArray.size] at h2 ⊢
    rw [h2, List.take_of_length_le (by simp)]
    simp
  have hx : 48 ≤ (UInt8.ofNat (48 + d)).toNat ∧ (UInt8.ofNat (48 + d)).toNat ≤ 57 := by simp; omega
  constructor
  · have := congrArg List.length e
    simp only [Array.length_toList, List.length_append, List.length_cons, List.length_take, List.length_drop] at this
    simp only [ByteArray.size] at *
    rw [this]
    simp
    omega
  · intro h
    have h1 : ∀ a b : ByteArray, a.data.toList = b.data.toList → a = b := by
      rintro ⟨⟨a⟩⟩ ⟨⟨b⟩⟩ h; simp at h; rw [h]
    apply h1
    rw [e] at h ⊢
    exact (sum_digit hc (hb c (by simpa using List.mem_of_getElem? hc)) hx).1 h

set_option maxRecDepth 100000 in
set_option maxHeartbeats 1000000 in
theorem fnSum_small (p : Option Addr) (n cap : Nat) (w : World) (hE : Hid (Env w)) (h : (n : Int) ≤ 1048576)
    (HD : Hid (Calls Tryd.prog 19 #[.slice p n cap] w (DrewStr LowText w))) :
    Calls Tryd.prog 5 #[.slice p n cap] w fun e w' => e = .returned (.bool true) ∧ Ext w w' := by
  go_enter Tryd.func5, Tryd.ntmps5
  go_wp2_with fail
  refine HD.out.mono ?_
  rintro e w1 ⟨s, rfl, hP, h1⟩
  have hs : s.size ≤ 100 := by have := hP.1; rwa [toList_length] at this
  have hb := Lib.hid hP.2
  clear hP
  have hbd := sumL_bd s.data.toList
  have HI : Hid (∀ w, Calls Tryd.prog 20 #[.string s] w fun e w' => e = .returned (.int .i64 (sumL s.data.toList)) ∧ w = w') := fun w => implSumOf s w (by unfold maxLen; omega)
  have HS : Hid (∀ w, Calls Tryd.prog 21 #[.string s] w fun e w' => e = .returned (.int .i64 (sumL s.data.toList)) ∧ w = w') := fun w => specSumOf s w (by unfold maxLen; omega)
  obtain ⟨x, hx⟩ : ∃ x, x = sumL s.data.toList := ⟨_, rfl⟩
  rw [← hx] at HI HS hbd
  have HX := Lib.hid hx
  clear hx
  go_wp2_with fail
  refine (HI.out _).mono ?_
  rintro e w2 ⟨rfl, rfl⟩
  go_wp2_with fail
  refine (HS.out _).mono ?_
  rintro e w2 ⟨rfl, rfl⟩
  go_wp2
  go_loopw [5] (fun i wr => ∃ k : Nat, k ≤ s.size ∧ i = .int .i64 k ∧ Ext w wr) (fun i _ => s.size - (intOf i).toNat)
  case atStart => exact ⟨0, Nat.zero_le _, rfl, by (repeat' (first | exact Ext.refl _ | (with_reducible assumption) | (with_reducible refine Ext.alloc ?_ _) | (with_reducible refine Ext.setCell ?_ (by first | exact Nat.le_refl _ | (dsimp only; omega) | (simp; done) | (simp; omega)) _) | (with_reducible refine Ext.drew ?_) | (with_reducible refine Ext.drewN ?_ _) | (refine Ext.trans ?_ (by with_reducible assumption))))⟩
  case round =>
    obtain ⟨k, hk, rfl, hE1⟩ := hrel
    by_cases hlt : k < s.size
    · obtain ⟨wo, rfl⟩ : ∃ wo : World, wo = wr := ⟨_, rfl⟩
      go_wp2
      go_loopw [6] (fun j wr => ∃ d : Nat, d ≤ 10 ∧ j = .int .i64 d ∧ Ext w wr) (fun j _ => 10 - (intOf j).toNat)
      case atStart => exact ⟨0, by omega, rfl, hE1⟩
      case round =>
        obtain ⟨d, hd, rfl, hE2⟩ := hrel
        by_cases hd2 : d < 10
        · go_wp2
          go_quiet (fail)
          go_wp2_with fail
          have hys := digit_sum s k d hlt hd2 hb.out
          generalize hy : s.extract 0 k ++ (⟨#[48, 49, 50, 51, 52, 53, 54, 55, 56, 57]⟩ : ByteArray).extract d (d + 1) ++ s.extract (k + 1) s.size = y
          rw [hy] at hys
          clear hy
          by_cases he : y = s
          · subst he
            refine (HI.out _).mono ?_
            rintro e w4 ⟨rfl, rfl⟩
            go_wp2
            go_roundw
            case rel => exact ⟨d + 1, by omega, by go_num, by (repeat' (first | exact Ext.refl _ | (with_reducible assumption) | (with_reducible refine Ext.alloc ?_ _) | (with_reducible refine Ext.setCell ?_ (by first | exact Nat.le_refl _ | (dsimp only; omega) | (simp; done) | (simp; omega)) _) | (with_reducible refine Ext.drew ?_) | (with_reducible refine Ext.drewN ?_ _) | (refine Ext.trans ?_ (by with_reducible assumption))))⟩
            case measure => simp [intOf]; omega
          · obtain ⟨z, hz⟩ : ∃ z, z = sumL y.data.toList := ⟨_, rfl⟩
            have hzx : z ≠ x := by rw [hz, HX.out]; exact fun e => he (hys.2 e)
            have hb1 : (y.toList == s.toList) = false := by rw [beq_eq_false_iff_ne]; exact fun e => he (bytes_same e)
            have hb2 : (z == x) = false := by simpa using hzx
            have HY : Hid (∀ w, Calls Tryd.prog 20 #[.string y] w fun e w' => e = .returned (.int .i64 z) ∧ w = w') := fun w => by rw [hz]; exact implSumOf y w (by unfold maxLen; omega)
            clear hz hys
            refine (HY.out _).mono ?_
            rintro e w4 ⟨rfl, rfl⟩
            go_wp2
            go_roundw
            case rel => exact ⟨d + 1, by omega, by go_num, by (repeat' (first | exact Ext.refl _ | (with_reducible assumption) | (with_reducible refine Ext.alloc ?_ _) | (with_reducible refine Ext.setCell ?_ (by first | exact Nat.le_refl _ | (dsimp only; omega) | (simp; done) | (simp; omega)) _) | (with_reducible refine Ext.drew ?_) | (with_reducible refine Ext.drewN ?_ _) | (refine Ext.trans ?_ (by with_reducible assumption))))⟩
            case measure => simp [intOf]; omega
        · go_wp2
          go_roundw
          case rel => exact ⟨k + 1, by omega, by go_num, hE2⟩
          case measure => simp [intOf]; omega
    · have HN : Hid (∀ w, Calls Tryd.prog 20 #[.string ⟨#[]⟩] w fun e w' => e = .returned (.int .i64 1) ∧ w = w') := fun w => implSumOf ⟨#[]⟩ w (by decide)
      have hx1 : (x < 97) := by omega
      have hx2 : 0 ≤ x := by omega
      go_wp2_with (first | (go_at_call 20; refine (HN.out _).mono ?_; rintro e w4 ⟨rfl, rfl⟩) | (go_at_call 22; refine (alive_any _ (hE.out.ext (by (repeat' (first | exact Ext.refl _ | (with_reducible assumption) | (with_reducible refine Ext.alloc ?_ _) | (with_reducible refine Ext.setCell ?_ (by first | exact Nat.le_refl _ | (dsimp only; omega) | (simp; done) | (simp; omega)) _) | (with_reducible refine Ext.drew ?_) | (with_reducible refine Ext.drewN ?_ _) | (refine Ext.trans ?_ (by with_reducible assumption))))))).mono ?_; rintro e w5 ⟨rfl, h5⟩))
      go_ret
      exact ⟨rfl, by (repeat' (first | exact Ext.refl _ | (with_reducible assumption) | (with_reducible refine Ext.alloc ?_ _) | (with_reducible refine Ext.setCell ?_ (by first | exact Nat.le_refl _ | (dsimp only; omega) | (simp; done) | (simp; omega)) _) | (with_reducible refine Ext.drew ?_) | (with_reducible refine Ext.drewN ?_ _) | (refine Ext.trans ?_ (by with_reducible assumption))))⟩

theorem walk_FnSumOf (W : World) (v : Value) (u : Unit) (hc : Code W v) (hE : Env W) : Calls Tryd.prog 5 #[v] W fun e w' => e = .returned (.bool true) ∧ Ext W w' := by
  have hD := drawSumOf v W hc
  obtain ⟨p, n, cap, bs, rfl, h, hb⟩ := hc
  by_cases hn : (n : Int) ≤ 1048576
  · exact fnSum_small p n cap W hE hn hD
  · exact fnSum_big p n cap W (by omega)
end Go.Proofs.YtgojmmhfablapaaDoor
