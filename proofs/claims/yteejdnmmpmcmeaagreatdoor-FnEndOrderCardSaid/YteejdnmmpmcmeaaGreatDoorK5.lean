/-
  Texts of this proof, packed (@packed).
-/
import Derived.WalkLawsBesides
import Derived.Test.YteejdnmmpmcmeaaGreatDoorK1
namespace Go.Proofs.YteejdnmmpmcmeaaGreatDoor
open Go.RowKit
set_option linter.unusedVariables false
def tariffOk (f s p c:Int):Bool:=decide (0≤f∧f<1440∧1≤s∧s≤1440∧0≤p∧p≤99∧0≤c∧c≤99)
def stayOk (i p a:Int):Bool:=decide (0≤i∧i≤9999∧0≤p∧p≤9999∧i≤a∧a≤9999)
def feeSteps (f s m:Int):Int:=if m≤f then 0 else(m-f+s-1)/s
def feeOf (f s p c m:Int):Int:=m/1440*c+min (feeSteps f s (m%1440)*p) c
def stayDue (f s p c i pd a now:Int):Int:=if tariffOk f s p c&&stayOk i pd a&&decide (a≤now∧now≤9999)then max (feeOf f s p c (now-i)-pd) 0 else -1
def mayLeave (f s p c i pd a now:Int):Bool:=
 decide (stayDue f s p c i pd a now=0) || (decide (0≤stayDue f s p c i pd a now)&&decide (now-a≤15)&&decide (stayDue f s p c i pd a a=0))
abbrev tariffV (f s p c:Int):Value:= .agg #[.int .i64 f,.int .i64 s,.int .i64 p,.int .i64 c]
abbrev stayV (i p a:Int):Value:= .agg #[.int .i64 i,.int .i64 p,.int .i64 a]
theorem tariff_parts {f s p c:Int}(h:tariffOk f s p c=true):0≤f∧f<1440∧1≤s∧s≤1440∧0≤p∧p≤99∧0≤c∧c≤99:=by simpa[tariffOk]using h
theorem stay_parts {i p a:Int}(h:stayOk i p a=true):0≤i∧i≤9999∧0≤p∧p≤9999∧i≤a∧a≤9999:=by simpa[stayOk]using h
theorem feeSteps_bd {f s m:Int}(h0:0≤f)(h1:1≤s)(hm:m≤9999):0≤feeSteps f s m∧feeSteps f s m≤9999:=by
 unfold feeSteps
 split
 ·omega
 ·refine⟨Int.ediv_nonneg (by omega) (by omega),?_⟩
  have:(m-f+s-1)/s≤m-f:=by
   apply Int.ediv_le_of_le_mul (by omega)
   have:(m-f)*s≥(m-f)*1:=Int.mul_le_mul_of_nonneg_left h1 (by omega)
   have h2:(m-f)*s=(m-f-1)*s+s:=by rw[Int.sub_mul (m-f) 1 s];omega
   have h3:(m-f-1)*s≥(m-f-1)*1:=Int.mul_le_mul_of_nonneg_left h1 (by omega)
   omega
  omega
theorem feeSteps_alt {f s m:Int}(h1:1≤s):(max (m-f) 0+s-1)/s=feeSteps f s m:=by
 unfold feeSteps
 split
 ·rw[show max (m-f) 0=0 by omega]
  exact Int.ediv_eq_zero_of_lt (by omega) (by omega)
 ·rw[show max (m-f) 0=m-f by omega]
theorem feeMul_bd {x p:Int}(hx:0≤x)(hx2:x≤9999)(h0:0≤p)(h1:p≤99):0≤x*p∧x*p≤989901:=by
 refine⟨Int.mul_nonneg hx h0,?_⟩
 have:=Int.mul_le_mul hx2 h1 h0 (by omega)
 omega
theorem feeOf_bd {f s p c m:Int}(h:tariffOk f s p c=true)(h0:0≤m)(h1:m≤9999):0≤feeOf f s p c m∧feeOf f s p c m≤693:=by
 obtain⟨a1,a2,a3,a4,a5,a6,a7,a8⟩:=tariff_parts h
 obtain⟨b1,b2⟩:=feeSteps_bd (m:=m%1440) a1 a3 (by omega)
 obtain⟨d1,d2⟩:=feeMul_bd b1 b2 a5 a6
 unfold feeOf
 have e1:0≤m/1440*c:=Int.mul_nonneg (by omega) a7
 have e2:m/1440*c≤6*99:=Int.mul_le_mul (by omega) a8 a7 (by omega)
 omega
set_option maxRecDepth 100000 in
set_option maxHeartbeats 1000000 in
theorem implTv (f s p c:Int)(w:World):Calls Tryz.prog 62 #[tariffV f s p c] w fun e w'=>e= .returned (.bool (tariffOk f s p c))∧Ext w w':=by
 by_cases c1:0≤f
 ·by_cases c2:f<1440
  ·by_cases c3:1≤s
   ·by_cases c4:s≤1440
    ·by_cases c5:0≤p
     ·by_cases c6:p≤99
      ·by_cases c7:0≤c
       ·by_cases c8:c≤99
        ·go_enter Tryz.func62,Tryz.ntmps62
         go_wp2
         go_ret
         exact⟨ret_bool (by simp[tariffOk];omega),by exact .alloc (.refl _) _⟩
        ·go_enter Tryz.func62,Tryz.ntmps62
         go_wp2
         go_ret
         exact⟨ret_bool (by simp[tariffOk];omega),by exact .alloc (.refl _) _⟩
       ·go_enter Tryz.func62,Tryz.ntmps62
        go_wp2
        go_ret
        exact⟨ret_bool (by simp[tariffOk];omega),by exact .alloc (.refl _) _⟩
      ·go_enter Tryz.func62,Tryz.ntmps62
       go_wp2
       go_ret
       exact⟨ret_bool (by simp[tariffOk];omega),by exact .alloc (.refl _) _⟩
     ·go_enter Tryz.func62,Tryz.ntmps62
      go_wp2
      go_ret
      exact⟨ret_bool (by simp[tariffOk];omega),by exact .alloc (.refl _) _⟩
    ·go_enter Tryz.func62,Tryz.ntmps62
     go_wp2
     go_ret
     exact⟨ret_bool (by simp[tariffOk];omega),by exact .alloc (.refl _) _⟩
   ·go_enter Tryz.func62,Tryz.ntmps62
    go_wp2
    go_ret
    exact⟨ret_bool (by simp[tariffOk];omega),by exact .alloc (.refl _) _⟩
  ·go_enter Tryz.func62,Tryz.ntmps62
   go_wp2
   go_ret
   exact⟨ret_bool (by simp[tariffOk];omega),by exact .alloc (.refl _) _⟩
 ·go_enter Tryz.func62,Tryz.ntmps62
  go_wp2
  go_ret
  exact⟨ret_bool (by simp[tariffOk];omega),by exact .alloc (.refl _) _⟩
set_option maxRecDepth 100000 in
set_option maxHeartbeats 1000000 in
theorem specTv (f s p c:Int)(w:World):Calls Tryz.prog 65 #[tariffV f s p c] w fun e w'=>e= .returned (.bool (tariffOk f s p c))∧Ext w w':=by
 by_cases c1:0≤f
 ·by_cases c2:f<1440
  ·by_cases c3:1≤s
   ·by_cases c4:s≤1440
    ·by_cases c5:0≤p
     ·by_cases c6:p≤99
      ·by_cases c7:0≤c
       ·by_cases c8:c≤99
        ·go_enter Tryz.func65,Tryz.ntmps65
         go_wp2_with go_in
         go_ret
         exact⟨ret_bool (by simp[tariffOk];omega),by exact .alloc (.refl _) _⟩
        ·go_enter Tryz.func65,Tryz.ntmps65
         go_wp2_with go_in
         go_ret
         exact⟨ret_bool (by simp[tariffOk];omega),by exact .alloc (.refl _) _⟩
       ·go_enter Tryz.func65,Tryz.ntmps65
        go_wp2_with go_in
        go_ret
        exact⟨ret_bool (by simp[tariffOk];omega),by exact .alloc (.refl _) _⟩
      ·go_enter Tryz.func65,Tryz.ntmps65
       go_wp2_with go_in
       go_ret
       exact⟨ret_bool (by simp[tariffOk];omega),by exact .alloc (.refl _) _⟩
     ·go_enter Tryz.func65,Tryz.ntmps65
      go_wp2_with go_in
      go_ret
      exact⟨ret_bool (by simp[tariffOk];omega),by exact .alloc (.refl _) _⟩
    ·go_enter Tryz.func65,Tryz.ntmps65
     go_wp2_with go_in
     go_ret
     exact⟨ret_bool (by simp[tariffOk];omega),by exact .alloc (.refl _) _⟩
   ·go_enter Tryz.func65,Tryz.ntmps65
    go_wp2_with go_in
    go_ret
    exact⟨ret_bool (by simp[tariffOk];omega),by exact .alloc (.refl _) _⟩
  ·go_enter Tryz.func65,Tryz.ntmps65
   go_wp2_with go_in
   go_ret
   exact⟨ret_bool (by simp[tariffOk];omega),by exact .alloc (.refl _) _⟩
 ·go_enter Tryz.func65,Tryz.ntmps65
  go_wp2_with go_in
  go_ret
  exact⟨ret_bool (by simp[tariffOk];omega),by exact .alloc (.refl _) _⟩
set_option maxRecDepth 100000 in
set_option maxHeartbeats 1000000 in
theorem implSv (i p a:Int)(w:World):Calls Tryz.prog 24 #[stayV i p a] w fun e w'=>e= .returned (.bool (stayOk i p a))∧Ext w w':=by
 by_cases c1:0≤i
 ·by_cases c2:i≤9999
  ·by_cases c3:0≤p
   ·by_cases c4:p≤9999
    ·by_cases c5:i≤a
     ·by_cases c6:a≤9999
      ·go_enter Tryz.func24,Tryz.ntmps24
       go_wp2
       go_ret
       exact⟨ret_bool (by simp[stayOk];omega),by exact .alloc (.refl _) _⟩
      ·go_enter Tryz.func24,Tryz.ntmps24
       go_wp2
       go_ret
       exact⟨ret_bool (by simp[stayOk];omega),by exact .alloc (.refl _) _⟩
     ·go_enter Tryz.func24,Tryz.ntmps24
      go_wp2
      go_ret
      exact⟨ret_bool (by simp[stayOk];omega),by exact .alloc (.refl _) _⟩
    ·go_enter Tryz.func24,Tryz.ntmps24
     go_wp2
     go_ret
     exact⟨ret_bool (by simp[stayOk];omega),by exact .alloc (.refl _) _⟩
   ·go_enter Tryz.func24,Tryz.ntmps24
    go_wp2
    go_ret
    exact⟨ret_bool (by simp[stayOk];omega),by exact .alloc (.refl _) _⟩
  ·go_enter Tryz.func24,Tryz.ntmps24
   go_wp2
   go_ret
   exact⟨ret_bool (by simp[stayOk];omega),by exact .alloc (.refl _) _⟩
 ·go_enter Tryz.func24,Tryz.ntmps24
  go_wp2
  go_ret
  exact⟨ret_bool (by simp[stayOk];omega),by exact .alloc (.refl _) _⟩
set_option maxRecDepth 100000 in
set_option maxHeartbeats 1000000 in
theorem specSv (i p a:Int)(w:World):Calls Tryz.prog 67 #[stayV i p a] w fun e w'=>e= .returned (.bool (stayOk i p a))∧Ext w w':=by
 by_cases c1:0≤i
 ·by_cases c2:i≤9999
  ·by_cases c3:0≤p
   ·by_cases c4:p≤9999
    ·by_cases c5:i≤a
     ·by_cases c6:a≤9999
      ·go_enter Tryz.func67,Tryz.ntmps67
       go_wp2_with go_in
       go_ret
       exact⟨ret_bool (by simp[stayOk];omega),by exact .alloc (.refl _) _⟩
      ·go_enter Tryz.func67,Tryz.ntmps67
       go_wp2_with go_in
       go_ret
       exact⟨ret_bool (by simp[stayOk];omega),by exact .alloc (.refl _) _⟩
     ·go_enter Tryz.func67,Tryz.ntmps67
      go_wp2_with go_in
      go_ret
      exact⟨ret_bool (by simp[stayOk];omega),by exact .alloc (.refl _) _⟩
    ·go_enter Tryz.func67,Tryz.ntmps67
     go_wp2_with go_in
     go_ret
     exact⟨ret_bool (by simp[stayOk];omega),by exact .alloc (.refl _) _⟩
   ·go_enter Tryz.func67,Tryz.ntmps67
    go_wp2_with go_in
    go_ret
    exact⟨ret_bool (by simp[stayOk];omega),by exact .alloc (.refl _) _⟩
  ·go_enter Tryz.func67,Tryz.ntmps67
   go_wp2_with go_in
   go_ret
   exact⟨ret_bool (by simp[stayOk];omega),by exact .alloc (.refl _) _⟩
 ·go_enter Tryz.func67,Tryz.ntmps67
  go_wp2_with go_in
  go_ret
  exact⟨ret_bool (by simp[stayOk];omega),by exact .alloc (.refl _) _⟩
set_option maxRecDepth 100000 in
set_option maxHeartbeats 1000000 in
theorem implFs (f s p c m:Int)(w:World)(h:tariffOk f s p c=true)(h0:0≤m)(h1:m≤9999):Calls Tryz.prog 76 #[tariffV f s p c,.int .i64 m] w fun e w'=>e= .returned (.int .i64 (feeSteps f s m))∧Ext w w':=by
 obtain⟨a1,a2,a3,a4,a5,a6,a7,a8⟩:=tariff_parts h
 have HT:Hid (∀w,Calls Tryz.prog 62 #[tariffV f s p c] w fun e w'=>e= .returned (.bool true)∧Ext w w'):=fun w=>by rw[←h];exact implTv f s p c w
 have HB:=Lib.hid (feeSteps_bd (m:=m) a1 a3 h1)
 clear h
 by_cases hm:m≤f
 ·have hf:Hid (feeSteps f s m=0):=if_pos hm
  go_enter Tryz.func76,Tryz.ntmps76
  go_wp2_with fail
  refine(HT.out _).mono ?_
  rintro e w1 ⟨rfl,h1'⟩
  have hce:=h1'.cells.1
  go_wp2
  go_ret
  exact⟨ret_int hf.out.symm,by exact .trans (.alloc (.refl _) _) h1'⟩
 ·have hf:Hid (feeSteps f s m=(m-f+s-1)/s):=if_neg hm
  go_enter Tryz.func76,Tryz.ntmps76
  go_wp2_with fail
  refine(HT.out _).mono ?_
  rintro e w1 ⟨rfl,h1'⟩
  have hce:=h1'.cells.1
  go_wp2
  go_ret
  exact⟨ret_int hf.out.symm,by exact .trans (.alloc (.refl _) _) h1'⟩
set_option maxRecDepth 100000 in
set_option maxHeartbeats 1000000 in
theorem specFs (f s p c m:Int)(w:World)(h:tariffOk f s p c=true)(h0:0≤m)(h1:m≤9999):Calls Tryz.prog 165 #[tariffV f s p c,.int .i64 m] w fun e w'=>e= .returned (.int .i64 (feeSteps f s m))∧Ext w w':=by
 obtain⟨a1,a2,a3,a4,a5,a6,a7,a8⟩:=tariff_parts h
 have HT:Hid (∀w,Calls Tryz.prog 65 #[tariffV f s p c] w fun e w'=>e= .returned (.bool true)∧Ext w w'):=fun w=>by rw[←h];exact specTv f s p c w
 have hf:=Lib.hid (feeSteps_alt (f:=f) (m:=m) a3)
 clear h
 go_enter Tryz.func165,Tryz.ntmps165
 go_wp2_with (first|(go_at_call 65;refine(HT.out _).mono ?_;rintro e w1 ⟨rfl,h1'⟩;have hce:=h1'.cells.1)|go_in)
 all_goals go_ret
 all_goals exact⟨ret_int (by rw[←hf.out];congr 1;omega),by exact .trans (.alloc (.refl _) _) h1'⟩
set_option maxRecDepth 100000 in
set_option maxHeartbeats 1000000 in
theorem implFo (f s p c m:Int)(w:World)(h:tariffOk f s p c=true)(h0:0≤m)(h1:m≤9999):Calls Tryz.prog 28 #[tariffV f s p c,.int .i64 m] w fun e w'=>e= .returned (.int .i64 (feeOf f s p c m))∧Ext w w':=by
 obtain⟨a1,a2,a3,a4,a5,a6,a7,a8⟩:=tariff_parts h
 have HT:Hid (∀w,Calls Tryz.prog 62 #[tariffV f s p c] w fun e w'=>e= .returned (.bool true)∧Ext w w'):=fun w=>by rw[←h];exact implTv f s p c w
 obtain⟨q,hq⟩: ∃q,q=feeSteps f s (m%1440):=⟨_,rfl⟩
 have hqb:0≤q∧q≤9999:=by rw[hq];exact feeSteps_bd a1 a3 (by omega)
 obtain⟨q2,hq2⟩: ∃q,q=feeSteps f s m:=⟨_,rfl⟩
 have hqb2:0≤q2∧q2≤9999:=by rw[hq2];exact feeSteps_bd a1 a3 (by omega)
 have HF:Hid (∀w,Calls Tryz.prog 76 #[tariffV f s p c,.int .i64 (m%1440)] w fun e w'=>e= .returned (.int .i64 q)∧Ext w w'):=fun w=>by rw[hq];exact implFs f s p c _ w h (by omega) (by omega)
 have HF2:Hid (∀w,Calls Tryz.prog 76 #[tariffV f s p c,.int .i64 m] w fun e w'=>e= .returned (.int .i64 q2)∧Ext w w'):=fun w=>by rw[hq2];exact implFs f s p c _ w h (by omega) (by omega)
 have hres:feeOf f s p c m=m/1440*c+min (q*p) c:=by rw[hq];rfl
 rw[hres]
 obtain⟨b1,b2⟩:=feeMul_bd hqb.1 hqb.2 a5 a6
 have b3:0≤m/1440*c:=Int.mul_nonneg (by omega) a7
 have b4:m/1440*c≤6*99:=Int.mul_le_mul (by omega) a8 a7 (by omega)
 clear hq hq2 hres h
 go_enter Tryz.func28,Tryz.ntmps28
 go_wp2_with fail
 refine(HT.out _).mono ?_
 rintro e w1 ⟨rfl,h1'⟩
 have hz1:w.heap.size<w1.heap.size:=Nat.lt_of_lt_of_le (by simp) h1'.sz
 have e0:w1.cell? ⟨w.heap.size,0,none⟩=some (.int .i64 f):=by rw[h1'.cells.1 _ _ (by simp)];simp
 have e1:w1.cell? ⟨w.heap.size,1,none⟩=some (.int .i64 s):=by rw[h1'.cells.1 _ _ (by simp)];simp
 have e2:w1.cell? ⟨w.heap.size,2,none⟩=some (.int .i64 p):=by rw[h1'.cells.1 _ _ (by simp)];simp
 have e3:w1.cell? ⟨w.heap.size,3,none⟩=some (.int .i64 c):=by rw[h1'.cells.1 _ _ (by simp)];simp
 go_wp2_with fail
 have hq:=IntWalk.i64_quo m 1440 ⟨h0,by omega,by omega⟩
 have hr:=IntWalk.rem_in m 1440 h0
 have hr1:IntKind.i64.wrap (m%1440)=m%1440:=IntWalk.i64_in _ (by omega)
 have k1:IntKind.i64.wrap (q*p)=q*p:=IntWalk.i64_in _ (by omega)
 have k2:IntKind.i64.wrap (m/1440*c)=m/1440*c:=IntWalk.i64_in _ (by omega)
 have k3:IntKind.i64.wrap (m/1440*c+c)=m/1440*c+c:=IntWalk.i64_in _ (by omega)
 have k4:IntKind.i64.wrap (m/1440*c+q*p)=m/1440*c+q*p:=IntWalk.i64_in _ (by omega)
 go_region_held3 (fun w'=>w'.cell? ⟨w.heap.size,0,none⟩=some (.int .i64 f)∧w'.cell? ⟨w.heap.size,1,none⟩=some (.int .i64 s)∧w'.cell? ⟨w.heap.size,2,none⟩=some (.int .i64 p)∧w'.cell? ⟨w.heap.size,3,none⟩=some (.int .i64 c)) (go_keep)
  ((go_at_call 76;refine(HF.out _).mono ?_;rintro e w2 ⟨rfl,h2⟩;(try replace h2:=h2.of_drew);have hce:=h2.cells.1;have hze:w.heap.size<w2.heap.size:=Nat.lt_of_lt_of_le (by assumption) h2.sz))
 all_goals clear hq hr hr1 k1 k2 k3 k4
 all_goals go_wp2
 all_goals go_ret
 all_goals exact⟨ret_int (by first|omega|(rw[IntWalk.i64_in _ (by omega)];omega)),by exact .trans (.trans (.alloc (.refl _) _) h1') h2⟩
set_option maxRecDepth 100000 in
set_option maxHeartbeats 1000000 in
theorem specFo (f s p c m:Int)(w:World)(h:tariffOk f s p c=true)(h0:0≤m)(h1:m≤9999):Calls Tryz.prog 127 #[tariffV f s p c,.int .i64 m] w fun e w'=>e= .returned (.int .i64 (feeOf f s p c m))∧Ext w w':=by
 obtain⟨a1,a2,a3,a4,a5,a6,a7,a8⟩:=tariff_parts h
 have HT:Hid (∀w,Calls Tryz.prog 65 #[tariffV f s p c] w fun e w'=>e= .returned (.bool true)∧Ext w w'):=fun w=>by rw[←h];exact specTv f s p c w
 obtain⟨q,hq⟩: ∃q,q=feeSteps f s (m%1440):=⟨_,rfl⟩
 have hqb:0≤q∧q≤9999:=by rw[hq];exact feeSteps_bd a1 a3 (by omega)
 obtain⟨q2,hq2⟩: ∃q,q=feeSteps f s m:=⟨_,rfl⟩
 have hqb2:0≤q2∧q2≤9999:=by rw[hq2];exact feeSteps_bd a1 a3 (by omega)
 have HF:Hid (∀w,Calls Tryz.prog 165 #[tariffV f s p c,.int .i64 (m%1440)] w fun e w'=>e= .returned (.int .i64 q)∧Ext w w'):=fun w=>by rw[hq];exact specFs f s p c _ w h (by omega) (by omega)
 have HF2:Hid (∀w,Calls Tryz.prog 165 #[tariffV f s p c,.int .i64 m] w fun e w'=>e= .returned (.int .i64 q2)∧Ext w w'):=fun w=>by rw[hq2];exact specFs f s p c _ w h (by omega) (by omega)
 have hres:feeOf f s p c m=m/1440*c+min (q*p) c:=by rw[hq];rfl
 rw[hres]
 obtain⟨b1,b2⟩:=feeMul_bd hqb.1 hqb.2 a5 a6
 have b3:0≤m/1440*c:=Int.mul_nonneg (by omega) a7
 have b4:m/1440*c≤6*99:=Int.mul_le_mul (by omega) a8 a7 (by omega)
 clear hq hq2 hres h
 go_enter Tryz.func127,Tryz.ntmps127
 go_wp2_with fail
 refine(HF2.out _).mono ?_
 rintro e w1 ⟨rfl,h1'⟩
 have hz1:w.heap.size<w1.heap.size:=Nat.lt_of_lt_of_le (by simp) h1'.sz
 have e0:w1.cell? ⟨w.heap.size,0,none⟩=some (.int .i64 f):=by rw[h1'.cells.1 _ _ (by simp)];simp
 have e1:w1.cell? ⟨w.heap.size,1,none⟩=some (.int .i64 s):=by rw[h1'.cells.1 _ _ (by simp)];simp
 have e2:w1.cell? ⟨w.heap.size,2,none⟩=some (.int .i64 p):=by rw[h1'.cells.1 _ _ (by simp)];simp
 have e3:w1.cell? ⟨w.heap.size,3,none⟩=some (.int .i64 c):=by rw[h1'.cells.1 _ _ (by simp)];simp
 go_wp2_with fail
 have hq:=IntWalk.i64_quo m 1440 ⟨h0,by omega,by omega⟩
 have hr:=IntWalk.rem_in m 1440 h0
 have hr1:IntKind.i64.wrap (m%1440)=m%1440:=IntWalk.i64_in _ (by omega)
 have k1:IntKind.i64.wrap (q*p)=q*p:=IntWalk.i64_in _ (by omega)
 have k2:IntKind.i64.wrap (m/1440*c)=m/1440*c:=IntWalk.i64_in _ (by omega)
 have k3:IntKind.i64.wrap (m/1440*c+c)=m/1440*c+c:=IntWalk.i64_in _ (by omega)
 have k4:IntKind.i64.wrap (m/1440*c+q*p)=m/1440*c+q*p:=IntWalk.i64_in _ (by omega)
 go_region_held3 (fun w'=>w'.cell? ⟨w.heap.size,0,none⟩=some (.int .i64 f)∧w'.cell? ⟨w.heap.size,1,none⟩=some (.int .i64 s)∧w'.cell? ⟨w.heap.size,2,none⟩=some (.int .i64 p)∧w'.cell? ⟨w.heap.size,3,none⟩=some (.int .i64 c)) (go_keep)
  ((go_at_call 165;refine(HF.out _).mono ?_;rintro e w2 ⟨rfl,h2⟩;(try replace h2:=h2.of_drew);have hce:=h2.cells.1;have hze:w.heap.size<w2.heap.size:=Nat.lt_of_lt_of_le (by assumption) h2.sz))
 all_goals clear hq hr hr1 k1 k2 k3 k4
 all_goals go_wp2
 all_goals go_ret
 all_goals exact⟨ret_int (by first|omega|(rw[IntWalk.i64_in _ (by omega)];omega)),by exact .trans (.trans (.alloc (.refl _) _) h1') h2⟩
end Go.Proofs.YteejdnmmpmcmeaaGreatDoor

namespace Go.Proofs.YteejdnmmpmcmeaaGreatDoor
open Go.RowKit
set_option linter.unusedVariables false
set_option maxRecDepth 100000 in
set_option maxHeartbeats 1000000 in
theorem implSd (f s p c i pd a now:Int)(w:World)(h:tariffOk f s p c=true)(h2:stayOk i pd a=true)(h3:a≤now)(h4:now≤9999):Calls Tryz.prog 74 #[tariffV f s p c,stayV i pd a,.int .i64 now] w fun e w'=>e= .returned (.int .i64 (stayDue f s p c i pd a now))∧Ext w w':=by
 obtain⟨b1,b2,b3,b4,b5,b6⟩:=stay_parts h2
 have HT:Hid (∀w,Calls Tryz.prog 62 #[tariffV f s p c] w fun e w'=>e= .returned (.bool true)∧Ext w w'):=fun w=>by rw[←h];exact implTv f s p c w
 have HS:Hid (∀w,Calls Tryz.prog 24 #[stayV i pd a] w fun e w'=>e= .returned (.bool true)∧Ext w w'):=fun w=>by rw[←h2];exact implSv i pd a w
 obtain⟨q,hq⟩: ∃q,q=feeOf f s p c (now-i):=⟨_,rfl⟩
 have hqb:0≤q∧q≤693:=by rw[hq];exact feeOf_bd h (by omega) (by omega)
 have HF:Hid (∀w,Calls Tryz.prog 28 #[tariffV f s p c,.int .i64 (now-i)] w fun e w'=>e= .returned (.int .i64 q)∧Ext w w'):=fun w=>by rw[hq];exact implFo f s p c _ w h (by omega) (by omega)
 have hres:stayDue f s p c i pd a now=max (q-pd) 0:=by rw[hq];simp[stayDue,h,h2,h3,h4]
 rw[hres]
 clear hq hres h h2
 go_enter Tryz.func74,Tryz.ntmps74
 go_wp2_with fail
 refine(HT.out _).mono ?_
 rintro e w1 ⟨rfl,h1'⟩
 have hz1:w.heap.size<w1.heap.size:=Nat.lt_of_lt_of_le (by simp;omega) h1'.sz
 have hz2:w.heap.size+1<w1.heap.size:=Nat.lt_of_lt_of_le (by simp) h1'.sz
 have e0:w1.cell? ⟨w.heap.size,0,none⟩=some (.int .i64 f):=by rw[h1'.cells.1 _ _ (by simp;omega)];simp
 have e1:w1.cell? ⟨w.heap.size,1,none⟩=some (.int .i64 s):=by rw[h1'.cells.1 _ _ (by simp;omega)];simp
 have e2:w1.cell? ⟨w.heap.size,2,none⟩=some (.int .i64 p):=by rw[h1'.cells.1 _ _ (by simp;omega)];simp
 have e3:w1.cell? ⟨w.heap.size,3,none⟩=some (.int .i64 c):=by rw[h1'.cells.1 _ _ (by simp;omega)];simp
 have g0:w1.cell? ⟨w.heap.size+1,0,none⟩=some (.int .i64 i):=by rw[h1'.cells.1 _ _ (by simp)];simp
 have g1:w1.cell? ⟨w.heap.size+1,1,none⟩=some (.int .i64 pd):=by rw[h1'.cells.1 _ _ (by simp)];simp
 have g2:w1.cell? ⟨w.heap.size+1,2,none⟩=some (.int .i64 a):=by rw[h1'.cells.1 _ _ (by simp)];simp
 go_wp2_with (first|(go_at_call 24;refine(HS.out _).mono ?_;rintro e w2 ⟨rfl,h2'⟩;have hc2:=h2'.cells.1;have hz3:w.heap.size<w2.heap.size:=Nat.lt_of_lt_of_le hz1 h2'.sz;have hz4:w.heap.size+1<w2.heap.size:=Nat.lt_of_lt_of_le hz2 h2'.sz)|go_in)
 have k1:IntKind.i64.wrap (now-i)=now-i:=IntWalk.i64_in _ (by omega)
 have k2:IntKind.i64.wrap (q-pd)=q-pd:=IntWalk.i64_in _ (by omega)
 go_region_held3 (fun w'=>w'.cell? ⟨w.heap.size,0,none⟩=some (.int .i64 f)∧w'.cell? ⟨w.heap.size,1,none⟩=some (.int .i64 s)∧w'.cell? ⟨w.heap.size,2,none⟩=some (.int .i64 p)∧w'.cell? ⟨w.heap.size,3,none⟩=some (.int .i64 c)∧w'.cell? ⟨w.heap.size+1,0,none⟩=some (.int .i64 i)∧w'.cell? ⟨w.heap.size+1,1,none⟩=some (.int .i64 pd)) (go_keep)
  ((go_at_call 28;refine(HF.out _).mono ?_;rintro e w3 ⟨rfl,h3'⟩;(try replace h3':=h3'.of_drew);have hc3:=h3'.cells.1;have hz5:w.heap.size<w3.heap.size:=Nat.lt_of_lt_of_le (by assumption) h3'.sz;have hz6:w.heap.size+1<w3.heap.size:=Nat.lt_of_lt_of_le (by assumption) h3'.sz))
 all_goals clear k1 k2
 all_goals go_wp2
 all_goals go_ret
 all_goals exact⟨ret_int (by omega),by exact .trans (.trans (.trans (.alloc (.alloc (.refl _) _) _) h1') h2') h3'⟩
set_option maxRecDepth 100000 in
set_option maxHeartbeats 1000000 in
theorem specSd (f s p c i pd a now:Int)(w:World)(h:tariffOk f s p c=true)(h2:stayOk i pd a=true)(h3:a≤now)(h4:now≤9999):Calls Tryz.prog 75 #[tariffV f s p c,stayV i pd a,.int .i64 now] w fun e w'=>e= .returned (.int .i64 (stayDue f s p c i pd a now))∧Ext w w':=by
 obtain⟨b1,b2,b3,b4,b5,b6⟩:=stay_parts h2
 have HT:Hid (∀w,Calls Tryz.prog 65 #[tariffV f s p c] w fun e w'=>e= .returned (.bool true)∧Ext w w'):=fun w=>by rw[←h];exact specTv f s p c w
 have HS:Hid (∀w,Calls Tryz.prog 67 #[stayV i pd a] w fun e w'=>e= .returned (.bool true)∧Ext w w'):=fun w=>by rw[←h2];exact specSv i pd a w
 obtain⟨q,hq⟩: ∃q,q=feeOf f s p c (now-i):=⟨_,rfl⟩
 have hqb:0≤q∧q≤693:=by rw[hq];exact feeOf_bd h (by omega) (by omega)
 have HF:Hid (∀w,Calls Tryz.prog 127 #[tariffV f s p c,.int .i64 (now-i)] w fun e w'=>e= .returned (.int .i64 q)∧Ext w w'):=fun w=>by rw[hq];exact specFo f s p c _ w h (by omega) (by omega)
 have hres:stayDue f s p c i pd a now=max (q-pd) 0:=by rw[hq];simp[stayDue,h,h2,h3,h4]
 rw[hres]
 clear hq hres h h2
 go_enter Tryz.func75,Tryz.ntmps75
 go_wp2_with fail
 refine(HT.out _).mono ?_
 rintro e w1 ⟨rfl,h1'⟩
 have hz1:w.heap.size<w1.heap.size:=Nat.lt_of_lt_of_le (by simp;omega) h1'.sz
 have hz2:w.heap.size+1<w1.heap.size:=Nat.lt_of_lt_of_le (by simp) h1'.sz
 have e0:w1.cell? ⟨w.heap.size,0,none⟩=some (.int .i64 f):=by rw[h1'.cells.1 _ _ (by simp;omega)];simp
 have e1:w1.cell? ⟨w.heap.size,1,none⟩=some (.int .i64 s):=by rw[h1'.cells.1 _ _ (by simp;omega)];simp
 have e2:w1.cell? ⟨w.heap.size,2,none⟩=some (.int .i64 p):=by rw[h1'.cells.1 _ _ (by simp;omega)];simp
 have e3:w1.cell? ⟨w.heap.size,3,none⟩=some (.int .i64 c):=by rw[h1'.cells.1 _ _ (by simp;omega)];simp
 have g0:w1.cell? ⟨w.heap.size+1,0,none⟩=some (.int .i64 i):=by rw[h1'.cells.1 _ _ (by simp)];simp
 have g1:w1.cell? ⟨w.heap.size+1,1,none⟩=some (.int .i64 pd):=by rw[h1'.cells.1 _ _ (by simp)];simp
 have g2:w1.cell? ⟨w.heap.size+1,2,none⟩=some (.int .i64 a):=by rw[h1'.cells.1 _ _ (by simp)];simp
 go_wp2_with (first|(go_at_call 67;refine(HS.out _).mono ?_;rintro e w2 ⟨rfl,h2'⟩;have hc2:=h2'.cells.1;have hz3:w.heap.size<w2.heap.size:=Nat.lt_of_lt_of_le hz1 h2'.sz;have hz4:w.heap.size+1<w2.heap.size:=Nat.lt_of_lt_of_le hz2 h2'.sz)|go_in)
 have k1:IntKind.i64.wrap (now-i)=now-i:=IntWalk.i64_in _ (by omega)
 have k2:IntKind.i64.wrap (q-pd)=q-pd:=IntWalk.i64_in _ (by omega)
 go_region_held3 (fun w'=>w'.cell? ⟨w.heap.size,0,none⟩=some (.int .i64 f)∧w'.cell? ⟨w.heap.size,1,none⟩=some (.int .i64 s)∧w'.cell? ⟨w.heap.size,2,none⟩=some (.int .i64 p)∧w'.cell? ⟨w.heap.size,3,none⟩=some (.int .i64 c)∧w'.cell? ⟨w.heap.size+1,0,none⟩=some (.int .i64 i)∧w'.cell? ⟨w.heap.size+1,1,none⟩=some (.int .i64 pd)) (go_keep)
  ((go_at_call 127;refine(HF.out _).mono ?_;rintro e w3 ⟨rfl,h3'⟩;(try replace h3':=h3'.of_drew);have hc3:=h3'.cells.1;have hz5:w.heap.size<w3.heap.size:=Nat.lt_of_lt_of_le (by assumption) h3'.sz;have hz6:w.heap.size+1<w3.heap.size:=Nat.lt_of_lt_of_le (by assumption) h3'.sz))
 all_goals clear k1 k2
 all_goals go_wp2
 all_goals go_ret
 all_goals exact⟨ret_int (by omega),by exact .trans (.trans (.trans (.alloc (.alloc (.refl _) _) _) h1') h2') h3'⟩
set_option maxRecDepth 100000 in
set_option maxHeartbeats 1000000 in
theorem implMl_0 (f s p c i pd a now d1 d2:Int)(w:World)(h0:0≤d1)(h2:0≤d2)(h3:a≤now)(h4:now≤9999)(h5:0≤a)(t1:(d1==0)=true)
  (HA:Hid (∀w,Calls Tryz.prog 74 #[tariffV f s p c,stayV i pd a,.int .i64 now] w fun e w'=>e= .returned (.int .i64 d1)∧Ext w w'))
  (HB:Hid (∀w,Calls Tryz.prog 74 #[tariffV f s p c,stayV i pd a,.int .i64 a] w fun e w'=>e= .returned (.int .i64 d2)∧Ext w w')):
  Calls Tryz.prog 77 #[tariffV f s p c,stayV i pd a,.int .i64 now] w fun e w'=>e= .returned (.bool true)∧Ext w w':=by
 go_enter Tryz.func77,Tryz.ntmps77
 go_wp2_with fail
 refine(HA.out _).mono ?_
 rintro e w1 ⟨rfl,h1'⟩
 have hz1:w.heap.size<w1.heap.size:=Nat.lt_of_lt_of_le (by simp;omega) h1'.sz
 have hz2:w.heap.size+1<w1.heap.size:=Nat.lt_of_lt_of_le (by simp) h1'.sz
 have hc1:=h1'.cells.1
 go_wp2
 go_ret
 exact⟨ret_bool (by first|rfl|(simp;omega)),by exact .trans (.alloc (.alloc (.refl _) _) _) h1'⟩
set_option maxRecDepth 100000 in
set_option maxHeartbeats 1000000 in
theorem implMl_1 (f s p c i pd a now d1 d2:Int)(w:World)(h0:0≤d1)(h2:0≤d2)(h3:a≤now)(h4:now≤9999)(h5:0≤a)(t1:(d1==0)=false)(t2:15<now-a)(t3:(d2==0)=true)
  (HA:Hid (∀w,Calls Tryz.prog 74 #[tariffV f s p c,stayV i pd a,.int .i64 now] w fun e w'=>e= .returned (.int .i64 d1)∧Ext w w'))
  (HB:Hid (∀w,Calls Tryz.prog 74 #[tariffV f s p c,stayV i pd a,.int .i64 a] w fun e w'=>e= .returned (.int .i64 d2)∧Ext w w')):
  Calls Tryz.prog 77 #[tariffV f s p c,stayV i pd a,.int .i64 now] w fun e w'=>e= .returned (.bool false)∧Ext w w':=by
 go_enter Tryz.func77,Tryz.ntmps77
 go_wp2_with fail
 refine(HA.out _).mono ?_
 rintro e w1 ⟨rfl,h1'⟩
 have hz1:w.heap.size<w1.heap.size:=Nat.lt_of_lt_of_le (by simp;omega) h1'.sz
 have hz2:w.heap.size+1<w1.heap.size:=Nat.lt_of_lt_of_le (by simp) h1'.sz
 have hc1:=h1'.cells.1
 go_wp2
 go_ret
 exact⟨ret_bool (by first|rfl|(simp;omega)),by exact .trans (.alloc (.alloc (.refl _) _) _) h1'⟩
set_option maxRecDepth 100000 in
set_option maxHeartbeats 1000000 in
theorem implMl_2 (f s p c i pd a now d1 d2:Int)(w:World)(h0:0≤d1)(h2:0≤d2)(h3:a≤now)(h4:now≤9999)(h5:0≤a)(t1:(d1==0)=false)(t2:now-a≤15)(t3:(d2==0)=true)
  (HA:Hid (∀w,Calls Tryz.prog 74 #[tariffV f s p c,stayV i pd a,.int .i64 now] w fun e w'=>e= .returned (.int .i64 d1)∧Ext w w'))
  (HB:Hid (∀w,Calls Tryz.prog 74 #[tariffV f s p c,stayV i pd a,.int .i64 a] w fun e w'=>e= .returned (.int .i64 d2)∧Ext w w')):
  Calls Tryz.prog 77 #[tariffV f s p c,stayV i pd a,.int .i64 now] w fun e w'=>e= .returned (.bool true)∧Ext w w':=by
 go_enter Tryz.func77,Tryz.ntmps77
 go_wp2_with fail
 refine(HA.out _).mono ?_
 rintro e w1 ⟨rfl,h1'⟩
 have hz1:w.heap.size<w1.heap.size:=Nat.lt_of_lt_of_le (by simp;omega) h1'.sz
 have hz2:w.heap.size+1<w1.heap.size:=Nat.lt_of_lt_of_le (by simp) h1'.sz
 have hc1:=h1'.cells.1
 go_wp2_with fail
 refine(HB.out _).mono ?_
 rintro e w2 ⟨rfl,h2'⟩
 have hz3:=Nat.lt_of_lt_of_le hz1 h2'.sz
 have hz4:=Nat.lt_of_lt_of_le hz2 h2'.sz
 have hc2:=h2'.cells.1
 go_wp2
 go_ret
 exact⟨ret_bool (by first|rfl|(simp;omega)),by exact .trans (.trans (.alloc (.alloc (.refl _) _) _) h1') h2'⟩
set_option maxRecDepth 100000 in
set_option maxHeartbeats 1000000 in
theorem implMl_3 (f s p c i pd a now d1 d2:Int)(w:World)(h0:0≤d1)(h2:0≤d2)(h3:a≤now)(h4:now≤9999)(h5:0≤a)(t1:(d1==0)=false)(t2:15<now-a)(t3:(d2==0)=false)
  (HA:Hid (∀w,Calls Tryz.prog 74 #[tariffV f s p c,stayV i pd a,.int .i64 now] w fun e w'=>e= .returned (.int .i64 d1)∧Ext w w'))
  (HB:Hid (∀w,Calls Tryz.prog 74 #[tariffV f s p c,stayV i pd a,.int .i64 a] w fun e w'=>e= .returned (.int .i64 d2)∧Ext w w')):
  Calls Tryz.prog 77 #[tariffV f s p c,stayV i pd a,.int .i64 now] w fun e w'=>e= .returned (.bool false)∧Ext w w':=by
 go_enter Tryz.func77,Tryz.ntmps77
 go_wp2_with fail
 refine(HA.out _).mono ?_
 rintro e w1 ⟨rfl,h1'⟩
 have hz1:w.heap.size<w1.heap.size:=Nat.lt_of_lt_of_le (by simp;omega) h1'.sz
 have hz2:w.heap.size+1<w1.heap.size:=Nat.lt_of_lt_of_le (by simp) h1'.sz
 have hc1:=h1'.cells.1
 go_wp2
 go_ret
 exact⟨ret_bool (by first|rfl|(simp;omega)),by exact .trans (.alloc (.alloc (.refl _) _) _) h1'⟩
set_option maxRecDepth 100000 in
set_option maxHeartbeats 1000000 in
theorem implMl_4 (f s p c i pd a now d1 d2:Int)(w:World)(h0:0≤d1)(h2:0≤d2)(h3:a≤now)(h4:now≤9999)(h5:0≤a)(t1:(d1==0)=false)(t2:now-a≤15)(t3:(d2==0)=false)
  (HA:Hid (∀w,Calls Tryz.prog 74 #[tariffV f s p c,stayV i pd a,.int .i64 now] w fun e w'=>e= .returned (.int .i64 d1)∧Ext w w'))
  (HB:Hid (∀w,Calls Tryz.prog 74 #[tariffV f s p c,stayV i pd a,.int .i64 a] w fun e w'=>e= .returned (.int .i64 d2)∧Ext w w')):
  Calls Tryz.prog 77 #[tariffV f s p c,stayV i pd a,.int .i64 now] w fun e w'=>e= .returned (.bool false)∧Ext w w':=by
 go_enter Tryz.func77,Tryz.ntmps77
 go_wp2_with fail
 refine(HA.out _).mono ?_
 rintro e w1 ⟨rfl,h1'⟩
 have hz1:w.heap.size<w1.heap.size:=Nat.lt_of_lt_of_le (by simp;omega) h1'.sz
 have hz2:w.heap.size+1<w1.heap.size:=Nat.lt_of_lt_of_le (by simp) h1'.sz
 have hc1:=h1'.cells.1
 go_wp2_with fail
 refine(HB.out _).mono ?_
 rintro e w2 ⟨rfl,h2'⟩
 have hz3:=Nat.lt_of_lt_of_le hz1 h2'.sz
 have hz4:=Nat.lt_of_lt_of_le hz2 h2'.sz
 have hc2:=h2'.cells.1
 go_wp2
 go_ret
 exact⟨ret_bool (by first|rfl|(simp;omega)),by exact .trans (.trans (.alloc (.alloc (.refl _) _) _) h1') h2'⟩
theorem implMl (f s p c i pd a now:Int)(w:World)(h:tariffOk f s p c=true)(h2:stayOk i pd a=true)(h3:a≤now)(h4:now≤9999):Calls Tryz.prog 77 #[tariffV f s p c,stayV i pd a,.int .i64 now] w fun e w'=>e= .returned (.bool (mayLeave f s p c i pd a now))∧Ext w w':=by
 obtain⟨b1,b2,b3,b4,b5,b6⟩:=stay_parts h2
 have e1:0≤stayDue f s p c i pd a now:=by unfold stayDue;rw[if_pos (by simp[h,h2,h3,h4])];omega
 have e2:0≤stayDue f s p c i pd a a:=by unfold stayDue;rw[if_pos (by simp[h,h2];omega)];omega
 have hr:mayLeave f s p c i pd a now=(decide (stayDue f s p c i pd a now=0) || (decide (now-a≤15)&&decide (stayDue f s p c i pd a a=0))):=by simp[mayLeave,e1]
 have hA:=fun w=>implSd f s p c i pd a now w h h2 h3 h4
 have hB:=fun w=>implSd f s p c i pd a a w h h2 (by omega) b6
 rw[hr]
 generalize stayDue f s p c i pd a now=d1 at*
 generalize stayDue f s p c i pd a a=d2 at*
 by_cases t1:d1=0
 ·rw[show(decide (d1=0) || (decide (now-a≤15)&&decide (d2=0)))=true by simp[t1]]
  exact implMl_0 f s p c i pd a now d1 d2 w e1 e2 h3 h4 (by omega) (by simp[t1]) hA hB
 ·by_cases t2:now-a≤15
  ·by_cases t3:d2=0
   ·rw[show(decide (d1=0) || (decide (now-a≤15)&&decide (d2=0)))=true by simp[t2,t3]]
    exact implMl_2 f s p c i pd a now d1 d2 w e1 e2 h3 h4 (by omega) (by simp[t1]) t2 (by simp[t3]) hA hB
   ·rw[show(decide (d1=0) || (decide (now-a≤15)&&decide (d2=0)))=false by simp[t1,t3]]
    exact implMl_4 f s p c i pd a now d1 d2 w e1 e2 h3 h4 (by omega) (by simp[t1]) t2 (by simp[t3]) hA hB
  ·by_cases t3:d2=0
   ·rw[show(decide (d1=0) || (decide (now-a≤15)&&decide (d2=0)))=false by simp[t1,t2]]
    exact implMl_1 f s p c i pd a now d1 d2 w e1 e2 h3 h4 (by omega) (by simp[t1]) (by omega) (by simp[t3]) hA hB
   ·rw[show(decide (d1=0) || (decide (now-a≤15)&&decide (d2=0)))=false by simp[t1,t2]]
    exact implMl_3 f s p c i pd a now d1 d2 w e1 e2 h3 h4 (by omega) (by simp[t1]) (by omega) (by simp[t3]) hA hB
set_option maxRecDepth 100000 in
set_option maxHeartbeats 1000000 in
theorem specMl_0 (f s p c i pd a now d1 d2:Int)(w:World)(h0:0≤d1)(h2:0≤d2)(h3:a≤now)(h4:now≤9999)(h5:0≤a)(t1:(d1==0)=true)
  (HA:Hid (∀w,Calls Tryz.prog 75 #[tariffV f s p c,stayV i pd a,.int .i64 now] w fun e w'=>e= .returned (.int .i64 d1)∧Ext w w'))
  (HB:Hid (∀w,Calls Tryz.prog 75 #[tariffV f s p c,stayV i pd a,.int .i64 a] w fun e w'=>e= .returned (.int .i64 d2)∧Ext w w')):
  Calls Tryz.prog 78 #[tariffV f s p c,stayV i pd a,.int .i64 now] w fun e w'=>e= .returned (.bool true)∧Ext w w':=by
 go_enter Tryz.func78,Tryz.ntmps78
 go_wp2_with fail
 refine(HA.out _).mono ?_
 rintro e w1 ⟨rfl,h1'⟩
 have hz1:w.heap.size<w1.heap.size:=Nat.lt_of_lt_of_le (by simp;omega) h1'.sz
 have hz2:w.heap.size+1<w1.heap.size:=Nat.lt_of_lt_of_le (by simp) h1'.sz
 have hc1:=h1'.cells.1
 go_wp2_with fail
 refine(HA.out _).mono ?_
 rintro e w2 ⟨rfl,h2'⟩
 have hz3:=Nat.lt_of_lt_of_le hz1 h2'.sz
 have hz4:=Nat.lt_of_lt_of_le hz2 h2'.sz
 have hc2:=h2'.cells.1
 go_wp2
 go_ret
 exact⟨ret_bool (by first|rfl|(simp;omega)),by exact .trans (.trans (.alloc (.alloc (.refl _) _) _) h1') h2'⟩
set_option maxRecDepth 100000 in
set_option maxHeartbeats 1000000 in
theorem specMl_1 (f s p c i pd a now d1 d2:Int)(w:World)(h0:0≤d1)(h2:0≤d2)(h3:a≤now)(h4:now≤9999)(h5:0≤a)(t1:(d1==0)=false)(t2:15<now-a)(t3:(d2==0)=true)
  (HA:Hid (∀w,Calls Tryz.prog 75 #[tariffV f s p c,stayV i pd a,.int .i64 now] w fun e w'=>e= .returned (.int .i64 d1)∧Ext w w'))
  (HB:Hid (∀w,Calls Tryz.prog 75 #[tariffV f s p c,stayV i pd a,.int .i64 a] w fun e w'=>e= .returned (.int .i64 d2)∧Ext w w')):
  Calls Tryz.prog 78 #[tariffV f s p c,stayV i pd a,.int .i64 now] w fun e w'=>e= .returned (.bool false)∧Ext w w':=by
 go_enter Tryz.func78,Tryz.ntmps78
 go_wp2_with fail
 refine(HA.out _).mono ?_
 rintro e w1 ⟨rfl,h1'⟩
 have hz1:w.heap.size<w1.heap.size:=Nat.lt_of_lt_of_le (by simp;omega) h1'.sz
 have hz2:w.heap.size+1<w1.heap.size:=Nat.lt_of_lt_of_le (by simp) h1'.sz
 have hc1:=h1'.cells.1
 go_wp2_with fail
 refine(HA.out _).mono ?_
 rintro e w2 ⟨rfl,h2'⟩
 have hz3:=Nat.lt_of_lt_of_le hz1 h2'.sz
 have hz4:=Nat.lt_of_lt_of_le hz2 h2'.sz
 have hc2:=h2'.cells.1
 go_wp2_with fail
 refine(HB.out _).mono ?_
 rintro e w3 ⟨rfl,h3'⟩
 have hz5:=Nat.lt_of_lt_of_le hz3 h3'.sz
 have hz6:=Nat.lt_of_lt_of_le hz4 h3'.sz
 have hc3:=h3'.cells.1
 go_wp2
 go_ret
 exact⟨ret_bool (by first|rfl|(simp;omega)),by exact .trans (.trans (.trans (.alloc (.alloc (.refl _) _) _) h1') h2') h3'⟩
set_option maxRecDepth 100000 in
set_option maxHeartbeats 1000000 in
theorem specMl_2 (f s p c i pd a now d1 d2:Int)(w:World)(h0:0≤d1)(h2:0≤d2)(h3:a≤now)(h4:now≤9999)(h5:0≤a)(t1:(d1==0)=false)(t2:now-a≤15)(t3:(d2==0)=true)
  (HA:Hid (∀w,Calls Tryz.prog 75 #[tariffV f s p c,stayV i pd a,.int .i64 now] w fun e w'=>e= .returned (.int .i64 d1)∧Ext w w'))
  (HB:Hid (∀w,Calls Tryz.prog 75 #[tariffV f s p c,stayV i pd a,.int .i64 a] w fun e w'=>e= .returned (.int .i64 d2)∧Ext w w')):
  Calls Tryz.prog 78 #[tariffV f s p c,stayV i pd a,.int .i64 now] w fun e w'=>e= .returned (.bool true)∧Ext w w':=by
 go_enter Tryz.func78,Tryz.ntmps78
 go_wp2_with fail
 refine(HA.out _).mono ?_
 rintro e w1 ⟨rfl,h1'⟩
 have hz1:w.heap.size<w1.heap.size:=Nat.lt_of_lt_of_le (by simp;omega) h1'.sz
 have hz2:w.heap.size+1<w1.heap.size:=Nat.lt_of_lt_of_le (by simp) h1'.sz
 have hc1:=h1'.cells.1
 go_wp2_with fail
 refine(HA.out _).mono ?_
 rintro e w2 ⟨rfl,h2'⟩
 have hz3:=Nat.lt_of_lt_of_le hz1 h2'.sz
 have hz4:=Nat.lt_of_lt_of_le hz2 h2'.sz
 have hc2:=h2'.cells.1
 go_wp2_with fail
 refine(HB.out _).mono ?_
 rintro e w3 ⟨rfl,h3'⟩
 have hz5:=Nat.lt_of_lt_of_le hz3 h3'.sz
 have hz6:=Nat.lt_of_lt_of_le hz4 h3'.sz
 have hc3:=h3'.cells.1
 go_wp2
 go_ret
 exact⟨ret_bool (by first|rfl|(simp;omega)),by exact .trans (.trans (.trans (.alloc (.alloc (.refl _) _) _) h1') h2') h3'⟩
set_option maxRecDepth 100000 in
set_option maxHeartbeats 1000000 in
theorem specMl_3 (f s p c i pd a now d1 d2:Int)(w:World)(h0:0≤d1)(h2:0≤d2)(h3:a≤now)(h4:now≤9999)(h5:0≤a)(t1:(d1==0)=false)(t2:15<now-a)(t3:(d2==0)=false)
  (HA:Hid (∀w,Calls Tryz.prog 75 #[tariffV f s p c,stayV i pd a,.int .i64 now] w fun e w'=>e= .returned (.int .i64 d1)∧Ext w w'))
  (HB:Hid (∀w,Calls Tryz.prog 75 #[tariffV f s p c,stayV i pd a,.int .i64 a] w fun e w'=>e= .returned (.int .i64 d2)∧Ext w w')):
  Calls Tryz.prog 78 #[tariffV f s p c,stayV i pd a,.int .i64 now] w fun e w'=>e= .returned (.bool false)∧Ext w w':=by
 go_enter Tryz.func78,Tryz.ntmps78
 go_wp2_with fail
 refine(HA.out _).mono ?_
 rintro e w1 ⟨rfl,h1'⟩
 have hz1:w.heap.size<w1.heap.size:=Nat.lt_of_lt_of_le (by simp;omega) h1'.sz
 have hz2:w.heap.size+1<w1.heap.size:=Nat.lt_of_lt_of_le (by simp) h1'.sz
 have hc1:=h1'.cells.1
 go_wp2_with fail
 refine(HA.out _).mono ?_
 rintro e w2 ⟨rfl,h2'⟩
 have hz3:=Nat.lt_of_lt_of_le hz1 h2'.sz
 have hz4:=Nat.lt_of_lt_of_le hz2 h2'.sz
 have hc2:=h2'.cells.1
 go_wp2_with fail
 refine(HB.out _).mono ?_
 rintro e w3 ⟨rfl,h3'⟩
 have hz5:=Nat.lt_of_lt_of_le hz3 h3'.sz
 have hz6:=Nat.lt_of_lt_of_le hz4 h3'.sz
 have hc3:=h3'.cells.1
 go_wp2
 go_ret
 exact⟨ret_bool (by first|rfl|(simp;omega)),by exact .trans (.trans (.trans (.alloc (.alloc (.refl _) _) _) h1') h2') h3'⟩
set_option maxRecDepth 100000 in
set_option maxHeartbeats 1000000 in
theorem specMl_4 (f s p c i pd a now d1 d2:Int)(w:World)(h0:0≤d1)(h2:0≤d2)(h3:a≤now)(h4:now≤9999)(h5:0≤a)(t1:(d1==0)=false)(t2:now-a≤15)(t3:(d2==0)=false)
  (HA:Hid (∀w,Calls Tryz.prog 75 #[tariffV f s p c,stayV i pd a,.int .i64 now] w fun e w'=>e= .returned (.int .i64 d1)∧Ext w w'))
  (HB:Hid (∀w,Calls Tryz.prog 75 #[tariffV f s p c,stayV i pd a,.int .i64 a] w fun e w'=>e= .returned (.int .i64 d2)∧Ext w w')):
  Calls Tryz.prog 78 #[tariffV f s p c,stayV i pd a,.int .i64 now] w fun e w'=>e= .returned (.bool false)∧Ext w w':=by
 go_enter Tryz.func78,Tryz.ntmps78
 go_wp2_with fail
 refine(HA.out _).mono ?_
 rintro e w1 ⟨rfl,h1'⟩
 have hz1:w.heap.size<w1.heap.size:=Nat.lt_of_lt_of_le (by simp;omega) h1'.sz
 have hz2:w.heap.size+1<w1.heap.size:=Nat.lt_of_lt_of_le (by simp) h1'.sz
 have hc1:=h1'.cells.1
 go_wp2_with fail
 refine(HA.out _).mono ?_
 rintro e w2 ⟨rfl,h2'⟩
 have hz3:=Nat.lt_of_lt_of_le hz1 h2'.sz
 have hz4:=Nat.lt_of_lt_of_le hz2 h2'.sz
 have hc2:=h2'.cells.1
 go_wp2_with fail
 refine(HB.out _).mono ?_
 rintro e w3 ⟨rfl,h3'⟩
 have hz5:=Nat.lt_of_lt_of_le hz3 h3'.sz
 have hz6:=Nat.lt_of_lt_of_le hz4 h3'.sz
 have hc3:=h3'.cells.1
 go_wp2
 go_ret
 exact⟨ret_bool (by first|rfl|(simp;omega)),by exact .trans (.trans (.trans (.alloc (.alloc (.refl _) _) _) h1') h2') h3'⟩
theorem specMl (f s p c i pd a now:Int)(w:World)(h:tariffOk f s p c=true)(h2:stayOk i pd a=true)(h3:a≤now)(h4:now≤9999):Calls Tryz.prog 78 #[tariffV f s p c,stayV i pd a,.int .i64 now] w fun e w'=>e= .returned (.bool (mayLeave f s p c i pd a now))∧Ext w w':=by
 obtain⟨b1,b2,b3,b4,b5,b6⟩:=stay_parts h2
 have e1:0≤stayDue f s p c i pd a now:=by unfold stayDue;rw[if_pos (by simp[h,h2,h3,h4])];omega
 have e2:0≤stayDue f s p c i pd a a:=by unfold stayDue;rw[if_pos (by simp[h,h2];omega)];omega
 have hr:mayLeave f s p c i pd a now=(decide (stayDue f s p c i pd a now=0) || (decide (now-a≤15)&&decide (stayDue f s p c i pd a a=0))):=by simp[mayLeave,e1]
 have hA:=fun w=>specSd f s p c i pd a now w h h2 h3 h4
 have hB:=fun w=>specSd f s p c i pd a a w h h2 (by omega) b6
 rw[hr]
 generalize stayDue f s p c i pd a now=d1 at*
 generalize stayDue f s p c i pd a a=d2 at*
 by_cases t1:d1=0
 ·rw[show(decide (d1=0) || (decide (now-a≤15)&&decide (d2=0)))=true by simp[t1]]
  exact specMl_0 f s p c i pd a now d1 d2 w e1 e2 h3 h4 (by omega) (by simp[t1]) hA hB
 ·by_cases t2:now-a≤15
  ·by_cases t3:d2=0
   ·rw[show(decide (d1=0) || (decide (now-a≤15)&&decide (d2=0)))=true by simp[t2,t3]]
    exact specMl_2 f s p c i pd a now d1 d2 w e1 e2 h3 h4 (by omega) (by simp[t1]) t2 (by simp[t3]) hA hB
   ·rw[show(decide (d1=0) || (decide (now-a≤15)&&decide (d2=0)))=false by simp[t1,t3]]
    exact specMl_4 f s p c i pd a now d1 d2 w e1 e2 h3 h4 (by omega) (by simp[t1]) t2 (by simp[t3]) hA hB
  ·by_cases t3:d2=0
   ·rw[show(decide (d1=0) || (decide (now-a≤15)&&decide (d2=0)))=false by simp[t1,t2]]
    exact specMl_1 f s p c i pd a now d1 d2 w e1 e2 h3 h4 (by omega) (by simp[t1]) (by omega) (by simp[t3]) hA hB
   ·rw[show(decide (d1=0) || (decide (now-a≤15)&&decide (d2=0)))=false by simp[t1,t2]]
    exact specMl_3 f s p c i pd a now d1 d2 w e1 e2 h3 h4 (by omega) (by simp[t1]) (by omega) (by simp[t3]) hA hB
end Go.Proofs.YteejdnmmpmcmeaaGreatDoor

