/-
  Texts of this proof, packed (@packed).
-/
import Derived.WalkLawsBesides
import Derived.Test.YteejdnmmpmcmeaaGreatDoorP1
import Derived.Test.YteejdnmmpmcmeaaGreatDoorP3
import Derived.Test.YteejdnmmpmcmeaaGreatDoorP5
namespace Go.Proofs.YteejdnmmpmcmeaaGreatDoor
open Go.RowKit
set_option linter.unusedVariables false
def bJ (f s p c:Int):Bool:=decide (0≤f∧f<1440∧1≤s∧s≤1440∧0≤p∧p≤99∧0≤c∧c≤99)
def dB (i p a:Int):Bool:=decide (0≤i∧i≤9999∧0≤p∧p≤9999∧i≤a∧a≤9999)
def iX (f s m:Int):Int:=if m≤f then 0 else(m-f+s-1)/s
def pQ (f s p c m:Int):Int:=m/1440*c+min (iX f s (m%1440)*p) c
def dI (f s p c i pd a now:Int):Int:=if bJ f s p c&&dB i pd a&&decide (a≤now∧now≤9999)then max (pQ f s p c (now-i)-pd) 0 else -1
def qS (f s p c i pd a now:Int):Bool:=
 decide (dI f s p c i pd a now=0) || (decide (0≤dI f s p c i pd a now)&&decide (now-a≤15)&&decide (dI f s p c i pd a a=0))
abbrev bD (f s p c:Int):Value:= .agg #[.int .i64 f,.int .i64 s,.int .i64 p,.int .i64 c]
abbrev dS (i p a:Int):Value:= .agg #[.int .i64 i,.int .i64 p,.int .i64 a]
theorem kB {f s p c:Int}(h:bJ f s p c=true):0≤f∧f<1440∧1≤s∧s≤1440∧0≤p∧p≤99∧0≤c∧c≤99:=by simpa[bJ]using h
theorem jD {i p a:Int}(h:dB i p a=true):0≤i∧i≤9999∧0≤p∧p≤9999∧i≤a∧a≤9999:=by simpa[dB]using h
theorem nX {f s m:Int}(h0:0≤f)(h1:1≤s)(hm:m≤9999):0≤iX f s m∧iX f s m≤9999:=by
 unfold iX
 split
 ·omega
 ·refine⟨Int.ediv_nonneg (by omega) (by omega),?_⟩
  have:(m-f+s-1)/s≤m-f:=by
   apply Int.ediv_le_of_le_mul (by omega)
   have:(m-f)*s≥(m-f)*1:=Int.mul_le_mul_of_nonneg_left h1 (by omega)
   have h2:(m-f)*s=(m-f-1)*s+s:=by rw[Int.sub_mul (m-f) 1 s];omega
   have h3:(m-f-1)*s≥(m-f-1)*1:=Int.mul_le_mul_of_nonneg_left h1 (by omega)
   omega
  omega
theorem aAp {f s m:Int}(h1:1≤s):(max (m-f) 0+s-1)/s=iX f s m:=by
 unfold iX
 split
 ·rw[show max (m-f) 0=0 by omega]
  exact Int.ediv_eq_zero_of_lt (by omega) (by omega)
 ·rw[show max (m-f) 0=m-f by omega]
theorem yZ {x p:Int}(hx:0≤x)(hx2:x≤9999)(h0:0≤p)(h1:p≤99):0≤x*p∧x*p≤989901:=by
 refine⟨Int.mul_nonneg hx h0,?_⟩
 have:=Int.mul_le_mul hx2 h1 h0 (by omega)
 omega
theorem wJ {f s p c m:Int}(h:bJ f s p c=true)(h0:0≤m)(h1:m≤9999):0≤pQ f s p c m∧pQ f s p c m≤693:=by
 obtain⟨a1,a2,a3,a4,a5,a6,a7,a8⟩:=kB h
 obtain⟨b1,b2⟩:=nX (m:=m%1440) a1 a3 (by omega)
 obtain⟨d1,d2⟩:=yZ b1 b2 a5 a6
 unfold pQ
 have e1:0≤m/1440*c:=Int.mul_nonneg (by omega) a7
 have e2:m/1440*c≤6*99:=Int.mul_le_mul (by omega) a8 a7 (by omega)
 omega
set_option maxRecDepth 100000 in
set_option maxHeartbeats 1000000 in
theorem aKu (f s p c:Int)(w:World):Calls Tryz.prog 62 #[bD f s p c] w fun e w'=>e= .returned (.bool (bJ f s p c))∧Ext w w':=by
 by_cases c1:0≤f
 ·by_cases c2:f<1440
  ·by_cases c3:1≤s
   ·by_cases c4:s≤1440
    ·by_cases c5:0≤p
     ·by_cases c6:p≤99
      ·by_cases c7:0≤c
       ·by_cases c8:c≤99
        ·go_enter Tryz.func62,Tryz.ntmps62
         go_wp2
         go_ret
         exact⟨aX (by simp[bJ];omega),by exact .alloc (.refl _) _⟩
        ·go_enter Tryz.func62,Tryz.ntmps62
         go_wp2
         go_ret
         exact⟨aX (by simp[bJ];omega),by exact .alloc (.refl _) _⟩
       ·go_enter Tryz.func62,Tryz.ntmps62
        go_wp2
        go_ret
        exact⟨aX (by simp[bJ];omega),by exact .alloc (.refl _) _⟩
      ·go_enter Tryz.func62,Tryz.ntmps62
       go_wp2
       go_ret
       exact⟨aX (by simp[bJ];omega),by exact .alloc (.refl _) _⟩
     ·go_enter Tryz.func62,Tryz.ntmps62
      go_wp2
      go_ret
      exact⟨aX (by simp[bJ];omega),by exact .alloc (.refl _) _⟩
    ·go_enter Tryz.func62,Tryz.ntmps62
     go_wp2
     go_ret
     exact⟨aX (by simp[bJ];omega),by exact .alloc (.refl _) _⟩
   ·go_enter Tryz.func62,Tryz.ntmps62
    go_wp2
    go_ret
    exact⟨aX (by simp[bJ];omega),by exact .alloc (.refl _) _⟩
  ·go_enter Tryz.func62,Tryz.ntmps62
   go_wp2
   go_ret
   exact⟨aX (by simp[bJ];omega),by exact .alloc (.refl _) _⟩
 ·go_enter Tryz.func62,Tryz.ntmps62
  go_wp2
  go_ret
  exact⟨aX (by simp[bJ];omega),by exact .alloc (.refl _) _⟩
set_option maxRecDepth 100000 in
set_option maxHeartbeats 1000000 in
theorem uQ (f s p c:Int)(w:World):Calls Tryz.prog 65 #[bD f s p c] w fun e w'=>e= .returned (.bool (bJ f s p c))∧Ext w w':=by
 by_cases c1:0≤f
 ·by_cases c2:f<1440
  ·by_cases c3:1≤s
   ·by_cases c4:s≤1440
    ·by_cases c5:0≤p
     ·by_cases c6:p≤99
      ·by_cases c7:0≤c
       ·by_cases c8:c≤99
        ·go_enter Tryz.func65,Tryz.ntmps65
         go_wp2_with go_in
         go_ret
         exact⟨aX (by simp[bJ];omega),by exact .alloc (.refl _) _⟩
        ·go_enter Tryz.func65,Tryz.ntmps65
         go_wp2_with go_in
         go_ret
         exact⟨aX (by simp[bJ];omega),by exact .alloc (.refl _) _⟩
       ·go_enter Tryz.func65,Tryz.ntmps65
        go_wp2_with go_in
        go_ret
        exact⟨aX (by simp[bJ];omega),by exact .alloc (.refl _) _⟩
      ·go_enter Tryz.func65,Tryz.ntmps65
       go_wp2_with go_in
       go_ret
       exact⟨aX (by simp[bJ];omega),by exact .alloc (.refl _) _⟩
     ·go_enter Tryz.func65,Tryz.ntmps65
      go_wp2_with go_in
      go_ret
      exact⟨aX (by simp[bJ];omega),by exact .alloc (.refl _) _⟩
    ·go_enter Tryz.func65,Tryz.ntmps65
     go_wp2_with go_in
     go_ret
     exact⟨aX (by simp[bJ];omega),by exact .alloc (.refl _) _⟩
   ·go_enter Tryz.func65,Tryz.ntmps65
    go_wp2_with go_in
    go_ret
    exact⟨aX (by simp[bJ];omega),by exact .alloc (.refl _) _⟩
  ·go_enter Tryz.func65,Tryz.ntmps65
   go_wp2_with go_in
   go_ret
   exact⟨aX (by simp[bJ];omega),by exact .alloc (.refl _) _⟩
 ·go_enter Tryz.func65,Tryz.ntmps65
  go_wp2_with go_in
  go_ret
  exact⟨aX (by simp[bJ];omega),by exact .alloc (.refl _) _⟩
set_option maxRecDepth 100000 in
set_option maxHeartbeats 1000000 in
theorem aKv (i p a:Int)(w:World):Calls Tryz.prog 24 #[dS i p a] w fun e w'=>e= .returned (.bool (dB i p a))∧Ext w w':=by
 by_cases c1:0≤i
 ·by_cases c2:i≤9999
  ·by_cases c3:0≤p
   ·by_cases c4:p≤9999
    ·by_cases c5:i≤a
     ·by_cases c6:a≤9999
      ·go_enter Tryz.func24,Tryz.ntmps24
       go_wp2
       go_ret
       exact⟨aX (by simp[dB];omega),by exact .alloc (.refl _) _⟩
      ·go_enter Tryz.func24,Tryz.ntmps24
       go_wp2
       go_ret
       exact⟨aX (by simp[dB];omega),by exact .alloc (.refl _) _⟩
     ·go_enter Tryz.func24,Tryz.ntmps24
      go_wp2
      go_ret
      exact⟨aX (by simp[dB];omega),by exact .alloc (.refl _) _⟩
    ·go_enter Tryz.func24,Tryz.ntmps24
     go_wp2
     go_ret
     exact⟨aX (by simp[dB];omega),by exact .alloc (.refl _) _⟩
   ·go_enter Tryz.func24,Tryz.ntmps24
    go_wp2
    go_ret
    exact⟨aX (by simp[dB];omega),by exact .alloc (.refl _) _⟩
  ·go_enter Tryz.func24,Tryz.ntmps24
   go_wp2
   go_ret
   exact⟨aX (by simp[dB];omega),by exact .alloc (.refl _) _⟩
 ·go_enter Tryz.func24,Tryz.ntmps24
  go_wp2
  go_ret
  exact⟨aX (by simp[dB];omega),by exact .alloc (.refl _) _⟩
set_option maxRecDepth 100000 in
set_option maxHeartbeats 1000000 in
theorem aH8 (i p a:Int)(w:World):Calls Tryz.prog 67 #[dS i p a] w fun e w'=>e= .returned (.bool (dB i p a))∧Ext w w':=by
 by_cases c1:0≤i
 ·by_cases c2:i≤9999
  ·by_cases c3:0≤p
   ·by_cases c4:p≤9999
    ·by_cases c5:i≤a
     ·by_cases c6:a≤9999
      ·go_enter Tryz.func67,Tryz.ntmps67
       go_wp2_with go_in
       go_ret
       exact⟨aX (by simp[dB];omega),by exact .alloc (.refl _) _⟩
      ·go_enter Tryz.func67,Tryz.ntmps67
       go_wp2_with go_in
       go_ret
       exact⟨aX (by simp[dB];omega),by exact .alloc (.refl _) _⟩
     ·go_enter Tryz.func67,Tryz.ntmps67
      go_wp2_with go_in
      go_ret
      exact⟨aX (by simp[dB];omega),by exact .alloc (.refl _) _⟩
    ·go_enter Tryz.func67,Tryz.ntmps67
     go_wp2_with go_in
     go_ret
     exact⟨aX (by simp[dB];omega),by exact .alloc (.refl _) _⟩
   ·go_enter Tryz.func67,Tryz.ntmps67
    go_wp2_with go_in
    go_ret
    exact⟨aX (by simp[dB];omega),by exact .alloc (.refl _) _⟩
  ·go_enter Tryz.func67,Tryz.ntmps67
   go_wp2_with go_in
   go_ret
   exact⟨aX (by simp[dB];omega),by exact .alloc (.refl _) _⟩
 ·go_enter Tryz.func67,Tryz.ntmps67
  go_wp2_with go_in
  go_ret
  exact⟨aX (by simp[dB];omega),by exact .alloc (.refl _) _⟩
set_option maxRecDepth 100000 in
set_option maxHeartbeats 1000000 in
theorem aHl (f s p c m:Int)(w:World)(h:bJ f s p c=true)(h0:0≤m)(h1:m≤9999):Calls Tryz.prog 165 #[bD f s p c,.int .i64 m] w fun e w'=>e= .returned (.int .i64 (iX f s m))∧Ext w w':=by
 obtain⟨a1,a2,a3,a4,a5,a6,a7,a8⟩:=kB h
 have HT:Hid (∀w,Calls Tryz.prog 65 #[bD f s p c] w fun e w'=>e= .returned (.bool true)∧Ext w w'):=fun w=>by rw[←h];exact uQ f s p c w
 have hf:=xQ (aAp (f:=f) (m:=m) a3)
 clear h
 go_enter Tryz.func165,Tryz.ntmps165
 go_wp2_with (first|(go_at_call 65;refine(HT.out _).mono ?_;rintro e w1 ⟨rfl,h1'⟩;have hce:=h1'.cells.1)|go_in)
 all_goals go_ret
 all_goals exact⟨gM (by rw[←hf.out];congr 1;omega),by exact .trans (.alloc (.refl _) _) h1'⟩
set_option maxRecDepth 100000 in
set_option maxHeartbeats 1000000 in
theorem aKo (f s p c m:Int)(w:World)(h:bJ f s p c=true)(h0:0≤m)(h1:m≤9999):Calls Tryz.prog 127 #[bD f s p c,.int .i64 m] w fun e w'=>e= .returned (.int .i64 (pQ f s p c m))∧Ext w w':=by
 obtain⟨a1,a2,a3,a4,a5,a6,a7,a8⟩:=kB h
 have HT:Hid (∀w,Calls Tryz.prog 65 #[bD f s p c] w fun e w'=>e= .returned (.bool true)∧Ext w w'):=fun w=>by rw[←h];exact uQ f s p c w
 obtain⟨q,hq⟩: ∃q,q=iX f s (m%1440):=⟨_,rfl⟩
 have hqb:0≤q∧q≤9999:=by rw[hq];exact nX a1 a3 (by omega)
 obtain⟨q2,hq2⟩: ∃q,q=iX f s m:=⟨_,rfl⟩
 have hqb2:0≤q2∧q2≤9999:=by rw[hq2];exact nX a1 a3 (by omega)
 have HF:Hid (∀w,Calls Tryz.prog 165 #[bD f s p c,.int .i64 (m%1440)] w fun e w'=>e= .returned (.int .i64 q)∧Ext w w'):=fun w=>by rw[hq];exact aHl f s p c _ w h (by omega) (by omega)
 have HF2:Hid (∀w,Calls Tryz.prog 165 #[bD f s p c,.int .i64 m] w fun e w'=>e= .returned (.int .i64 q2)∧Ext w w'):=fun w=>by rw[hq2];exact aHl f s p c _ w h (by omega) (by omega)
 have hres:pQ f s p c m=m/1440*c+min (q*p) c:=by rw[hq];rfl
 rw[hres]
 obtain⟨b1,b2⟩:=yZ hqb.1 hqb.2 a5 a6
 have b3:0≤m/1440*c:=Int.mul_nonneg (by omega) a7
 have b4:m/1440*c≤6*99:=Int.mul_le_mul (by omega) a8 a7 (by omega)
 clear hq hq2 hres h
 go_enter Tryz.func127,Tryz.ntmps127
 go_wp2_with fail
 refine(HF2.out _).mono ?_
 rintro e w1 ⟨rfl,h1'⟩
 have hz1:w.heap.size<w1.heap.size:=Nat.lt_of_lt_of_le (by simp) h1'.sz
 have e0:w1.cell? ⟨w.heap.size,0,none⟩=some (.int .i64 f):=by rw[h1'.cells.1 _ _ (by simp)];simp
 have e1:w1.cell? ⟨w.heap.size,1,none⟩=some (.int .i64 s):=by rw[h1'.cells.1 _ _ (by simp)];simp
 have e2:w1.cell? ⟨w.heap.size,2,none⟩=some (.int .i64 p):=by rw[h1'.cells.1 _ _ (by simp)];simp
 have e3:w1.cell? ⟨w.heap.size,3,none⟩=some (.int .i64 c):=by rw[h1'.cells.1 _ _ (by simp)];simp
 go_wp2_with fail
 have hq:=IntWalk.i64_quo m 1440 ⟨h0,by omega,by omega⟩
 have hr:=IntWalk.rem_in m 1440 h0
 have hr1:IntKind.i64.wrap (m%1440)=m%1440:=IntWalk.i64_in _ (by omega)
 have k1:IntKind.i64.wrap (q*p)=q*p:=IntWalk.i64_in _ (by omega)
 have k2:IntKind.i64.wrap (m/1440*c)=m/1440*c:=IntWalk.i64_in _ (by omega)
 have k3:IntKind.i64.wrap (m/1440*c+c)=m/1440*c+c:=IntWalk.i64_in _ (by omega)
 have k4:IntKind.i64.wrap (m/1440*c+q*p)=m/1440*c+q*p:=IntWalk.i64_in _ (by omega)
 go_region_held3 (fun w'=>w'.cell? ⟨w.heap.size,0,none⟩=some (.int .i64 f)∧w'.cell? ⟨w.heap.size,1,none⟩=some (.int .i64 s)∧w'.cell? ⟨w.heap.size,2,none⟩=some (.int .i64 p)∧w'.cell? ⟨w.heap.size,3,none⟩=some (.int .i64 c)) (go_keep)
  ((go_at_call 165;refine(HF.out _).mono ?_;rintro e w2 ⟨rfl,h2⟩;(try replace h2:=h2.of_drew);have hce:=h2.cells.1;have hze:w.heap.size<w2.heap.size:=Nat.lt_of_lt_of_le (by assumption) h2.sz))
 all_goals clear hq hr hr1 k1 k2 k3 k4
 all_goals go_wp2
 all_goals go_ret
 all_goals exact⟨gM (by first|omega|(rw[IntWalk.i64_in _ (by omega)];omega)),by exact .trans (.trans (.alloc (.refl _) _) h1') h2⟩
set_option maxRecDepth 100000 in
set_option maxHeartbeats 1000000 in
theorem aDf (f s p c i pd a now:Int)(w:World)(h:bJ f s p c=true)(h2:dB i pd a=true)(h3:a≤now)(h4:now≤9999):Calls Tryz.prog 75 #[bD f s p c,dS i pd a,.int .i64 now] w fun e w'=>e= .returned (.int .i64 (dI f s p c i pd a now))∧Ext w w':=by
 obtain⟨b1,b2,b3,b4,b5,b6⟩:=jD h2
 have HT:Hid (∀w,Calls Tryz.prog 65 #[bD f s p c] w fun e w'=>e= .returned (.bool true)∧Ext w w'):=fun w=>by rw[←h];exact uQ f s p c w
 have HS:Hid (∀w,Calls Tryz.prog 67 #[dS i pd a] w fun e w'=>e= .returned (.bool true)∧Ext w w'):=fun w=>by rw[←h2];exact aH8 i pd a w
 obtain⟨q,hq⟩: ∃q,q=pQ f s p c (now-i):=⟨_,rfl⟩
 have hqb:0≤q∧q≤693:=by rw[hq];exact wJ h (by omega) (by omega)
 have HF:Hid (∀w,Calls Tryz.prog 127 #[bD f s p c,.int .i64 (now-i)] w fun e w'=>e= .returned (.int .i64 q)∧Ext w w'):=fun w=>by rw[hq];exact aKo f s p c _ w h (by omega) (by omega)
 have hres:dI f s p c i pd a now=max (q-pd) 0:=by rw[hq];simp[dI,h,h2,h3,h4]
 rw[hres]
 clear hq hres h h2
 go_enter Tryz.func75,Tryz.ntmps75
 go_wp2_with fail
 refine(HT.out _).mono ?_
 rintro e w1 ⟨rfl,h1'⟩
 have hz1:w.heap.size<w1.heap.size:=Nat.lt_of_lt_of_le (by simp;omega) h1'.sz
 have hz2:w.heap.size+1<w1.heap.size:=Nat.lt_of_lt_of_le (by simp) h1'.sz
 have e0:w1.cell? ⟨w.heap.size,0,none⟩=some (.int .i64 f):=by rw[h1'.cells.1 _ _ (by simp;omega)];simp
 have e1:w1.cell? ⟨w.heap.size,1,none⟩=some (.int .i64 s):=by rw[h1'.cells.1 _ _ (by simp;omega)];simp
 have e2:w1.cell? ⟨w.heap.size,2,none⟩=some (.int .i64 p):=by rw[h1'.cells.1 _ _ (by simp;omega)];simp
 have e3:w1.cell? ⟨w.heap.size,3,none⟩=some (.int .i64 c):=by rw[h1'.cells.1 _ _ (by simp;omega)];simp
 have g0:w1.cell? ⟨w.heap.size+1,0,none⟩=some (.int .i64 i):=by rw[h1'.cells.1 _ _ (by simp)];simp
 have g1:w1.cell? ⟨w.heap.size+1,1,none⟩=some (.int .i64 pd):=by rw[h1'.cells.1 _ _ (by simp)];simp
 have g2:w1.cell? ⟨w.heap.size+1,2,none⟩=some (.int .i64 a):=by rw[h1'.cells.1 _ _ (by simp)];simp
 go_wp2_with (first|(go_at_call 67;refine(HS.out _).mono ?_;rintro e w2 ⟨rfl,h2'⟩;have hc2:=h2'.cells.1;have hz3:w.heap.size<w2.heap.size:=Nat.lt_of_lt_of_le hz1 h2'.sz;have hz4:w.heap.size+1<w2.heap.size:=Nat.lt_of_lt_of_le hz2 h2'.sz)|go_in)
 have k1:IntKind.i64.wrap (now-i)=now-i:=IntWalk.i64_in _ (by omega)
 have k2:IntKind.i64.wrap (q-pd)=q-pd:=IntWalk.i64_in _ (by omega)
 go_region_held3 (fun w'=>w'.cell? ⟨w.heap.size,0,none⟩=some (.int .i64 f)∧w'.cell? ⟨w.heap.size,1,none⟩=some (.int .i64 s)∧w'.cell? ⟨w.heap.size,2,none⟩=some (.int .i64 p)∧w'.cell? ⟨w.heap.size,3,none⟩=some (.int .i64 c)∧w'.cell? ⟨w.heap.size+1,0,none⟩=some (.int .i64 i)∧w'.cell? ⟨w.heap.size+1,1,none⟩=some (.int .i64 pd)) (go_keep)
  ((go_at_call 127;refine(HF.out _).mono ?_;rintro e w3 ⟨rfl,h3'⟩;(try replace h3':=h3'.of_drew);have hc3:=h3'.cells.1;have hz5:w.heap.size<w3.heap.size:=Nat.lt_of_lt_of_le (by assumption) h3'.sz;have hz6:w.heap.size+1<w3.heap.size:=Nat.lt_of_lt_of_le (by assumption) h3'.sz))
 all_goals clear k1 k2
 all_goals go_wp2
 all_goals go_ret
 all_goals exact⟨gM (by omega),by exact .trans (.trans (.trans (.alloc (.alloc (.refl _) _) _) h1') h2') h3'⟩
set_option maxRecDepth 100000 in
set_option maxHeartbeats 1000000 in
theorem aHh (f s p c i pd a now d1 d2:Int)(w:World)(h0:0≤d1)(h2:0≤d2)(h3:a≤now)(h4:now≤9999)(h5:0≤a)(t1:(d1==0)=true)
  (HA:Hid (∀w,Calls Tryz.prog 75 #[bD f s p c,dS i pd a,.int .i64 now] w fun e w'=>e= .returned (.int .i64 d1)∧Ext w w'))
  (HB:Hid (∀w,Calls Tryz.prog 75 #[bD f s p c,dS i pd a,.int .i64 a] w fun e w'=>e= .returned (.int .i64 d2)∧Ext w w')):
  Calls Tryz.prog 78 #[bD f s p c,dS i pd a,.int .i64 now] w fun e w'=>e= .returned (.bool true)∧Ext w w':=by
 go_enter Tryz.func78,Tryz.ntmps78
 go_wp2_with fail
 refine(HA.out _).mono ?_
 rintro e w1 ⟨rfl,h1'⟩
 have hz1:w.heap.size<w1.heap.size:=Nat.lt_of_lt_of_le (by simp;omega) h1'.sz
 have hz2:w.heap.size+1<w1.heap.size:=Nat.lt_of_lt_of_le (by simp) h1'.sz
 have hc1:=h1'.cells.1
 go_wp2_with fail
 refine(HA.out _).mono ?_
 rintro e w2 ⟨rfl,h2'⟩
 have hz3:=Nat.lt_of_lt_of_le hz1 h2'.sz
 have hz4:=Nat.lt_of_lt_of_le hz2 h2'.sz
 have hc2:=h2'.cells.1
 go_wp2
 go_ret
 exact⟨aX (by first|rfl|(simp;omega)),by exact .trans (.trans (.alloc (.alloc (.refl _) _) _) h1') h2'⟩
set_option maxRecDepth 100000 in
set_option maxHeartbeats 1000000 in
theorem aHg (f s p c i pd a now d1 d2:Int)(w:World)(h0:0≤d1)(h2:0≤d2)(h3:a≤now)(h4:now≤9999)(h5:0≤a)(t1:(d1==0)=false)(t2:15<now-a)(t3:(d2==0)=true)
  (HA:Hid (∀w,Calls Tryz.prog 75 #[bD f s p c,dS i pd a,.int .i64 now] w fun e w'=>e= .returned (.int .i64 d1)∧Ext w w'))
  (HB:Hid (∀w,Calls Tryz.prog 75 #[bD f s p c,dS i pd a,.int .i64 a] w fun e w'=>e= .returned (.int .i64 d2)∧Ext w w')):
  Calls Tryz.prog 78 #[bD f s p c,dS i pd a,.int .i64 now] w fun e w'=>e= .returned (.bool false)∧Ext w w':=by
 go_enter Tryz.func78,Tryz.ntmps78
 go_wp2_with fail
 refine(HA.out _).mono ?_
 rintro e w1 ⟨rfl,h1'⟩
 have hz1:w.heap.size<w1.heap.size:=Nat.lt_of_lt_of_le (by simp;omega) h1'.sz
 have hz2:w.heap.size+1<w1.heap.size:=Nat.lt_of_lt_of_le (by simp) h1'.sz
 have hc1:=h1'.cells.1
 go_wp2_with fail
 refine(HA.out _).mono ?_
 rintro e w2 ⟨rfl,h2'⟩
 have hz3:=Nat.lt_of_lt_of_le hz1 h2'.sz
 have hz4:=Nat.lt_of_lt_of_le hz2 h2'.sz
 have hc2:=h2'.cells.1
 go_wp2_with fail
 refine(HB.out _).mono ?_
 rintro e w3 ⟨rfl,h3'⟩
 have hz5:=Nat.lt_of_lt_of_le hz3 h3'.sz
 have hz6:=Nat.lt_of_lt_of_le hz4 h3'.sz
 have hc3:=h3'.cells.1
 go_wp2
 go_ret
 exact⟨aX (by first|rfl|(simp;omega)),by exact .trans (.trans (.trans (.alloc (.alloc (.refl _) _) _) h1') h2') h3'⟩
set_option maxRecDepth 100000 in
set_option maxHeartbeats 1000000 in
theorem aHf (f s p c i pd a now d1 d2:Int)(w:World)(h0:0≤d1)(h2:0≤d2)(h3:a≤now)(h4:now≤9999)(h5:0≤a)(t1:(d1==0)=false)(t2:now-a≤15)(t3:(d2==0)=true)
  (HA:Hid (∀w,Calls Tryz.prog 75 #[bD f s p c,dS i pd a,.int .i64 now] w fun e w'=>e= .returned (.int .i64 d1)∧Ext w w'))
  (HB:Hid (∀w,Calls Tryz.prog 75 #[bD f s p c,dS i pd a,.int .i64 a] w fun e w'=>e= .returned (.int .i64 d2)∧Ext w w')):
  Calls Tryz.prog 78 #[bD f s p c,dS i pd a,.int .i64 now] w fun e w'=>e= .returned (.bool true)∧Ext w w':=by
 go_enter Tryz.func78,Tryz.ntmps78
 go_wp2_with fail
 refine(HA.out _).mono ?_
 rintro e w1 ⟨rfl,h1'⟩
 have hz1:w.heap.size<w1.heap.size:=Nat.lt_of_lt_of_le (by simp;omega) h1'.sz
 have hz2:w.heap.size+1<w1.heap.size:=Nat.lt_of_lt_of_le (by simp) h1'.sz
 have hc1:=h1'.cells.1
 go_wp2_with fail
 refine(HA.out _).mono ?_
 rintro e w2 ⟨rfl,h2'⟩
 have hz3:=Nat.lt_of_lt_of_le hz1 h2'.sz
 have hz4:=Nat.lt_of_lt_of_le hz2 h2'.sz
 have hc2:=h2'.cells.1
 go_wp2_with fail
 refine(HB.out _).mono ?_
 rintro e w3 ⟨rfl,h3'⟩
 have hz5:=Nat.lt_of_lt_of_le hz3 h3'.sz
 have hz6:=Nat.lt_of_lt_of_le hz4 h3'.sz
 have hc3:=h3'.cells.1
 go_wp2
 go_ret
 exact⟨aX (by first|rfl|(simp;omega)),by exact .trans (.trans (.trans (.alloc (.alloc (.refl _) _) _) h1') h2') h3'⟩
set_option maxRecDepth 100000 in
set_option maxHeartbeats 1000000 in
theorem aHe (f s p c i pd a now d1 d2:Int)(w:World)(h0:0≤d1)(h2:0≤d2)(h3:a≤now)(h4:now≤9999)(h5:0≤a)(t1:(d1==0)=false)(t2:15<now-a)(t3:(d2==0)=false)
  (HA:Hid (∀w,Calls Tryz.prog 75 #[bD f s p c,dS i pd a,.int .i64 now] w fun e w'=>e= .returned (.int .i64 d1)∧Ext w w'))
  (HB:Hid (∀w,Calls Tryz.prog 75 #[bD f s p c,dS i pd a,.int .i64 a] w fun e w'=>e= .returned (.int .i64 d2)∧Ext w w')):
  Calls Tryz.prog 78 #[bD f s p c,dS i pd a,.int .i64 now] w fun e w'=>e= .returned (.bool false)∧Ext w w':=by
 go_enter Tryz.func78,Tryz.ntmps78
 go_wp2_with fail
 refine(HA.out _).mono ?_
 rintro e w1 ⟨rfl,h1'⟩
 have hz1:w.heap.size<w1.heap.size:=Nat.lt_of_lt_of_le (by simp;omega) h1'.sz
 have hz2:w.heap.size+1<w1.heap.size:=Nat.lt_of_lt_of_le (by simp) h1'.sz
 have hc1:=h1'.cells.1
 go_wp2_with fail
 refine(HA.out _).mono ?_
 rintro e w2 ⟨rfl,h2'⟩
 have hz3:=Nat.lt_of_lt_of_le hz1 h2'.sz
 have hz4:=Nat.lt_of_lt_of_le hz2 h2'.sz
 have hc2:=h2'.cells.1
 go_wp2_with fail
 refine(HB.out _).mono ?_
 rintro e w3 ⟨rfl,h3'⟩
 have hz5:=Nat.lt_of_lt_of_le hz3 h3'.sz
 have hz6:=Nat.lt_of_lt_of_le hz4 h3'.sz
 have hc3:=h3'.cells.1
 go_wp2
 go_ret
 exact⟨aX (by first|rfl|(simp;omega)),by exact .trans (.trans (.trans (.alloc (.alloc (.refl _) _) _) h1') h2') h3'⟩
set_option maxRecDepth 100000 in
set_option maxHeartbeats 1000000 in
theorem aHd (f s p c i pd a now d1 d2:Int)(w:World)(h0:0≤d1)(h2:0≤d2)(h3:a≤now)(h4:now≤9999)(h5:0≤a)(t1:(d1==0)=false)(t2:now-a≤15)(t3:(d2==0)=false)
  (HA:Hid (∀w,Calls Tryz.prog 75 #[bD f s p c,dS i pd a,.int .i64 now] w fun e w'=>e= .returned (.int .i64 d1)∧Ext w w'))
  (HB:Hid (∀w,Calls Tryz.prog 75 #[bD f s p c,dS i pd a,.int .i64 a] w fun e w'=>e= .returned (.int .i64 d2)∧Ext w w')):
  Calls Tryz.prog 78 #[bD f s p c,dS i pd a,.int .i64 now] w fun e w'=>e= .returned (.bool false)∧Ext w w':=by
 go_enter Tryz.func78,Tryz.ntmps78
 go_wp2_with fail
 refine(HA.out _).mono ?_
 rintro e w1 ⟨rfl,h1'⟩
 have hz1:w.heap.size<w1.heap.size:=Nat.lt_of_lt_of_le (by simp;omega) h1'.sz
 have hz2:w.heap.size+1<w1.heap.size:=Nat.lt_of_lt_of_le (by simp) h1'.sz
 have hc1:=h1'.cells.1
 go_wp2_with fail
 refine(HA.out _).mono ?_
 rintro e w2 ⟨rfl,h2'⟩
 have hz3:=Nat.lt_of_lt_of_le hz1 h2'.sz
 have hz4:=Nat.lt_of_lt_of_le hz2 h2'.sz
 have hc2:=h2'.cells.1
 go_wp2_with fail
 refine(HB.out _).mono ?_
 rintro e w3 ⟨rfl,h3'⟩
 have hz5:=Nat.lt_of_lt_of_le hz3 h3'.sz
 have hz6:=Nat.lt_of_lt_of_le hz4 h3'.sz
 have hc3:=h3'.cells.1
 go_wp2
 go_ret
 exact⟨aX (by first|rfl|(simp;omega)),by exact .trans (.trans (.trans (.alloc (.alloc (.refl _) _) _) h1') h2') h3'⟩
theorem aKk (f s p c i pd a now:Int)(w:World)(h:bJ f s p c=true)(h2:dB i pd a=true)(h3:a≤now)(h4:now≤9999):Calls Tryz.prog 78 #[bD f s p c,dS i pd a,.int .i64 now] w fun e w'=>e= .returned (.bool (qS f s p c i pd a now))∧Ext w w':=by
 obtain⟨b1,b2,b3,b4,b5,b6⟩:=jD h2
 have e1:0≤dI f s p c i pd a now:=by unfold dI;rw[if_pos (by simp[h,h2,h3,h4])];omega
 have e2:0≤dI f s p c i pd a a:=by unfold dI;rw[if_pos (by simp[h,h2];omega)];omega
 have hr:qS f s p c i pd a now=(decide (dI f s p c i pd a now=0) || (decide (now-a≤15)&&decide (dI f s p c i pd a a=0))):=by simp[qS,e1]
 have hA:=fun w=>aDf f s p c i pd a now w h h2 h3 h4
 have hB:=fun w=>aDf f s p c i pd a a w h h2 (by omega) b6
 rw[hr]
 generalize dI f s p c i pd a now=d1 at*
 generalize dI f s p c i pd a a=d2 at*
 by_cases t1:d1=0
 ·rw[show(decide (d1=0) || (decide (now-a≤15)&&decide (d2=0)))=true by simp[t1]]
  exact aHh f s p c i pd a now d1 d2 w e1 e2 h3 h4 (by omega) (by simp[t1]) hA hB
 ·by_cases t2:now-a≤15
  ·by_cases t3:d2=0
   ·rw[show(decide (d1=0) || (decide (now-a≤15)&&decide (d2=0)))=true by simp[t2,t3]]
    exact aHf f s p c i pd a now d1 d2 w e1 e2 h3 h4 (by omega) (by simp[t1]) t2 (by simp[t3]) hA hB
   ·rw[show(decide (d1=0) || (decide (now-a≤15)&&decide (d2=0)))=false by simp[t1,t3]]
    exact aHd f s p c i pd a now d1 d2 w e1 e2 h3 h4 (by omega) (by simp[t1]) t2 (by simp[t3]) hA hB
  ·by_cases t3:d2=0
   ·rw[show(decide (d1=0) || (decide (now-a≤15)&&decide (d2=0)))=false by simp[t1,t2]]
    exact aHg f s p c i pd a now d1 d2 w e1 e2 h3 h4 (by omega) (by simp[t1]) (by omega) (by simp[t3]) hA hB
   ·rw[show(decide (d1=0) || (decide (now-a≤15)&&decide (d2=0)))=false by simp[t1,t2]]
    exact aHe f s p c i pd a now d1 d2 w e1 e2 h3 h4 (by omega) (by simp[t1]) (by omega) (by simp[t3]) hA hB
def kV (x:Int):List Int→List Int
 | []=> [x]
 |y::ys=>if y<x then y::kV x ys else x::y::ys
def fI (xs:List Int):List Int:=xs.foldl (fun acc x=>kV x acc) []
def dH (xs:List Int):List Int:=xs.filter (fun x=>decide (0<x))
def eM (xs:List Int):List Int:=fI (dH xs)
theorem mA (x:Int): ∀xs,List.Perm (kV x xs) (x::xs):=by
 intro xs
 induction xs with
 |nil=>exact List.Perm.refl _
 |cons y ys ih=>
  unfold kV
  split
  ·exact(List.Perm.cons y ih).trans (List.Perm.swap x y ys)
  ·exact List.Perm.refl _
theorem sZ (x:Int): ∀xs,xs.Pairwise (·≤ ·)→(kV x xs).Pairwise (·≤ ·):=by
 intro xs
 induction xs with
 |nil=>intro _;simp[kV]
 |cons y ys ih=>
  intro h
  rw[List.pairwise_cons]at h
  unfold kV
  split
  ·rename_i hlt
   rw[List.pairwise_cons]
   refine⟨fun z hz=> ?_,ih h.2⟩
   rcases List.mem_cons.1 ((mA x ys).mem_iff.1 hz)with rfl|hz
   ·omega
   ·exact h.1 z hz
  ·rename_i hge
   rw[List.pairwise_cons,List.pairwise_cons]
   refine⟨fun z hz=> ?_,h⟩
   rcases List.mem_cons.1 hz with rfl|hz
   ·omega
   ·have:=h.1 z hz;omega
theorem uV (xs:List Int)(x:Int):fI (xs++ [x])=kV x (fI xs):=by simp[fI,List.foldl_append]
theorem aBt (xs:List Int):List.Perm (fI xs) xs∧(fI xs).Pairwise (·≤ ·):=by
 suffices h: ∀(n:Nat) (xs:List Int),xs.length=n→List.Perm (fI xs) xs∧(fI xs).Pairwise (·≤ ·)from h _ xs rfl
 intro n
 induction n with
 |zero=>intro xs h;obtain rfl:=List.eq_nil_of_length_eq_zero h;simp[fI]
 |succ n ih=>
  intro xs h
  have hne:xs≠ []:=by intro e;rw[e]at h;simp at h
  rw[←List.dropLast_concat_getLast hne,uV]
  obtain⟨h1,h2⟩:=ih xs.dropLast (by simp[h])
  refine⟨?_,sZ _ _ h2⟩
  exact(mA _ _).trans ((List.Perm.cons _ h1).trans (List.perm_append_singleton _ _).symm)
theorem iD (xs:List Int):List.Perm (fI xs) xs:=(aBt xs).1
theorem kC (xs:List Int):(fI xs).Pairwise (·≤ ·):=(aBt xs).2
theorem yF (xs:List Int):(fI xs).length=xs.length:=(iD xs).length_eq
theorem lD (xs:List Int)(x:Int):dH (xs++ [x])=dH xs++(if 0<x then [x]else []):=by
 unfold dH;rw[List.filter_append];congr 1
 by_cases h:0<x<;>simp[h]
theorem oN (xs:List Int):(dH xs).length≤xs.length:=List.length_filter_le _ _
theorem nB (xs:List Int):(eM xs).length=(dH xs).length:=yF _
theorem mQ {xs ys:List Int}(h:List.Perm ys xs)(hs:ys.Pairwise (·≤ ·)):ys=fI xs:=
 List.Perm.eq_of_pairwise (fun a b _ _ h1 h2=>Int.le_antisymm h1 h2) hs (kC xs) (h.trans (iD xs).symm)
abbrev bC:=Int×Int×Int×Int
def aE (v:bC):List Value:= [.int .i64 v.1,.int .i64 v.2.1,.int .i64 v.2.2.1,.int .i64 v.2.2.2]
structure aV where
 aA:Int
 aB:Int
 cells:List Int
 free:Int
 step:Int
 aD:Int
 aH:Int
 aC:Int
 aI:Int
 vs:List bC
def eV (aC:Int)(v:bC):Bool:=dB v.2.1 v.2.2.1 v.2.2.2&&decide (v.2.2.2≤aC)
def bV (aC:Int):List Int→List bC→Bool
 | [],[]=>true
 |c::cs,v::vs=>decide (v.1=c)&&eV aC v&&bV aC cs vs
 |_,_=>false
def jV (h:aV):Bool:=decide (0≤h.aC∧h.aC≤9999∧0≤h.aI∧h.aI≤99999)
def bN (h:aV):Bool:=aR h.aA h.aB h.cells&&bJ h.free h.step h.aD h.aH&&jV h&&bV h.aC (eM h.cells) h.vs
def bT:aV:=⟨0,0,[],0,0,0,0,0,0,[]⟩
theorem sR {aC:Int}{cs:List Int}{vs:List bC}{k:Nat}{c:Int}{v:bC}(hc:cs[k]? =some c) (hv:vs[k]? =some v):
  bV aC (cs.drop k) (vs.drop k)=(decide (v.1=c)&&eV aC v&&bV aC (cs.drop (k+1)) (vs.drop (k+1))):=by
 rw[pA hc,pA hv];rfl
theorem kA {aC:Int}: ∀ {cs:List Int} {vs:List bC},bV aC cs vs=true→vs.map (·.1)=cs∧ ∀v∈vs,eV aC v=true:=by
 intro cs
 induction cs with
 |nil=>intro vs h;cases vs with
  |nil=>simp
  |cons v vs=>simp[bV]at h
 |cons c cs ih=>
  intro vs h
  cases vs with
  |nil=>simp[bV]at h
  |cons v vs=>
   simp only[bV,Bool.and_eq_true,decide_eq_true_eq]at h
   obtain⟨⟨h1,h2⟩,h3⟩:=h
   obtain⟨i1,i2⟩:=ih h3
   refine⟨by simp[h1,i1],fun x hx=> ?_⟩
   rcases List.mem_cons.1 hx with rfl|hx
   ·exact h2
   ·exact i2 x hx
theorem sQ {aC:Int}{cs:List Int}{vs:List bC}(h:cs.length≠vs.length):bV aC cs vs=false:=by
 cases hh:bV aC cs vs with
 |false=>rfl
 |true=>
  have:=congrArg List.length (kA hh).1
  simp at this
  omega
def gJ (id:Int)(vs:List bC):Option bC:=vs.find? (fun v=>v.1==id)
def iO (h:aV)(id:Int):Option (Int×Int×Int):=if bN h then(gJ id h.vs).map (·.2)else none
def jQ (h:aV)(id:Int):Bool:=match iO h id with
 |some s=>qS h.free h.step h.aD h.aH s.1 s.2.1 s.2.2 h.aC
 |none=>false
abbrev TI:TypeId:=3
def eX (aA aB:Int)(xs:List Int)(w:World)(e:Ending)(w':World):Prop:=
 ∃p cap,e= .returned (aJ aA aB p xs.length cap)∧w'.ownsRow w.heap.size TI 1 (.slice p xs.length cap) xs.length (ivs xs)∧Ext w w'
def cE (aA aB:Int):Int×Int×List Int:=if 2≤aA∧aA≤4∧2≤aB∧aB≤3 then(aA,aB,List.replicate (aA*aB).toNat 0)else(0,0,[])
theorem yM (n:Nat):(madeCells (Value.int .i64 0).cells (n*1)).toList=ivs (List.replicate n 0):=by
 apply List.ext_getElem<;>simp[madeCells,Value.cells,Nat.mod_one]
set_option maxRecDepth 100000 in
set_option maxHeartbeats 1000000 in
theorem aDs (aA aB:Int)(w:World)(h:aA<2∨2≤aA∧4<aA∨2≤aA∧aA≤4∧aB<2∨2≤aA∧aA≤4∧2≤aB∧3<aB):
  Calls Tryz.prog 145 #[.int .i64 aA,.int .i64 aB] w (eX 0 0 [] w):=by
 rcases h with h|⟨h0,h⟩|⟨h0,h1,h⟩|⟨h0,h1,h2,h⟩
 all_goals
  (try (have hdd:decide (aB≤3)=false:=by simp;omega))
  (try (have hdd:decide (aA≤4)=false:=by simp;omega))
  go_enter Tryz.func145,Tryz.ntmps145
  go_wp2_with go_in
  exact bodyPost_ret (v:=aJ 0 0 none 0 0) (by simp[results,Tryz.results145,go_sem]) rfl ⟨none,0,rfl,World.ownsRow_nil _ _ _ _,by exact .alloc (.refl _) _⟩
theorem Blk.three {w:World}{g:Nat}{t:TypeId}{a b c:Value}(h:Blk w g t #[a,b,c]):w.cell? ⟨g,0,none⟩=some a∧w.cell? ⟨g,1,none⟩=some b∧w.cell? ⟨g,2,none⟩=some c∧w.frozen? ⟨g,0,none⟩=false∧w.frozen? ⟨g,1,none⟩=false∧w.frozen? ⟨g,2,none⟩=false:=
 ⟨h.cell 0,h.cell 1,h.cell 2,h.frozen 0,h.frozen 1,h.frozen 2⟩
theorem aBz {aA aB:Int}{p:Option Addr}{n cap:Nat}{xs:List Int}{w w':World}(hn:xs.length=n)(ho:w'.ownsRow w.heap.size TI 1 (.slice p n cap) n (ivs xs))(hx:Ext w w'):eX aA aB xs w (.returned (aJ aA aB p n cap)) w':=by
 subst hn;exact⟨p,cap,rfl,ho,hx⟩
theorem aE8 {w:World}{B n:Nat}{xs:List Value}{c0 c1 c2:Value}(h:w.ownsRow B TI 1 (.slice (some ⟨B+1,0,none⟩) n n) n xs):
  (((w.setCell ⟨B,0,none⟩ c0).setCell ⟨B,1,none⟩ c1).setCell ⟨B,2,none⟩ c2).ownsRow B TI 1 (.slice (some ⟨B+1,0,none⟩) n n) n xs:=by
 have hx:ExtR B w (((w.setCell ⟨B,0,none⟩ c0).setCell ⟨B,1,none⟩ c1).setCell ⟨B,2,none⟩ c2):=(((ExtR.refl B w).setCell (p:=⟨B,0,none⟩) (.inl rfl) _).setCell (p:=⟨B,1,none⟩) (.inl rfl) _).setCell (p:=⟨B,2,none⟩) (.inl rfl) _
 exact h.kept hx (.inr (by simp[Value.ownBlock]))
set_option maxRecDepth 100000 in
set_option maxHeartbeats 1000000 in
theorem aFx (aA aB:Int)(n:Nat)(w:World)(h0:2≤aA)(h1:aA≤4)(h2:2≤aB)(h3:aB≤3)(h4:0≤aA*aB)(h5:aA*aB≤12)(h6:aA*aB=(n:Int))(h7:n≤12):
  Calls Tryz.prog 145 #[.int .i64 aA,.int .i64 aB] w (eX aA aB (List.replicate n 0) w):=by
 obtain⟨i0,hi,hz0,hz1,hz2⟩:=info_parts (show(Tryz.prog.info? 3).map (fun i=>(i.zero,i.size,i.bytes))=some (some (.int .i64 0),1,8) by kernel_rfl)
 have q1:decide (aA≤4)=true:=by simp[h1]
 have q2:decide (aB≤3)=true:=by simp[h3]
 go_enter Tryz.func145,Tryz.ntmps145
 go_wp2_with (first|go_in|(at_make;refine wpList_make_full _ rfl _ _ 23 rfl w.heap.size 3 i0 (.int .i64 0) 1 Tryz.underlying23 hi hz0 hz1 .i64 .i64 _ _ n rfl rfl (by first|rfl|exact h6) (by first|rfl|exact h6) (by rw[hz2];omega) (by unfold maxLen;omega) (by simp) ?_;intro w0 hown0 hgrow0;have hE0:Ext _ w0:=(Ext.refl _).grown hgrow0 (fun q hq=>by cases hq);obtain⟨p0,p1,p2,p3,p4,p5⟩:=((Blk.new w 25 #[.int .i64 0,.int .i64 0,.slice none 0 0]).ext hE0).three;have hz:w.heap.size<w0.heap.size:=Nat.lt_of_lt_of_le (by simp) hE0.sz;rw[yM]at hown0;have HO:=xQ hown0;have HE0:Hid (Ext w w0):=((Ext.refl w).alloc _).trans hE0;clear hown0 hgrow0 hE0))
 have hx:Ext w _:=(((HE0.out.setCell (p:=⟨w.heap.size,0,none⟩) (Nat.le_refl _) (.int .i64 aA)).setCell (p:=⟨w.heap.size,1,none⟩) (Nat.le_refl _) (.int .i64 aB)).setCell (p:=⟨w.heap.size,2,none⟩) (Nat.le_refl _) (.slice (some ⟨w.heap.size+1,0,none⟩) n n))
 exact bodyPost_ret (v:=aJ aA aB (some ⟨w.heap.size+1,0,none⟩) n n) (by simp[results,Tryz.results145,go_sem, *]) rfl (aBz (by simp) (aE8 (by simpa using HO.out)) hx)
def cC (xs:List Int)(w:World)(e:Ending)(w':World):Prop:=
 ∃p cap,e= .returned (.slice p xs.length cap)∧w'.ownsRow w.heap.size TI 1 (.slice p xs.length cap) xs.length (ivs xs)∧Ext w w'
theorem eZ {p:Option Addr}{n cap:Nat}{xs:List Int}{w w':World}(hn:xs.length=n)(ho:w'.ownsRow w.heap.size TI 1 (.slice p n cap) n (ivs xs))(hx:Ext w w'):cC xs w (.returned (.slice p n cap)) w':=by
 subst hn;exact⟨p,cap,rfl,ho,hx⟩
theorem aF8: ∀(xs:List Int) (k:Nat) (x:Int),(∀y∈xs.take k,y<x)→(∀y,xs[k]? =some y→ ¬y<x)→kV x xs=xs.take k++x::xs.drop k:=by
 intro xs
 induction xs with
 |nil=>intro k x _ _;simp[kV]
 |cons y ys ih=>
  intro k x h1 h2
  cases k with
  |zero=>
   have:=h2 y rfl
   simp[kV,this]
  |succ k=>
   have h3:y<x:=h1 y (by simp)
   rw[kV,if_pos h3,ih k x (fun z hz=>h1 z (by simp[hz])) (fun z hz=>h2 z (by simpa using hz))]
   simp
theorem aIh (x:Int)(xs:List Int):(kV x xs).length=xs.length+1:=(mA x xs).length_eq
theorem aJm {w:World}{b off n cap k:Nat}{xs:List Int}(h:Sl w (some ⟨b,off,none⟩) n cap 1 (ivs xs))(hk:k≤n):Sl w (some ⟨b,off+k,none⟩) (n-k) (cap-k) 1 (ivs (xs.drop k)):=by
 have hl:=h.ilen
 have hle:=h.le
 have hmx:=h.mx
 refine⟨by simp;omega,by omega,by omega,fun h0=> ?_⟩
 obtain⟨b',off',e,hb,hc⟩:=h.rd (by omega)
 injection e with e;injection e with e1 e2
 subst e1 e2
 refine⟨_,_,rfl,hb,fun j hj=> ?_⟩
 rw[Nat.add_assoc,hc (k+j) (by omega)]
 simp
theorem aJl (w:World)(p:Option Addr){c:Nat}(hc:c≤maxLen):Sl w p 0 c 1 (ivs []):=⟨by simp,Nat.zero_le _,hc,fun h=>absurd h (by omega)⟩
set_option maxRecDepth 100000 in
set_option maxHeartbeats 1000000 in
theorem aA9 (p:Option Addr)(n cap:Nat)(xs:List Int)(x:Int)(w:World)(hn:n≤1000000)(hS:Sl w p n cap 1 (ivs xs)):
  Calls Tryz.prog 119 #[.slice p n cap,.int .i64 x] w (cC (kV x xs) w):=by
 have hl:=xQ hS.ilen
 have hncap:=hS.le
 have hcm:=hS.mx
 unfold maxLen at hcm
 have HS:=xQ hS
 clear hS
 go_enter Tryz.func119,Tryz.ntmps119
 go_wp2
 go_loopw [5,6] (fun v i wr=> ∃(k:Nat) (q:Option Addr) (c:Nat),k≤n∧i= .int .i64 k∧v= .slice q k c∧wr.ownsRow w.heap.size TI 1 (.slice q k c) k (ivs (xs.take k))∧(∀y∈xs.take k,y<x)∧Ext w wr) (fun _ i _=>n-(intOf i).toNat)
 case atStart=>exact⟨0,_,0,Nat.zero_le _,rfl,rfl,World.ownsRow_made _ #[] 0 (Nat.le_refl _) (by simp[maxLen]) rfl,by simp,by exact .alloc (.refl _) _⟩
 case round=>
  obtain⟨k,q,c,hk,rfl,rfl,hown,hlt',hE⟩:=hrel
  have HO:=xQ hown
  have HL:=xQ hlt'
  have hsz:=hE.sz
  clear hown hlt'
  by_cases hlt:k<n
  ·obtain⟨b,off,y,rfl,hx,hb,hcell⟩:=(HS.out.ext hE).int_at hlt
   have HX:=xQ hx
   clear hx
   by_cases hy:y<x
   ·have hfin:Hid (∀z∈xs.take (k+1),z<x):=by
     show∀z∈xs.take (k+1),z<x
     rw[bF HX.out]
     intro z hz
     rcases List.mem_append.1 hz with h|h
     ·exact HL.out z h
     ·simp at h;omega
    go_wp2_with (at_builtin;refine cP gW rfl _ _ rfl w.heap.size _ _ _ rfl (HO.out.alloc _) _ _ y _ rfl (by simp) (by omega) (by simp;omega) ?_;intro p' cap' w1 hown1 hg1;have HO1:=xQ hown1;have hE1:Ext w w1:=Ext.own (hE.alloc _) (HO.out.alloc _) hg1 (Nat.le_refl _);clear hown1 hg1)
    go_roundw
    case rel=>exact⟨k+1,p',cap',by omega,by go_num,rfl,by rw[bF HX.out];exact HO1.out,hfin.out,hE1⟩
    case measure=>simp[intOf];omega
   ·have hfin:Hid (kV x xs=xs.take k++x::xs.drop k):=aF8 xs k x HL.out (fun z hz=>by rw[HX.out]at hz;injection hz with hz;subst hz;exact hy)
    have i1:(0:Int)≤(k:Int):=by omega
    have i2:(k:Int)≤(n:Int):=by omega
    have hck: ¬cap=k:=by omega
    go_wp2
    go_region_law ((first
     |(refine eK _ gW (by rfl) _ _ (by rfl) w.heap.size _ k (ivs (xs.take k)) (by rfl) (by first|exact HO.out|exact HO.out.alloc _|exact(HO.out.alloc _).drew|exact(HO.out.drew).alloc _|exact HO.out.drew) _ 1 1 [iv x] (by rfl) (by first|exact Sl.new wr #[iv x] _ 1 rfl (by decide)|exact(Sl.new wr #[iv x] _ 1 rfl (by decide)).ext (Ext.drew (Ext.refl _))|exact Sl.new wr.drew #[iv x] _ 1 rfl (by decide)) (oU [x]) (by omega) (by simp;omega) ?_
       intro p1 c1 w1 hown1 hg1
       have hE1:Ext w w1:=Ext.own (by exact .drew (.alloc hE _)) (by first|exact HO.out|exact HO.out.alloc _|exact(HO.out.alloc _).drew|exact(HO.out.drew).alloc _|exact HO.out.drew) hg1 (Nat.le_refl _)
       have HO1:=xQ hown1
       have HS1:=xQ (HS.out.ext hE1)
       have hz1:=hE1.sz
       clear hown1 hg1)
     |(refine eK _ gW (by rfl) _ _ (by rfl) w.heap.size _ (k+1) (ivs (xs.take k)++ [iv x]) (by rfl) HO1.out _ (n-k) (cap-k) (ivs (xs.drop k)) (by rfl) (aJm HS1.out (by omega)) (oU _) (by omega) (by omega) ?_
       intro p2 c2 w2 hown2 hg2
       have hE2:Ext w w2:=Ext.own hE1 HO1.out hg2 (Nat.le_refl _)
       have HO2:=xQ hown2
       clear hown2 hg2)))
    all_goals go_wp2
    all_goals go_ret
    all_goals exact eZ (by rw[hfin.out];simp;rw[hl.out];omega) (by rw[hfin.out];simpa using HO2.out) hE2
  ·obtain rfl:k=n:=by omega
   have hfin:Hid (kV x xs=xs++ [x]):=by
    have:=aF8 xs k x HL.out (fun z hz=>by rw[List.getElem?_eq_none (by rw[hl.out];exact Nat.le_refl _)]at hz;cases hz)
    show _=_
    rw[this,List.take_of_length_le (by rw[hl.out];exact Nat.le_refl _),List.drop_eq_nil_of_le (by rw[hl.out];exact Nat.le_refl _)]
   have i1:(0:Int)≤(k:Int):=by omega
   go_wp2
   go_region_law ((first
    |(refine eK _ gW (by rfl) _ _ (by rfl) w.heap.size _ k (ivs (xs.take k)) (by rfl) (by first|exact HO.out|exact HO.out.alloc _|exact(HO.out.alloc _).drew|exact(HO.out.drew).alloc _|exact HO.out.drew) _ 1 1 [iv x] (by rfl) (by first|exact Sl.new wr #[iv x] _ 1 rfl (by decide)|exact(Sl.new wr #[iv x] _ 1 rfl (by decide)).ext (Ext.drew (Ext.refl _))|exact Sl.new wr.drew #[iv x] _ 1 rfl (by decide)) (oU [x]) (by omega) (by simp;omega) ?_
      intro p1 c1 w1 hown1 hg1
      have hE1:Ext w w1:=Ext.own (by exact .drew (.alloc hE _)) (by first|exact HO.out|exact HO.out.alloc _|exact(HO.out.alloc _).drew|exact(HO.out.drew).alloc _|exact HO.out.drew) hg1 (Nat.le_refl _)
      have HO1:=xQ hown1
      have HS1:=xQ (HS.out.ext hE1)
      have hz1:=hE1.sz
      clear hown1 hg1)
    |(refine eK _ gW (by rfl) _ _ (by rfl) w.heap.size _ (k+1) (ivs (xs.take k)++ [iv x]) (by rfl) HO1.out _ 0 _ (ivs []) (by rfl) (aJl _ _ (by unfold maxLen;omega)) (oU _) (by omega) (by omega) ?_
      intro p2 c2 w2 hown2 hg2
      have hE2:Ext w w2:=Ext.own hE1 HO1.out hg2 (Nat.le_refl _)
      have HO2:=xQ hown2
      clear hown2 hg2)))
   all_goals go_wp2
   all_goals go_ret
   all_goals exact eZ (by rw[hfin.out];simp;rw[hl.out]) (by rw[hfin.out];have:=HO2.out;rw[List.take_of_length_le (by rw[hl.out];exact Nat.le_refl _)]at this;simpa using this) hE2
end Go.Proofs.YteejdnmmpmcmeaaGreatDoor
