/-
  Texts of this proof, packed (@packed).
-/
import Derived.WalkLawsBesides
import Derived.Test.YtgnkoffndhmhpaaGreatDoorP1
import Derived.Test.YtgnkoffndhmhpaaGreatDoorP5
namespace Go.Proofs.YtgnkoffndhmhpaaGreatDoor
open Go.RowKit
set_option linter.unusedVariables false
set_option maxHeartbeats 8000000
set_option maxRecDepth 100000
def aY (f s p c:Int):Bool:=decide (0≤f∧f<1440∧1≤s∧s≤1440∧0≤p∧p≤99∧0≤c∧c≤99)
def cS (i p a:Int):Bool:=decide (0≤i∧i≤9999∧0≤p∧p≤9999∧i≤a∧a≤9999)
def dM (f s m:Int):Int:=if m≤f then 0 else(m-f+s-1)/s
def jR (f s p c m:Int):Int:=m/1440*c+min (dM f s (m%1440)*p) c
def bQ (f s p c i pd a now:Int):Int:=if aY f s p c&&cS i pd a&&decide (a≤now∧now≤9999)then max (jR f s p c (now-i)-pd) 0 else -1
def jQ (f s p c i pd a now:Int):Bool:=
 decide (bQ f s p c i pd a now=0) || (decide (0≤bQ f s p c i pd a now)&&decide (now-a≤15)&&decide (bQ f s p c i pd a a=0))
abbrev aR (f s p c:Int):Value:= .agg #[f,s,p,c]
abbrev bP (i p a:Int):Value:= .agg #[i,p,a]
theorem gI {f s p c:Int}(h:aY f s p c=true):0≤f∧f<1440∧1≤s∧s≤1440∧0≤p∧p≤99∧0≤c∧c≤99:=by simpa[aY]using h
theorem eK {i p a:Int}(h:cS i p a=true):0≤i∧i≤9999∧0≤p∧p≤9999∧i≤a∧a≤9999:=by simpa[cS]using h
theorem iM {f s m:Int}(h0:0≤f)(h1:1≤s)(hm:m≤9999):0≤dM f s m∧dM f s m≤9999:=by
 unfold dM
 split
 ·omega
 ·refine⟨Int.ediv_nonneg (by omega) (by omega),?_⟩
  have:(m-f+s-1)/s≤m-f:=by
   apply Int.ediv_le_of_le_mul (by omega)
   have:(m-f)*s≥(m-f)*1:=Int.mul_le_mul_of_nonneg_left h1 (by omega)
   have h2:(m-f)*s=(m-f-1)*s+s:=by rw[Int.sub_mul (m-f) 1 s];omega
   have h3:(m-f-1)*s≥(m-f-1)*1:=Int.mul_le_mul_of_nonneg_left h1 (by omega)
   omega
  omega
theorem yZ {f s m:Int}(h1:1≤s):(max (m-f) 0+s-1)/s=dM f s m:=by
 unfold dM
 split
 ·rw[show max (m-f) 0=0 by omega]
  exact Int.ediv_eq_zero_of_lt (by omega) (by omega)
 ·rw[show max (m-f) 0=m-f by omega]
theorem rQ {x p:Int}(hx:0≤x)(hx2:x≤9999)(h0:0≤p)(h1:p≤99):0≤x*p∧x*p≤989901:=by
 refine⟨Int.mul_nonneg hx h0,?_⟩
 have:=Int.mul_le_mul hx2 h1 h0 (by omega)
 omega
theorem nS {f s p c m:Int}(h:aY f s p c=true)(h0:0≤m)(h1:m≤9999):0≤jR f s p c m∧jR f s p c m≤693:=by
 obtain⟨a1,a2,a3,a4,a5,a6,a7,a8⟩:=gI h
 obtain⟨b1,b2⟩:=iM (m:=m%1440) a1 a3 (by omega)
 obtain⟨d1,d2⟩:=rQ b1 b2 a5 a6
 unfold jR
 have e1:0≤m/1440*c:=Int.mul_nonneg (by omega) a7
 have e2:m/1440*c≤6*99:=Int.mul_le_mul (by omega) a8 a7 (by omega)
 omega
theorem yK (f s p c:Int)(w:World):Calls Tryz.prog 81 #[aR f s p c] w fun e w'=>e= .returned (.bool (aY f s p c))∧Ext w w':=by
 by_cases c1:0≤f
 ·by_cases c2:f<1440
  ·by_cases c3:1≤s
   ·by_cases c4:s≤1440
    ·by_cases c5:0≤p
     ·by_cases c6:p≤99
      ·by_cases c7:0≤c
       ·by_cases c8:c≤99
        ·go_enter Tryz.func81,Tryz.ntmps81
         go_wp2
         go_ret
         exact⟨aU (by simp[aY];omega),by exact .alloc (.refl _) _⟩
        ·go_enter Tryz.func81,Tryz.ntmps81
         go_wp2
         go_ret
         exact⟨aU (by simp[aY];omega),by exact .alloc (.refl _) _⟩
       ·go_enter Tryz.func81,Tryz.ntmps81
        go_wp2
        go_ret
        exact⟨aU (by simp[aY];omega),by exact .alloc (.refl _) _⟩
      ·go_enter Tryz.func81,Tryz.ntmps81
       go_wp2
       go_ret
       exact⟨aU (by simp[aY];omega),by exact .alloc (.refl _) _⟩
     ·go_enter Tryz.func81,Tryz.ntmps81
      go_wp2
      go_ret
      exact⟨aU (by simp[aY];omega),by exact .alloc (.refl _) _⟩
    ·go_enter Tryz.func81,Tryz.ntmps81
     go_wp2
     go_ret
     exact⟨aU (by simp[aY];omega),by exact .alloc (.refl _) _⟩
   ·go_enter Tryz.func81,Tryz.ntmps81
    go_wp2
    go_ret
    exact⟨aU (by simp[aY];omega),by exact .alloc (.refl _) _⟩
  ·go_enter Tryz.func81,Tryz.ntmps81
   go_wp2
   go_ret
   exact⟨aU (by simp[aY];omega),by exact .alloc (.refl _) _⟩
 ·go_enter Tryz.func81,Tryz.ntmps81
  go_wp2
  go_ret
  exact⟨aU (by simp[aY];omega),by exact .alloc (.refl _) _⟩
theorem tQ (f s p c:Int)(w:World):Calls Tryz.prog 91 #[aR f s p c] w fun e w'=>e= .returned (.bool (aY f s p c))∧Ext w w':=by
 by_cases c1:0≤f
 ·by_cases c2:f<1440
  ·by_cases c3:1≤s
   ·by_cases c4:s≤1440
    ·by_cases c5:0≤p
     ·by_cases c6:p≤99
      ·by_cases c7:0≤c
       ·by_cases c8:c≤99
        ·go_enter Tryz.func91,Tryz.ntmps91
         go_wp2_with go_in
         go_ret
         exact⟨aU (by simp[aY];omega),by exact .alloc (.refl _) _⟩
        ·go_enter Tryz.func91,Tryz.ntmps91
         go_wp2_with go_in
         go_ret
         exact⟨aU (by simp[aY];omega),by exact .alloc (.refl _) _⟩
       ·go_enter Tryz.func91,Tryz.ntmps91
        go_wp2_with go_in
        go_ret
        exact⟨aU (by simp[aY];omega),by exact .alloc (.refl _) _⟩
      ·go_enter Tryz.func91,Tryz.ntmps91
       go_wp2_with go_in
       go_ret
       exact⟨aU (by simp[aY];omega),by exact .alloc (.refl _) _⟩
     ·go_enter Tryz.func91,Tryz.ntmps91
      go_wp2_with go_in
      go_ret
      exact⟨aU (by simp[aY];omega),by exact .alloc (.refl _) _⟩
    ·go_enter Tryz.func91,Tryz.ntmps91
     go_wp2_with go_in
     go_ret
     exact⟨aU (by simp[aY];omega),by exact .alloc (.refl _) _⟩
   ·go_enter Tryz.func91,Tryz.ntmps91
    go_wp2_with go_in
    go_ret
    exact⟨aU (by simp[aY];omega),by exact .alloc (.refl _) _⟩
  ·go_enter Tryz.func91,Tryz.ntmps91
   go_wp2_with go_in
   go_ret
   exact⟨aU (by simp[aY];omega),by exact .alloc (.refl _) _⟩
 ·go_enter Tryz.func91,Tryz.ntmps91
  go_wp2_with go_in
  go_ret
  exact⟨aU (by simp[aY];omega),by exact .alloc (.refl _) _⟩
theorem aIj (i p a:Int)(w:World):Calls Tryz.prog 82 #[bP i p a] w fun e w'=>e= .returned (.bool (cS i p a))∧Ext w w':=by
 by_cases c1:0≤i
 ·by_cases c2:i≤9999
  ·by_cases c3:0≤p
   ·by_cases c4:p≤9999
    ·by_cases c5:i≤a
     ·by_cases c6:a≤9999
      ·go_enter Tryz.func82,Tryz.ntmps82
       go_wp2
       go_ret
       exact⟨aU (by simp[cS];omega),by exact .alloc (.refl _) _⟩
      ·go_enter Tryz.func82,Tryz.ntmps82
       go_wp2
       go_ret
       exact⟨aU (by simp[cS];omega),by exact .alloc (.refl _) _⟩
     ·go_enter Tryz.func82,Tryz.ntmps82
      go_wp2
      go_ret
      exact⟨aU (by simp[cS];omega),by exact .alloc (.refl _) _⟩
    ·go_enter Tryz.func82,Tryz.ntmps82
     go_wp2
     go_ret
     exact⟨aU (by simp[cS];omega),by exact .alloc (.refl _) _⟩
   ·go_enter Tryz.func82,Tryz.ntmps82
    go_wp2
    go_ret
    exact⟨aU (by simp[cS];omega),by exact .alloc (.refl _) _⟩
  ·go_enter Tryz.func82,Tryz.ntmps82
   go_wp2
   go_ret
   exact⟨aU (by simp[cS];omega),by exact .alloc (.refl _) _⟩
 ·go_enter Tryz.func82,Tryz.ntmps82
  go_wp2
  go_ret
  exact⟨aU (by simp[cS];omega),by exact .alloc (.refl _) _⟩
theorem aHa (i p a:Int)(w:World):Calls Tryz.prog 92 #[bP i p a] w fun e w'=>e= .returned (.bool (cS i p a))∧Ext w w':=by
 by_cases c1:0≤i
 ·by_cases c2:i≤9999
  ·by_cases c3:0≤p
   ·by_cases c4:p≤9999
    ·by_cases c5:i≤a
     ·by_cases c6:a≤9999
      ·go_enter Tryz.func92,Tryz.ntmps92
       go_wp2_with go_in
       go_ret
       exact⟨aU (by simp[cS];omega),by exact .alloc (.refl _) _⟩
      ·go_enter Tryz.func92,Tryz.ntmps92
       go_wp2_with go_in
       go_ret
       exact⟨aU (by simp[cS];omega),by exact .alloc (.refl _) _⟩
     ·go_enter Tryz.func92,Tryz.ntmps92
      go_wp2_with go_in
      go_ret
      exact⟨aU (by simp[cS];omega),by exact .alloc (.refl _) _⟩
    ·go_enter Tryz.func92,Tryz.ntmps92
     go_wp2_with go_in
     go_ret
     exact⟨aU (by simp[cS];omega),by exact .alloc (.refl _) _⟩
   ·go_enter Tryz.func92,Tryz.ntmps92
    go_wp2_with go_in
    go_ret
    exact⟨aU (by simp[cS];omega),by exact .alloc (.refl _) _⟩
  ·go_enter Tryz.func92,Tryz.ntmps92
   go_wp2_with go_in
   go_ret
   exact⟨aU (by simp[cS];omega),by exact .alloc (.refl _) _⟩
 ·go_enter Tryz.func92,Tryz.ntmps92
  go_wp2_with go_in
  go_ret
  exact⟨aU (by simp[cS];omega),by exact .alloc (.refl _) _⟩
theorem aIt (f s p c m:Int)(w:World)(h:aY f s p c=true)(h0:0≤m)(h1:m≤9999):Calls Tryz.prog 95 #[aR f s p c,m] w fun e w'=>e= .returned (.int .i64 (dM f s m))∧Ext w w':=by
 obtain⟨a1,a2,a3,a4,a5,a6,a7,a8⟩:=gI h
 have HT:Hid (∀w,Calls Tryz.prog 81 #[aR f s p c] w fun e w'=>e= .returned (.bool true)∧Ext w w'):=fun w=>by rw[←h];exact yK f s p c w
 have HB:=xQ (iM (m:=m) a1 a3 h1)
 clear h
 by_cases hm:m≤f
 ·have hf:Hid (dM f s m=0):=if_pos hm
  go_enter Tryz.func95,Tryz.ntmps95
  go_wp2_with fail
  refine(HT _).mono ?_
  rintro e w1 ⟨rfl,a⟩
  have b:=a.cells.1
  go_wp2
  go_ret
  exact⟨eW hf.out.symm,by exact .trans (.alloc (.refl _) _) a⟩
 ·have hf:Hid (dM f s m=(m-f+s-1)/s):=if_neg hm
  go_enter Tryz.func95,Tryz.ntmps95
  go_wp2_with fail
  refine(HT _).mono ?_
  rintro e w1 ⟨rfl,a⟩
  have b:=a.cells.1
  go_wp2
  go_ret
  exact⟨eW hf.out.symm,by exact .trans (.alloc (.refl _) _) a⟩
theorem aHm (f s p c m:Int)(w:World)(h:aY f s p c=true)(h0:0≤m)(h1:m≤9999):Calls Tryz.prog 187 #[aR f s p c,m] w fun e w'=>e= .returned (.int .i64 (dM f s m))∧Ext w w':=by
 obtain⟨a1,a2,a3,a4,a5,a6,a7,a8⟩:=gI h
 have HT:Hid (∀w,Calls Tryz.prog 91 #[aR f s p c] w fun e w'=>e= .returned (.bool true)∧Ext w w'):=fun w=>by rw[←h];exact tQ f s p c w
 have hf:=xQ (yZ (f:=f) (m:=m) a3)
 clear h
 go_enter Tryz.func187,Tryz.ntmps187
 go_wp2_with (first|(go_at_call 91;refine(HT _).mono ?_;rintro e w1 ⟨rfl,a⟩;have b:=a.cells.1)|go_in)
 all_goals go_ret
 all_goals exact⟨eW (by rw[←hf.out];congr 1;omega),by exact .trans (.alloc (.refl _) _) a⟩
theorem aLu (f s p c m:Int)(w:World)(h:aY f s p c=true)(h0:0≤m)(h1:m≤9999):Calls Tryz.prog 45 #[aR f s p c,m] w fun e w'=>e= .returned (.int .i64 (jR f s p c m))∧Ext w w':=by
 obtain⟨a1,a2,a3,a4,a5,a6,a7,a8⟩:=gI h
 have HT:Hid (∀w,Calls Tryz.prog 81 #[aR f s p c] w fun e w'=>e= .returned (.bool true)∧Ext w w'):=fun w=>by rw[←h];exact yK f s p c w
 obtain⟨q,hq⟩: ∃q,q=dM f s (m%1440):=⟨_,rfl⟩
 have g:0≤q∧q≤9999:=by rw[hq];exact iM a1 a3 (by omega)
 obtain⟨q2,d⟩: ∃q,q=dM f s m:=⟨_,rfl⟩
 have j:0≤q2∧q2≤9999:=by rw[d];exact iM a1 a3 (by omega)
 have HF:Hid (∀w,Calls Tryz.prog 95 #[aR f s p c,(m%1440:Int)] w fun e w'=>e= .returned (.int .i64 q)∧Ext w w'):=fun w=>by rw[hq];exact aIt f s p c _ w h (by omega) (by omega)
 have k:Hid (∀w,Calls Tryz.prog 95 #[aR f s p c,m] w fun e w'=>e= .returned (.int .i64 q2)∧Ext w w'):=fun w=>by rw[d];exact aIt f s p c _ w h (by omega) (by omega)
 have b:jR f s p c m=m/1440*c+min (q*p) c:=by rw[hq];rfl
 rw[b]
 obtain⟨b1,b2⟩:=rQ g.1 g.2 a5 a6
 have b3:0≤m/1440*c:=Int.mul_nonneg (by omega) a7
 have b4:m/1440*c≤6*99:=Int.mul_le_mul (by omega) a8 a7 (by omega)
 clear hq d b h
 go_enter Tryz.func45,Tryz.ntmps45
 go_wp2_with fail
 refine(HT _).mono ?_
 rintro e w1 ⟨rfl,a⟩
 have n:w.heap.size<w1.heap.size:=Nat.lt_of_lt_of_le (by simp) a.sz
 have e0:w1.cell? ⟨w.heap.size,0,none⟩=some (.int .i64 f):=by rw[a.cells.1 _ _ (by simp)];simp
 have e1:w1.cell? ⟨w.heap.size,1,none⟩=some (.int .i64 s):=by rw[a.cells.1 _ _ (by simp)];simp
 have e2:w1.cell? ⟨w.heap.size,2,none⟩=some (.int .i64 p):=by rw[a.cells.1 _ _ (by simp)];simp
 have e3:w1.cell? ⟨w.heap.size,3,none⟩=some (.int .i64 c):=by rw[a.cells.1 _ _ (by simp)];simp
 go_wp2_with fail
 have hq:=IntWalk.i64_quo m 1440 ⟨h0,by omega,by omega⟩
 have hr:=IntWalk.rem_in m 1440 h0
 have i:IntKind.i64.wrap (m%1440)=m%1440:=IntWalk.i64_in _ (by omega)
 have k1:IntKind.i64.wrap (q*p)=q*p:=IntWalk.i64_in _ (by omega)
 have k2:IntKind.i64.wrap (m/1440*c)=m/1440*c:=IntWalk.i64_in _ (by omega)
 have k3:IntKind.i64.wrap (m/1440*c+c)=m/1440*c+c:=IntWalk.i64_in _ (by omega)
 have k4:IntKind.i64.wrap (m/1440*c+q*p)=m/1440*c+q*p:=IntWalk.i64_in _ (by omega)
 go_region_held3 (fun w'=>w'.cell? ⟨w.heap.size,0,none⟩=some (.int .i64 f)∧w'.cell? ⟨w.heap.size,1,none⟩=some (.int .i64 s)∧w'.cell? ⟨w.heap.size,2,none⟩=some (.int .i64 p)∧w'.cell? ⟨w.heap.size,3,none⟩=some (.int .i64 c)) (go_keep)
  ((go_at_call 95;refine(HF _).mono ?_;rintro e w2 ⟨rfl,h2⟩;(try replace h2:=h2.of_drew);have o:=h2.cells.1;have l:w.heap.size<w2.heap.size:=Nat.lt_of_lt_of_le (by assumption) h2.sz))
 all_goals clear hq hr i k1 k2 k3 k4
 all_goals go_wp2
 all_goals go_ret
 all_goals exact⟨eW (by first|omega|(rw[IntWalk.i64_in _ (by omega)];omega)),by exact .trans (.trans (.alloc (.refl _) _) a) h2⟩
theorem aLi (f s p c m:Int)(w:World)(h:aY f s p c=true)(h0:0≤m)(h1:m≤9999):Calls Tryz.prog 162 #[aR f s p c,m] w fun e w'=>e= .returned (.int .i64 (jR f s p c m))∧Ext w w':=by
 obtain⟨a1,a2,a3,a4,a5,a6,a7,a8⟩:=gI h
 have HT:Hid (∀w,Calls Tryz.prog 91 #[aR f s p c] w fun e w'=>e= .returned (.bool true)∧Ext w w'):=fun w=>by rw[←h];exact tQ f s p c w
 obtain⟨q,hq⟩: ∃q,q=dM f s (m%1440):=⟨_,rfl⟩
 have g:0≤q∧q≤9999:=by rw[hq];exact iM a1 a3 (by omega)
 obtain⟨q2,d⟩: ∃q,q=dM f s m:=⟨_,rfl⟩
 have k:0≤q2∧q2≤9999:=by rw[d];exact iM a1 a3 (by omega)
 have HF:Hid (∀w,Calls Tryz.prog 187 #[aR f s p c,(m%1440:Int)] w fun e w'=>e= .returned (.int .i64 q)∧Ext w w'):=fun w=>by rw[hq];exact aHm f s p c _ w h (by omega) (by omega)
 have i:Hid (∀w,Calls Tryz.prog 187 #[aR f s p c,m] w fun e w'=>e= .returned (.int .i64 q2)∧Ext w w'):=fun w=>by rw[d];exact aHm f s p c _ w h (by omega) (by omega)
 have b:jR f s p c m=m/1440*c+min (q*p) c:=by rw[hq];rfl
 rw[b]
 obtain⟨b1,b2⟩:=rQ g.1 g.2 a5 a6
 have b3:0≤m/1440*c:=Int.mul_nonneg (by omega) a7
 have b4:m/1440*c≤6*99:=Int.mul_le_mul (by omega) a8 a7 (by omega)
 clear hq d b h
 go_enter Tryz.func162,Tryz.ntmps162
 go_wp2_with fail
 refine(i _).mono ?_
 rintro e w1 ⟨rfl,a⟩
 have n:w.heap.size<w1.heap.size:=Nat.lt_of_lt_of_le (by simp) a.sz
 have e0:w1.cell? ⟨w.heap.size,0,none⟩=some (.int .i64 f):=by rw[a.cells.1 _ _ (by simp)];simp
 have e1:w1.cell? ⟨w.heap.size,1,none⟩=some (.int .i64 s):=by rw[a.cells.1 _ _ (by simp)];simp
 have e2:w1.cell? ⟨w.heap.size,2,none⟩=some (.int .i64 p):=by rw[a.cells.1 _ _ (by simp)];simp
 have e3:w1.cell? ⟨w.heap.size,3,none⟩=some (.int .i64 c):=by rw[a.cells.1 _ _ (by simp)];simp
 go_wp2_with fail
 have hq:=IntWalk.i64_quo m 1440 ⟨h0,by omega,by omega⟩
 have hr:=IntWalk.rem_in m 1440 h0
 have j:IntKind.i64.wrap (m%1440)=m%1440:=IntWalk.i64_in _ (by omega)
 have k1:IntKind.i64.wrap (q*p)=q*p:=IntWalk.i64_in _ (by omega)
 have k2:IntKind.i64.wrap (m/1440*c)=m/1440*c:=IntWalk.i64_in _ (by omega)
 have k3:IntKind.i64.wrap (m/1440*c+c)=m/1440*c+c:=IntWalk.i64_in _ (by omega)
 have k4:IntKind.i64.wrap (m/1440*c+q*p)=m/1440*c+q*p:=IntWalk.i64_in _ (by omega)
 go_region_held3 (fun w'=>w'.cell? ⟨w.heap.size,0,none⟩=some (.int .i64 f)∧w'.cell? ⟨w.heap.size,1,none⟩=some (.int .i64 s)∧w'.cell? ⟨w.heap.size,2,none⟩=some (.int .i64 p)∧w'.cell? ⟨w.heap.size,3,none⟩=some (.int .i64 c)) (go_keep)
  ((go_at_call 187;refine(HF _).mono ?_;rintro e w2 ⟨rfl,h2⟩;(try replace h2:=h2.of_drew);have o:=h2.cells.1;have l:w.heap.size<w2.heap.size:=Nat.lt_of_lt_of_le (by assumption) h2.sz))
 all_goals clear hq hr j k1 k2 k3 k4
 all_goals go_wp2
 all_goals go_ret
 all_goals exact⟨eW (by first|omega|(rw[IntWalk.i64_in _ (by omega)];omega)),by exact .trans (.trans (.alloc (.refl _) _) a) h2⟩
theorem uI (f s p c i pd a now:Int)(w:World)(h:aY f s p c=true)(h2:cS i pd a=true)(h3:a≤now)(h4:now≤9999):Calls Tryz.prog 84 #[aR f s p c,bP i pd a,now] w fun e w'=>e= .returned (.int .i64 (bQ f s p c i pd a now))∧Ext w w':=by
 obtain⟨b1,b2,b3,b4,b5,b6⟩:=eK h2
 have HT:Hid (∀w,Calls Tryz.prog 81 #[aR f s p c] w fun e w'=>e= .returned (.bool true)∧Ext w w'):=fun w=>by rw[←h];exact yK f s p c w
 have HS:Hid (∀w,Calls Tryz.prog 82 #[bP i pd a] w fun e w'=>e= .returned (.bool true)∧Ext w w'):=fun w=>by rw[←h2];exact aIj i pd a w
 obtain⟨q,hq⟩: ∃q,q=jR f s p c (now-i):=⟨_,rfl⟩
 have t:0≤q∧q≤693:=by rw[hq];exact nS h (by omega) (by omega)
 have HF:Hid (∀w,Calls Tryz.prog 45 #[aR f s p c,(now-i:Int)] w fun e w'=>e= .returned (.int .i64 q)∧Ext w w'):=fun w=>by rw[hq];exact aLu f s p c _ w h (by omega) (by omega)
 have j:bQ f s p c i pd a now=max (q-pd) 0:=by rw[hq];simp[bQ,h,h2,h3,h4]
 rw[j]
 clear hq j h h2
 go_enter Tryz.func84,Tryz.ntmps84
 go_wp2_with fail
 refine(HT _).mono ?_
 rintro e w1 ⟨rfl,b⟩
 have l:w.heap.size<w1.heap.size:=Nat.lt_of_lt_of_le (by simp;omega) b.sz
 have k:w.heap.size+1<w1.heap.size:=Nat.lt_of_lt_of_le (by simp) b.sz
 have e0:w1.cell? ⟨w.heap.size,0,none⟩=some (.int .i64 f):=by rw[b.cells.1 _ _ (by simp;omega)];simp
 have e1:w1.cell? ⟨w.heap.size,1,none⟩=some (.int .i64 s):=by rw[b.cells.1 _ _ (by simp;omega)];simp
 have e2:w1.cell? ⟨w.heap.size,2,none⟩=some (.int .i64 p):=by rw[b.cells.1 _ _ (by simp;omega)];simp
 have e3:w1.cell? ⟨w.heap.size,3,none⟩=some (.int .i64 c):=by rw[b.cells.1 _ _ (by simp;omega)];simp
 have g0:w1.cell? ⟨w.heap.size+1,0,none⟩=some (.int .i64 i):=by rw[b.cells.1 _ _ (by simp)];simp
 have g1:w1.cell? ⟨w.heap.size+1,1,none⟩=some (.int .i64 pd):=by rw[b.cells.1 _ _ (by simp)];simp
 have g2:w1.cell? ⟨w.heap.size+1,2,none⟩=some (.int .i64 a):=by rw[b.cells.1 _ _ (by simp)];simp
 go_wp2_with (first|(go_at_call 82;refine(HS _).mono ?_;rintro e w2 ⟨rfl,g⟩;have n:=g.cells.1;have m:w.heap.size<w2.heap.size:=Nat.lt_of_lt_of_le l g.sz;have v:w.heap.size+1<w2.heap.size:=Nat.lt_of_lt_of_le k g.sz)|go_in)
 have k1:IntKind.i64.wrap (now-i)=now-i:=IntWalk.i64_in _ (by omega)
 have k2:IntKind.i64.wrap (q-pd)=q-pd:=IntWalk.i64_in _ (by omega)
 go_region_held3 (fun w'=>w'.cell? ⟨w.heap.size,0,none⟩=some (.int .i64 f)∧w'.cell? ⟨w.heap.size,1,none⟩=some (.int .i64 s)∧w'.cell? ⟨w.heap.size,2,none⟩=some (.int .i64 p)∧w'.cell? ⟨w.heap.size,3,none⟩=some (.int .i64 c)∧w'.cell? ⟨w.heap.size+1,0,none⟩=some (.int .i64 i)∧w'.cell? ⟨w.heap.size+1,1,none⟩=some (.int .i64 pd)) (go_keep)
  ((go_at_call 45;refine(HF _).mono ?_;rintro e w3 ⟨rfl,d⟩;(try replace d:=d.of_drew);have o:=d.cells.1;have u:w.heap.size<w3.heap.size:=Nat.lt_of_lt_of_le (by assumption) d.sz;have r:w.heap.size+1<w3.heap.size:=Nat.lt_of_lt_of_le (by assumption) d.sz))
 all_goals clear k1 k2
 all_goals go_wp2
 all_goals go_ret
 all_goals exact⟨eW (by omega),by exact .trans (.trans (.trans (.alloc (.alloc (.refl _) _) _) b) g) d⟩
theorem xP (f s p c i pd a now:Int)(w:World)(h:aY f s p c=true)(h2:cS i pd a=true)(h3:a≤now)(h4:now≤9999):Calls Tryz.prog 133 #[aR f s p c,bP i pd a,now] w fun e w'=>e= .returned (.int .i64 (bQ f s p c i pd a now))∧Ext w w':=by
 obtain⟨b1,b2,b3,b4,b5,b6⟩:=eK h2
 have HT:Hid (∀w,Calls Tryz.prog 91 #[aR f s p c] w fun e w'=>e= .returned (.bool true)∧Ext w w'):=fun w=>by rw[←h];exact tQ f s p c w
 have HS:Hid (∀w,Calls Tryz.prog 92 #[bP i pd a] w fun e w'=>e= .returned (.bool true)∧Ext w w'):=fun w=>by rw[←h2];exact aHa i pd a w
 obtain⟨q,hq⟩: ∃q,q=jR f s p c (now-i):=⟨_,rfl⟩
 have t:0≤q∧q≤693:=by rw[hq];exact nS h (by omega) (by omega)
 have HF:Hid (∀w,Calls Tryz.prog 162 #[aR f s p c,(now-i:Int)] w fun e w'=>e= .returned (.int .i64 q)∧Ext w w'):=fun w=>by rw[hq];exact aLi f s p c _ w h (by omega) (by omega)
 have j:bQ f s p c i pd a now=max (q-pd) 0:=by rw[hq];simp[bQ,h,h2,h3,h4]
 rw[j]
 clear hq j h h2
 go_enter Tryz.func133,Tryz.ntmps133
 go_wp2_with fail
 refine(HT _).mono ?_
 rintro e w1 ⟨rfl,b⟩
 have l:w.heap.size<w1.heap.size:=Nat.lt_of_lt_of_le (by simp;omega) b.sz
 have k:w.heap.size+1<w1.heap.size:=Nat.lt_of_lt_of_le (by simp) b.sz
 have e0:w1.cell? ⟨w.heap.size,0,none⟩=some (.int .i64 f):=by rw[b.cells.1 _ _ (by simp;omega)];simp
 have e1:w1.cell? ⟨w.heap.size,1,none⟩=some (.int .i64 s):=by rw[b.cells.1 _ _ (by simp;omega)];simp
 have e2:w1.cell? ⟨w.heap.size,2,none⟩=some (.int .i64 p):=by rw[b.cells.1 _ _ (by simp;omega)];simp
 have e3:w1.cell? ⟨w.heap.size,3,none⟩=some (.int .i64 c):=by rw[b.cells.1 _ _ (by simp;omega)];simp
 have g0:w1.cell? ⟨w.heap.size+1,0,none⟩=some (.int .i64 i):=by rw[b.cells.1 _ _ (by simp)];simp
 have g1:w1.cell? ⟨w.heap.size+1,1,none⟩=some (.int .i64 pd):=by rw[b.cells.1 _ _ (by simp)];simp
 have g2:w1.cell? ⟨w.heap.size+1,2,none⟩=some (.int .i64 a):=by rw[b.cells.1 _ _ (by simp)];simp
 go_wp2_with (first|(go_at_call 92;refine(HS _).mono ?_;rintro e w2 ⟨rfl,g⟩;have n:=g.cells.1;have m:w.heap.size<w2.heap.size:=Nat.lt_of_lt_of_le l g.sz;have v:w.heap.size+1<w2.heap.size:=Nat.lt_of_lt_of_le k g.sz)|go_in)
 have k1:IntKind.i64.wrap (now-i)=now-i:=IntWalk.i64_in _ (by omega)
 have k2:IntKind.i64.wrap (q-pd)=q-pd:=IntWalk.i64_in _ (by omega)
 go_region_held3 (fun w'=>w'.cell? ⟨w.heap.size,0,none⟩=some (.int .i64 f)∧w'.cell? ⟨w.heap.size,1,none⟩=some (.int .i64 s)∧w'.cell? ⟨w.heap.size,2,none⟩=some (.int .i64 p)∧w'.cell? ⟨w.heap.size,3,none⟩=some (.int .i64 c)∧w'.cell? ⟨w.heap.size+1,0,none⟩=some (.int .i64 i)∧w'.cell? ⟨w.heap.size+1,1,none⟩=some (.int .i64 pd)) (go_keep)
  ((go_at_call 162;refine(HF _).mono ?_;rintro e w3 ⟨rfl,d⟩;(try replace d:=d.of_drew);have o:=d.cells.1;have u:w.heap.size<w3.heap.size:=Nat.lt_of_lt_of_le (by assumption) d.sz;have r:w.heap.size+1<w3.heap.size:=Nat.lt_of_lt_of_le (by assumption) d.sz))
 all_goals clear k1 k2
 all_goals go_wp2
 all_goals go_ret
 all_goals exact⟨eW (by omega),by exact .trans (.trans (.trans (.alloc (.alloc (.refl _) _) _) b) g) d⟩
theorem aIq (f s p c i pd a now d1 d2:Int)(w:World)(h0:0≤d1)(h2:0≤d2)(h3:a≤now)(h4:now≤9999)(h5:0≤a)(t1:(d1==0)=true)
  (HA:Hid (∀w,Calls Tryz.prog 84 #[aR f s p c,bP i pd a,now] w fun e w'=>e= .returned (.int .i64 d1)∧Ext w w'))
  (HB:Hid (∀w,Calls Tryz.prog 84 #[aR f s p c,bP i pd a,a] w fun e w'=>e= .returned (.int .i64 d2)∧Ext w w')):
  Calls Tryz.prog 150 #[aR f s p c,bP i pd a,now] w fun e w'=>e= .returned (.bool true)∧Ext w w':=by
 go_enter Tryz.func150,Tryz.ntmps150
 go_wp2_with fail
 refine(HA _).mono ?_
 rintro e w1 ⟨rfl,b⟩
 have d:w.heap.size<w1.heap.size:=Nat.lt_of_lt_of_le (by simp;omega) b.sz
 have g:w.heap.size+1<w1.heap.size:=Nat.lt_of_lt_of_le (by simp) b.sz
 have h:=b.cells.1
 go_wp2
 go_ret
 exact⟨aU (by first|rfl|(simp;omega)),by exact .trans (.alloc (.alloc (.refl _) _) _) b⟩
theorem aIp (f s p c i pd a now d1 d2:Int)(w:World)(h0:0≤d1)(h2:0≤d2)(h3:a≤now)(h4:now≤9999)(h5:0≤a)(t1:(d1==0)=false)(t2:15<now-a)(t3:(d2==0)=true)
  (HA:Hid (∀w,Calls Tryz.prog 84 #[aR f s p c,bP i pd a,now] w fun e w'=>e= .returned (.int .i64 d1)∧Ext w w'))
  (HB:Hid (∀w,Calls Tryz.prog 84 #[aR f s p c,bP i pd a,a] w fun e w'=>e= .returned (.int .i64 d2)∧Ext w w')):
  Calls Tryz.prog 150 #[aR f s p c,bP i pd a,now] w fun e w'=>e= .returned (.bool false)∧Ext w w':=by
 go_enter Tryz.func150,Tryz.ntmps150
 go_wp2_with fail
 refine(HA _).mono ?_
 rintro e w1 ⟨rfl,b⟩
 have d:w.heap.size<w1.heap.size:=Nat.lt_of_lt_of_le (by simp;omega) b.sz
 have g:w.heap.size+1<w1.heap.size:=Nat.lt_of_lt_of_le (by simp) b.sz
 have h:=b.cells.1
 go_wp2
 go_ret
 exact⟨aU (by first|rfl|(simp;omega)),by exact .trans (.alloc (.alloc (.refl _) _) _) b⟩
theorem aIo (f s p c i pd a now d1 d2:Int)(w:World)(h0:0≤d1)(h2:0≤d2)(h3:a≤now)(h4:now≤9999)(h5:0≤a)(t1:(d1==0)=false)(t2:now-a≤15)(t3:(d2==0)=true)
  (HA:Hid (∀w,Calls Tryz.prog 84 #[aR f s p c,bP i pd a,now] w fun e w'=>e= .returned (.int .i64 d1)∧Ext w w'))
  (HB:Hid (∀w,Calls Tryz.prog 84 #[aR f s p c,bP i pd a,a] w fun e w'=>e= .returned (.int .i64 d2)∧Ext w w')):
  Calls Tryz.prog 150 #[aR f s p c,bP i pd a,now] w fun e w'=>e= .returned (.bool true)∧Ext w w':=by
 go_enter Tryz.func150,Tryz.ntmps150
 go_wp2_with fail
 refine(HA _).mono ?_
 rintro e w1 ⟨rfl,d⟩
 have g:w.heap.size<w1.heap.size:=Nat.lt_of_lt_of_le (by simp;omega) d.sz
 have h:w.heap.size+1<w1.heap.size:=Nat.lt_of_lt_of_le (by simp) d.sz
 have m:=d.cells.1
 go_wp2_with fail
 refine(HB _).mono ?_
 rintro e w2 ⟨rfl,b⟩
 have j:=Nat.lt_of_lt_of_le g b.sz
 have l:=Nat.lt_of_lt_of_le h b.sz
 have k:=b.cells.1
 go_wp2
 go_ret
 exact⟨aU (by first|rfl|(simp;omega)),by exact .trans (.trans (.alloc (.alloc (.refl _) _) _) d) b⟩
theorem aIn (f s p c i pd a now d1 d2:Int)(w:World)(h0:0≤d1)(h2:0≤d2)(h3:a≤now)(h4:now≤9999)(h5:0≤a)(t1:(d1==0)=false)(t2:15<now-a)(t3:(d2==0)=false)
  (HA:Hid (∀w,Calls Tryz.prog 84 #[aR f s p c,bP i pd a,now] w fun e w'=>e= .returned (.int .i64 d1)∧Ext w w'))
  (HB:Hid (∀w,Calls Tryz.prog 84 #[aR f s p c,bP i pd a,a] w fun e w'=>e= .returned (.int .i64 d2)∧Ext w w')):
  Calls Tryz.prog 150 #[aR f s p c,bP i pd a,now] w fun e w'=>e= .returned (.bool false)∧Ext w w':=by
 go_enter Tryz.func150,Tryz.ntmps150
 go_wp2_with fail
 refine(HA _).mono ?_
 rintro e w1 ⟨rfl,b⟩
 have d:w.heap.size<w1.heap.size:=Nat.lt_of_lt_of_le (by simp;omega) b.sz
 have g:w.heap.size+1<w1.heap.size:=Nat.lt_of_lt_of_le (by simp) b.sz
 have h:=b.cells.1
 go_wp2
 go_ret
 exact⟨aU (by first|rfl|(simp;omega)),by exact .trans (.alloc (.alloc (.refl _) _) _) b⟩
theorem aIm (f s p c i pd a now d1 d2:Int)(w:World)(h0:0≤d1)(h2:0≤d2)(h3:a≤now)(h4:now≤9999)(h5:0≤a)(t1:(d1==0)=false)(t2:now-a≤15)(t3:(d2==0)=false)
  (HA:Hid (∀w,Calls Tryz.prog 84 #[aR f s p c,bP i pd a,now] w fun e w'=>e= .returned (.int .i64 d1)∧Ext w w'))
  (HB:Hid (∀w,Calls Tryz.prog 84 #[aR f s p c,bP i pd a,a] w fun e w'=>e= .returned (.int .i64 d2)∧Ext w w')):
  Calls Tryz.prog 150 #[aR f s p c,bP i pd a,now] w fun e w'=>e= .returned (.bool false)∧Ext w w':=by
 go_enter Tryz.func150,Tryz.ntmps150
 go_wp2_with fail
 refine(HA _).mono ?_
 rintro e w1 ⟨rfl,d⟩
 have g:w.heap.size<w1.heap.size:=Nat.lt_of_lt_of_le (by simp;omega) d.sz
 have h:w.heap.size+1<w1.heap.size:=Nat.lt_of_lt_of_le (by simp) d.sz
 have m:=d.cells.1
 go_wp2_with fail
 refine(HB _).mono ?_
 rintro e w2 ⟨rfl,b⟩
 have j:=Nat.lt_of_lt_of_le g b.sz
 have l:=Nat.lt_of_lt_of_le h b.sz
 have k:=b.cells.1
 go_wp2
 go_ret
 exact⟨aU (by first|rfl|(simp;omega)),by exact .trans (.trans (.alloc (.alloc (.refl _) _) _) d) b⟩
theorem aLq (f s p c i pd a now:Int)(w:World)(h:aY f s p c=true)(h2:cS i pd a=true)(h3:a≤now)(h4:now≤9999):Calls Tryz.prog 150 #[aR f s p c,bP i pd a,now] w fun e w'=>e= .returned (.bool (jQ f s p c i pd a now))∧Ext w w':=by
 obtain⟨b1,b2,b3,b4,b5,b6⟩:=eK h2
 have e1:0≤bQ f s p c i pd a now:=by unfold bQ;rw[if_pos (by simp[h,h2,h3,h4])];omega
 have e2:0≤bQ f s p c i pd a a:=by unfold bQ;rw[if_pos (by simp[h,h2];omega)];omega
 have hr:jQ f s p c i pd a now=(decide (bQ f s p c i pd a now=0) || (decide (now-a≤15)&&decide (bQ f s p c i pd a a=0))):=by simp[jQ,e1]
 have hA:=fun w=>uI f s p c i pd a now w h h2 h3 h4
 have hB:=fun w=>uI f s p c i pd a a w h h2 (by omega) b6
 rw[hr]
 generalize bQ f s p c i pd a now=d1 at*
 generalize bQ f s p c i pd a a=d2 at*
 by_cases t1:d1=0
 ·rw[show(decide (d1=0) || (decide (now-a≤15)&&decide (d2=0)))=true by simp[t1]]
  exact aIq f s p c i pd a now d1 d2 w e1 e2 h3 h4 (by omega) (by simp[t1]) hA hB
 ·by_cases t2:now-a≤15
  ·by_cases t3:d2=0
   ·rw[show(decide (d1=0) || (decide (now-a≤15)&&decide (d2=0)))=true by simp[t2,t3]]
    exact aIo f s p c i pd a now d1 d2 w e1 e2 h3 h4 (by omega) (by simp[t1]) t2 (by simp[t3]) hA hB
   ·rw[show(decide (d1=0) || (decide (now-a≤15)&&decide (d2=0)))=false by simp[t1,t3]]
    exact aIm f s p c i pd a now d1 d2 w e1 e2 h3 h4 (by omega) (by simp[t1]) t2 (by simp[t3]) hA hB
  ·by_cases t3:d2=0
   ·rw[show(decide (d1=0) || (decide (now-a≤15)&&decide (d2=0)))=false by simp[t1,t2]]
    exact aIp f s p c i pd a now d1 d2 w e1 e2 h3 h4 (by omega) (by simp[t1]) (by omega) (by simp[t3]) hA hB
   ·rw[show(decide (d1=0) || (decide (now-a≤15)&&decide (d2=0)))=false by simp[t1,t2]]
    exact aIn f s p c i pd a now d1 d2 w e1 e2 h3 h4 (by omega) (by simp[t1]) (by omega) (by simp[t3]) hA hB
theorem aHj (f s p c i pd a now d1 d2:Int)(w:World)(h0:0≤d1)(h2:0≤d2)(h3:a≤now)(h4:now≤9999)(h5:0≤a)(t1:(d1==0)=true)
  (HA:Hid (∀w,Calls Tryz.prog 133 #[aR f s p c,bP i pd a,now] w fun e w'=>e= .returned (.int .i64 d1)∧Ext w w'))
  (HB:Hid (∀w,Calls Tryz.prog 133 #[aR f s p c,bP i pd a,a] w fun e w'=>e= .returned (.int .i64 d2)∧Ext w w')):
  Calls Tryz.prog 126 #[aR f s p c,bP i pd a,now] w fun e w'=>e= .returned (.bool true)∧Ext w w':=by
 go_enter Tryz.func126,Tryz.ntmps126
 go_wp2_with fail
 refine(HA _).mono ?_
 rintro e w1 ⟨rfl,d⟩
 have g:w.heap.size<w1.heap.size:=Nat.lt_of_lt_of_le (by simp;omega) d.sz
 have h:w.heap.size+1<w1.heap.size:=Nat.lt_of_lt_of_le (by simp) d.sz
 have m:=d.cells.1
 go_wp2_with fail
 refine(HA _).mono ?_
 rintro e w2 ⟨rfl,b⟩
 have j:=Nat.lt_of_lt_of_le g b.sz
 have l:=Nat.lt_of_lt_of_le h b.sz
 have k:=b.cells.1
 go_wp2
 go_ret
 exact⟨aU (by first|rfl|(simp;omega)),by exact .trans (.trans (.alloc (.alloc (.refl _) _) _) d) b⟩
theorem aHi (f s p c i pd a now d1 d2:Int)(w:World)(h0:0≤d1)(h2:0≤d2)(h3:a≤now)(h4:now≤9999)(h5:0≤a)(t1:(d1==0)=false)(t2:15<now-a)(t3:(d2==0)=true)
  (HA:Hid (∀w,Calls Tryz.prog 133 #[aR f s p c,bP i pd a,now] w fun e w'=>e= .returned (.int .i64 d1)∧Ext w w'))
  (HB:Hid (∀w,Calls Tryz.prog 133 #[aR f s p c,bP i pd a,a] w fun e w'=>e= .returned (.int .i64 d2)∧Ext w w')):
  Calls Tryz.prog 126 #[aR f s p c,bP i pd a,now] w fun e w'=>e= .returned (.bool false)∧Ext w w':=by
 go_enter Tryz.func126,Tryz.ntmps126
 go_wp2_with fail
 refine(HA _).mono ?_
 rintro e w1 ⟨rfl,g⟩
 have j:w.heap.size<w1.heap.size:=Nat.lt_of_lt_of_le (by simp;omega) g.sz
 have l:w.heap.size+1<w1.heap.size:=Nat.lt_of_lt_of_le (by simp) g.sz
 have q:=g.cells.1
 go_wp2_with fail
 refine(HA _).mono ?_
 rintro e w2 ⟨rfl,b⟩
 have h:=Nat.lt_of_lt_of_le j b.sz
 have k:=Nat.lt_of_lt_of_le l b.sz
 have m:=b.cells.1
 go_wp2_with fail
 refine(HB _).mono ?_
 rintro e w3 ⟨rfl,d⟩
 have o:=Nat.lt_of_lt_of_le h d.sz
 have n:=Nat.lt_of_lt_of_le k d.sz
 have r:=d.cells.1
 go_wp2
 go_ret
 exact⟨aU (by first|rfl|(simp;omega)),by exact .trans (.trans (.trans (.alloc (.alloc (.refl _) _) _) g) b) d⟩
theorem aHh (f s p c i pd a now d1 d2:Int)(w:World)(h0:0≤d1)(h2:0≤d2)(h3:a≤now)(h4:now≤9999)(h5:0≤a)(t1:(d1==0)=false)(t2:now-a≤15)(t3:(d2==0)=true)
  (HA:Hid (∀w,Calls Tryz.prog 133 #[aR f s p c,bP i pd a,now] w fun e w'=>e= .returned (.int .i64 d1)∧Ext w w'))
  (HB:Hid (∀w,Calls Tryz.prog 133 #[aR f s p c,bP i pd a,a] w fun e w'=>e= .returned (.int .i64 d2)∧Ext w w')):
  Calls Tryz.prog 126 #[aR f s p c,bP i pd a,now] w fun e w'=>e= .returned (.bool true)∧Ext w w':=by
 go_enter Tryz.func126,Tryz.ntmps126
 go_wp2_with fail
 refine(HA _).mono ?_
 rintro e w1 ⟨rfl,g⟩
 have j:w.heap.size<w1.heap.size:=Nat.lt_of_lt_of_le (by simp;omega) g.sz
 have l:w.heap.size+1<w1.heap.size:=Nat.lt_of_lt_of_le (by simp) g.sz
 have q:=g.cells.1
 go_wp2_with fail
 refine(HA _).mono ?_
 rintro e w2 ⟨rfl,b⟩
 have h:=Nat.lt_of_lt_of_le j b.sz
 have k:=Nat.lt_of_lt_of_le l b.sz
 have m:=b.cells.1
 go_wp2_with fail
 refine(HB _).mono ?_
 rintro e w3 ⟨rfl,d⟩
 have o:=Nat.lt_of_lt_of_le h d.sz
 have n:=Nat.lt_of_lt_of_le k d.sz
 have r:=d.cells.1
 go_wp2
 go_ret
 exact⟨aU (by first|rfl|(simp;omega)),by exact .trans (.trans (.trans (.alloc (.alloc (.refl _) _) _) g) b) d⟩
theorem aHg (f s p c i pd a now d1 d2:Int)(w:World)(h0:0≤d1)(h2:0≤d2)(h3:a≤now)(h4:now≤9999)(h5:0≤a)(t1:(d1==0)=false)(t2:15<now-a)(t3:(d2==0)=false)
  (HA:Hid (∀w,Calls Tryz.prog 133 #[aR f s p c,bP i pd a,now] w fun e w'=>e= .returned (.int .i64 d1)∧Ext w w'))
  (HB:Hid (∀w,Calls Tryz.prog 133 #[aR f s p c,bP i pd a,a] w fun e w'=>e= .returned (.int .i64 d2)∧Ext w w')):
  Calls Tryz.prog 126 #[aR f s p c,bP i pd a,now] w fun e w'=>e= .returned (.bool false)∧Ext w w':=by
 go_enter Tryz.func126,Tryz.ntmps126
 go_wp2_with fail
 refine(HA _).mono ?_
 rintro e w1 ⟨rfl,g⟩
 have j:w.heap.size<w1.heap.size:=Nat.lt_of_lt_of_le (by simp;omega) g.sz
 have l:w.heap.size+1<w1.heap.size:=Nat.lt_of_lt_of_le (by simp) g.sz
 have q:=g.cells.1
 go_wp2_with fail
 refine(HA _).mono ?_
 rintro e w2 ⟨rfl,b⟩
 have h:=Nat.lt_of_lt_of_le j b.sz
 have k:=Nat.lt_of_lt_of_le l b.sz
 have m:=b.cells.1
 go_wp2_with fail
 refine(HB _).mono ?_
 rintro e w3 ⟨rfl,d⟩
 have o:=Nat.lt_of_lt_of_le h d.sz
 have n:=Nat.lt_of_lt_of_le k d.sz
 have r:=d.cells.1
 go_wp2
 go_ret
 exact⟨aU (by first|rfl|(simp;omega)),by exact .trans (.trans (.trans (.alloc (.alloc (.refl _) _) _) g) b) d⟩
theorem aHf (f s p c i pd a now d1 d2:Int)(w:World)(h0:0≤d1)(h2:0≤d2)(h3:a≤now)(h4:now≤9999)(h5:0≤a)(t1:(d1==0)=false)(t2:now-a≤15)(t3:(d2==0)=false)
  (HA:Hid (∀w,Calls Tryz.prog 133 #[aR f s p c,bP i pd a,now] w fun e w'=>e= .returned (.int .i64 d1)∧Ext w w'))
  (HB:Hid (∀w,Calls Tryz.prog 133 #[aR f s p c,bP i pd a,a] w fun e w'=>e= .returned (.int .i64 d2)∧Ext w w')):
  Calls Tryz.prog 126 #[aR f s p c,bP i pd a,now] w fun e w'=>e= .returned (.bool false)∧Ext w w':=by
 go_enter Tryz.func126,Tryz.ntmps126
 go_wp2_with fail
 refine(HA _).mono ?_
 rintro e w1 ⟨rfl,g⟩
 have j:w.heap.size<w1.heap.size:=Nat.lt_of_lt_of_le (by simp;omega) g.sz
 have l:w.heap.size+1<w1.heap.size:=Nat.lt_of_lt_of_le (by simp) g.sz
 have q:=g.cells.1
 go_wp2_with fail
 refine(HA _).mono ?_
 rintro e w2 ⟨rfl,b⟩
 have h:=Nat.lt_of_lt_of_le j b.sz
 have k:=Nat.lt_of_lt_of_le l b.sz
 have m:=b.cells.1
 go_wp2_with fail
 refine(HB _).mono ?_
 rintro e w3 ⟨rfl,d⟩
 have o:=Nat.lt_of_lt_of_le h d.sz
 have n:=Nat.lt_of_lt_of_le k d.sz
 have r:=d.cells.1
 go_wp2
 go_ret
 exact⟨aU (by first|rfl|(simp;omega)),by exact .trans (.trans (.trans (.alloc (.alloc (.refl _) _) _) g) b) d⟩
theorem aLe (f s p c i pd a now:Int)(w:World)(h:aY f s p c=true)(h2:cS i pd a=true)(h3:a≤now)(h4:now≤9999):Calls Tryz.prog 126 #[aR f s p c,bP i pd a,now] w fun e w'=>e= .returned (.bool (jQ f s p c i pd a now))∧Ext w w':=by
 obtain⟨b1,b2,b3,b4,b5,b6⟩:=eK h2
 have e1:0≤bQ f s p c i pd a now:=by unfold bQ;rw[if_pos (by simp[h,h2,h3,h4])];omega
 have e2:0≤bQ f s p c i pd a a:=by unfold bQ;rw[if_pos (by simp[h,h2];omega)];omega
 have hr:jQ f s p c i pd a now=(decide (bQ f s p c i pd a now=0) || (decide (now-a≤15)&&decide (bQ f s p c i pd a a=0))):=by simp[jQ,e1]
 have hA:=fun w=>xP f s p c i pd a now w h h2 h3 h4
 have hB:=fun w=>xP f s p c i pd a a w h h2 (by omega) b6
 rw[hr]
 generalize bQ f s p c i pd a now=d1 at*
 generalize bQ f s p c i pd a a=d2 at*
 by_cases t1:d1=0
 ·rw[show(decide (d1=0) || (decide (now-a≤15)&&decide (d2=0)))=true by simp[t1]]
  exact aHj f s p c i pd a now d1 d2 w e1 e2 h3 h4 (by omega) (by simp[t1]) hA hB
 ·by_cases t2:now-a≤15
  ·by_cases t3:d2=0
   ·rw[show(decide (d1=0) || (decide (now-a≤15)&&decide (d2=0)))=true by simp[t2,t3]]
    exact aHh f s p c i pd a now d1 d2 w e1 e2 h3 h4 (by omega) (by simp[t1]) t2 (by simp[t3]) hA hB
   ·rw[show(decide (d1=0) || (decide (now-a≤15)&&decide (d2=0)))=false by simp[t1,t3]]
    exact aHf f s p c i pd a now d1 d2 w e1 e2 h3 h4 (by omega) (by simp[t1]) t2 (by simp[t3]) hA hB
  ·by_cases t3:d2=0
   ·rw[show(decide (d1=0) || (decide (now-a≤15)&&decide (d2=0)))=false by simp[t1,t2]]
    exact aHi f s p c i pd a now d1 d2 w e1 e2 h3 h4 (by omega) (by simp[t1]) (by omega) (by simp[t3]) hA hB
   ·rw[show(decide (d1=0) || (decide (now-a≤15)&&decide (d2=0)))=false by simp[t1,t2]]
    exact aHg f s p c i pd a now d1 d2 w e1 e2 h3 h4 (by omega) (by simp[t1]) (by omega) (by simp[t3]) hA hB
end Go.Proofs.YtgnkoffndhmhpaaGreatDoor
namespace Go.Proofs.YtgnkoffndhmhpaaGreatDoor
open Go.RowKit
set_option linter.unusedVariables false
def kP (x:Int):List Int→List Int
 | []=> [x]
 |y::ys=>if y<x then y::kP x ys else x::y::ys
def fA (xs:List Int):List Int:=xs.foldl (fun acc x=>kP x acc) []
def dB (xs:List Int):List Int:=xs.filter (fun x=>decide (0<x))
def cE (xs:List Int):List Int:=fA (dB xs)
theorem mA (x:Int): ∀xs,List.Perm (kP x xs) (x::xs):=by
 intro xs
 induction xs with
 |nil=>exact List.Perm.refl _
 |cons y ys ih=>
  unfold kP
  split
  ·exact(List.Perm.cons y ih).trans (List.Perm.swap x y ys)
  ·exact List.Perm.refl _
theorem sM (x:Int): ∀xs,xs.Pairwise (·≤ ·)→(kP x xs).Pairwise (·≤ ·):=by
 intro xs
 induction xs with
 |nil=>intro _;simp[kP]
 |cons y ys ih=>
  intro h
  rw[List.pairwise_cons]at h
  unfold kP
  split
  ·rename_i hlt
   rw[List.pairwise_cons]
   refine⟨fun z hz=> ?_,ih h.2⟩
   rcases List.mem_cons.1 ((mA x ys).mem_iff.1 hz)with rfl|hz
   ·omega
   ·exact h.1 z hz
  ·rename_i hge
   rw[List.pairwise_cons,List.pairwise_cons]
   refine⟨fun z hz=> ?_,h⟩
   rcases List.mem_cons.1 hz with rfl|hz
   ·omega
   ·have:=h.1 z hz;omega
theorem tU (xs:List Int)(x:Int):fA (xs++ [x])=kP x (fA xs):=by simp[fA,List.foldl_append]
theorem aA8 (xs:List Int):List.Perm (fA xs) xs∧(fA xs).Pairwise (·≤ ·):=by
 suffices h: ∀(n:Nat) (xs:List Int),xs.length=n→List.Perm (fA xs) xs∧(fA xs).Pairwise (·≤ ·)from h _ xs rfl
 intro n
 induction n with
 |zero=>intro xs h;obtain rfl:=List.eq_nil_of_length_eq_zero h;simp[fA]
 |succ n ih=>
  intro xs h
  have a:xs≠ []:=by intro e;rw[e]at h;simp at h
  rw[←List.dropLast_concat_getLast a,tU]
  obtain⟨h1,h2⟩:=ih xs.dropLast (by simp[h])
  refine⟨?_,sM _ _ h2⟩
  exact(mA _ _).trans ((List.Perm.cons _ h1).trans (List.perm_append_singleton _ _).symm)
theorem fY (xs:List Int):List.Perm (fA xs) xs:=(aA8 xs).1
theorem kD (xs:List Int):(fA xs).Pairwise (·≤ ·):=(aA8 xs).2
theorem wD (xs:List Int):(fA xs).length=xs.length:=(fY xs).length_eq
theorem kZ (xs:List Int)(x:Int):dB (xs++ [x])=dB xs++(if 0<x then [x]else []):=by
 unfold dB;rw[List.filter_append];congr 1
 by_cases h:0<x<;>simp[h]
theorem jF (xs:List Int):(dB xs).length≤xs.length:=List.length_filter_le _ _
theorem iC (xs:List Int):(cE xs).length=(dB xs).length:=wD _
theorem mI {xs ys:List Int}(h:List.Perm ys xs)(hs:ys.Pairwise (·≤ ·)):ys=fA xs:=
 List.Perm.eq_of_pairwise (fun a b _ _ h1 h2=>Int.le_antisymm h1 h2) hs (kD xs) (h.trans (fY xs).symm)
abbrev aP:=Int×Int×Int×Int
def aE (v:aP):List Value:= [.int .i64 v.1,.int .i64 v.2.1,.int .i64 v.2.2.1,.int .i64 v.2.2.2]
structure aO where
 aA:Int
 aB:Int
 cells:List Int
 free:Int
 step:Int
 aD:Int
 aG:Int
 aC:Int
 aF:Int
 vs:List aP
def eV (aC:Int)(v:aP):Bool:=cS v.2.1 v.2.2.1 v.2.2.2&&decide (v.2.2.2≤aC)
def bY (aC:Int):List Int→List aP→Bool
 | [],[]=>true
 |c::cs,v::vs=>decide (v.1=c)&&eV aC v&&bY aC cs vs
 |_,_=>false
def jZ (h:aO):Bool:=decide (0≤h.aC∧h.aC≤9999∧0≤h.aF∧h.aF≤99999)
def aS (h:aO):Bool:=aN h.aA h.aB h.cells&&aY h.free h.step h.aD h.aG&&jZ h&&bY h.aC (cE h.cells) h.vs
def iK:aO:=⟨0,0,[],0,0,0,0,0,0,[]⟩
theorem sE {aC:Int}{cs:List Int}{vs:List aP}{k:Nat}{c:Int}{v:aP}(hc:cs[k]? =some c) (hv:vs[k]? =some v):
  bY aC (cs.drop k) (vs.drop k)=(decide (v.1=c)&&eV aC v&&bY aC (cs.drop (k+1)) (vs.drop (k+1))):=by
 rw[oQ hc,oQ hv];rfl
theorem kC {aC:Int}: ∀ {cs:List Int} {vs:List aP},bY aC cs vs=true→vs.map (·.1)=cs∧ ∀v∈vs,eV aC v=true:=by
 intro cs
 induction cs with
 |nil=>intro vs h;cases vs with
  |nil=>simp
  |cons v vs=>simp[bY]at h
 |cons c cs ih=>
  intro vs h
  cases vs with
  |nil=>simp[bY]at h
  |cons v vs=>
   simp only[bY,Bool.and_eq_true,decide_eq_true_eq]at h
   obtain⟨⟨h1,h2⟩,h3⟩:=h
   obtain⟨i1,i2⟩:=ih h3
   refine⟨by simp[h1,i1],fun x hx=> ?_⟩
   rcases List.mem_cons.1 hx with rfl|hx
   ·exact h2
   ·exact i2 x hx
theorem sD {aC:Int}{cs:List Int}{vs:List aP}(h:cs.length≠vs.length):bY aC cs vs=false:=by
 cases hh:bY aC cs vs with
 |false=>rfl
 |true=>
  have:=congrArg List.length (kC hh).1
  simp at this
  omega
def bS (id:Int)(vs:List aP):Option aP:=vs.find? (fun v=>v.1==id)
def cP (h:aO)(id:Int):Option (Int×Int×Int):=if aS h then(bS id h.vs).map (·.2)else none
def aQ (h:aO)(id:Int):Int:=match cP h id with
 |some s=>bQ h.free h.step h.aD h.aG s.1 s.2.1 s.2.2 h.aC
 |none=> -1
def dJ (h:aO)(id:Int):Bool:=match cP h id with
 |some s=>jQ h.free h.step h.aD h.aG s.1 s.2.1 s.2.2 h.aC
 |none=>false
def nV (h:aO)(v:aP):Int:=bQ h.free h.step h.aD h.aG v.2.1 v.2.2.1 v.2.2.2 h.aC
def oH (h:aO)(vs:List aP):Int:=vs.foldl (fun a v=>a+nV h v) 0
def cL (h:aO):Int:=if aS h then oH h h.vs else -1
def cA (h:aO):List Int:=if aS h then
  (if(0:Int)∈h.cells then cE h.cells else h.cells.headD 0::(cE h.cells).filter (fun x=>x !=h.cells.headD 0))else []
end Go.Proofs.YtgnkoffndhmhpaaGreatDoor
