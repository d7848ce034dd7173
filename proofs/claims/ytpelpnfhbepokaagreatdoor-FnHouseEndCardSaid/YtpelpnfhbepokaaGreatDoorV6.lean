/-
  Texts of this proof, packed (@packed).
-/
import Derived.WalkLawsBesides
import Derived.Test.YtpelpnfhbepokaaGreatDoorV5
namespace Go.Proofs.YtpelpnfhbepokaaGreatDoor
open Go.RowKit
set_option linter.unusedVariables false
set_option maxHeartbeats 8000000
set_option maxRecDepth 100000
def bD (f s p c:Int):Bool:=decide (0≤f∧f<1440∧1≤s∧s≤1440∧0≤p∧p≤99∧0≤c∧c≤99)
def cW (i p a:Int):Bool:=decide (0≤i∧i≤9999∧0≤p∧p≤9999∧i≤a∧a≤9999)
def eS (f s m:Int):Int:=if m≤f then 0 else(m-f+s-1)/s
def lD (f s p c m:Int):Int:=m/1440*c+min (eS f s (m%1440)*p) c
def bX (f s p c i pd a now:Int):Int:=if bD f s p c&&cW i pd a&&decide (a≤now∧now≤9999)then max (lD f s p c (now-i)-pd) 0 else -1
def jM (f s p c i pd a now:Int):Bool:=
 decide (bX f s p c i pd a now=0) || (decide (0≤bX f s p c i pd a now)&&decide (now-a≤15)&&decide (bX f s p c i pd a a=0))
abbrev aQ (f s p c:Int):Value:= .agg #[f,s,p,c]
abbrev bP (i p a:Int):Value:= .agg #[i,p,a]
theorem iO {f s p c:Int}(h:bD f s p c=true):0≤f∧f<1440∧1≤s∧s≤1440∧0≤p∧p≤99∧0≤c∧c≤99:=by simpa[bD]using h
theorem eT {i p a:Int}(h:cW i p a=true):0≤i∧i≤9999∧0≤p∧p≤9999∧i≤a∧a≤9999:=by simpa[cW]using h
theorem iJ {f s m:Int}(h0:0≤f)(h1:1≤s)(hm:m≤9999):0≤eS f s m∧eS f s m≤9999:=by
 unfold eS;split
 ·omega
 refine⟨Int.ediv_nonneg (by omega) (by omega),?_⟩;have:(m-f+s-1)/s≤m-f:=by
  apply Int.ediv_le_of_le_mul (by omega);have:(m-f)*s≥(m-f)*1:=Int.mul_le_mul_of_nonneg_left h1 (by omega);have h2:(m-f)*s=(m-f-1)*s+s:=by rw[Int.sub_mul (m-f) 1 s];omega
  have h3:(m-f-1)*s≥(m-f-1)*1:=Int.mul_le_mul_of_nonneg_left h1 (by omega);omega
 omega
theorem yU {f s m:Int}(h1:1≤s):(max (m-f) 0+s-1)/s=eS f s m:=by
 unfold eS;split
 ·rw[show max (m-f) 0=0 by omega];exact Int.ediv_eq_zero_of_lt (by omega) (by omega)
 rw[show max (m-f) 0=m-f by omega]
theorem rP {x p:Int}(hx:0≤x)(a:x≤9999)(h0:0≤p)(h1:p≤99):0≤x*p∧x*p≤989901:=by refine⟨Int.mul_nonneg hx h0,?_⟩;have:=Int.mul_le_mul a h1 h0 (by omega);omega
theorem nL {f s p c m:Int}(h:bD f s p c=true)(h0:0≤m)(h1:m≤9999):0≤lD f s p c m∧lD f s p c m≤693:=by obtain⟨a1,a2,a3,a4,a5,a6,a7,a8⟩:=iO h;obtain⟨b1,b2⟩:=iJ (m:=m%1440) a1 a3 (by omega);obtain⟨d1,d2⟩:=rP b1 b2 a5 a6;unfold lD;have e1:0≤m/1440*c:=Int.mul_nonneg (by omega) a7;have e2:m/1440*c≤6*99:=Int.mul_le_mul (by omega) a8 a7 (by omega);omega
theorem yG (f s p c:Int)(w:World):Calls Tryz.prog 51 #[aQ f s p c] w fun e w'=>e= .returned (.bool (bD f s p c))∧Ext w w':=by
 by_cases c1:0≤f
 ·by_cases c2:f<1440
  ·by_cases c3:1≤s
   ·by_cases c4:s≤1440
    ·by_cases c5:0≤p
     ·by_cases c6:p≤99
      ·by_cases c7:0≤c
       ·by_cases c8:c≤99
        ·go_enter Tryz.func51,Tryz.ntmps51;go_wp2;go_ret;exact⟨aR (by simp[bD];omega),by exact .alloc (.refl _) _⟩
        go_enter Tryz.func51,Tryz.ntmps51;go_wp2;go_ret;exact⟨aR (by simp[bD];omega),by exact .alloc (.refl _) _⟩
       go_enter Tryz.func51,Tryz.ntmps51;go_wp2;go_ret;exact⟨aR (by simp[bD];omega),by exact .alloc (.refl _) _⟩
      go_enter Tryz.func51,Tryz.ntmps51;go_wp2;go_ret;exact⟨aR (by simp[bD];omega),by exact .alloc (.refl _) _⟩
     go_enter Tryz.func51,Tryz.ntmps51;go_wp2;go_ret;exact⟨aR (by simp[bD];omega),by exact .alloc (.refl _) _⟩
    go_enter Tryz.func51,Tryz.ntmps51;go_wp2;go_ret;exact⟨aR (by simp[bD];omega),by exact .alloc (.refl _) _⟩
   go_enter Tryz.func51,Tryz.ntmps51;go_wp2;go_ret;exact⟨aR (by simp[bD];omega),by exact .alloc (.refl _) _⟩
  go_enter Tryz.func51,Tryz.ntmps51;go_wp2;go_ret;exact⟨aR (by simp[bD];omega),by exact .alloc (.refl _) _⟩
 go_enter Tryz.func51,Tryz.ntmps51;go_wp2;go_ret;exact⟨aR (by simp[bD];omega),by exact .alloc (.refl _) _⟩
theorem tS (f s p c:Int)(w:World):Calls Tryz.prog 42 #[aQ f s p c] w fun e w'=>e= .returned (.bool (bD f s p c))∧Ext w w':=by
 by_cases c1:0≤f
 ·by_cases c2:f<1440
  ·by_cases c3:1≤s
   ·by_cases c4:s≤1440
    ·by_cases c5:0≤p
     ·by_cases c6:p≤99
      ·by_cases c7:0≤c
       ·by_cases c8:c≤99
        ·go_enter Tryz.func42,Tryz.ntmps42;go_wp2_with go_in;go_ret;exact⟨aR (by simp[bD];omega),by exact .alloc (.refl _) _⟩
        go_enter Tryz.func42,Tryz.ntmps42;go_wp2_with go_in;go_ret;exact⟨aR (by simp[bD];omega),by exact .alloc (.refl _) _⟩
       go_enter Tryz.func42,Tryz.ntmps42;go_wp2_with go_in;go_ret;exact⟨aR (by simp[bD];omega),by exact .alloc (.refl _) _⟩
      go_enter Tryz.func42,Tryz.ntmps42;go_wp2_with go_in;go_ret;exact⟨aR (by simp[bD];omega),by exact .alloc (.refl _) _⟩
     go_enter Tryz.func42,Tryz.ntmps42;go_wp2_with go_in;go_ret;exact⟨aR (by simp[bD];omega),by exact .alloc (.refl _) _⟩
    go_enter Tryz.func42,Tryz.ntmps42;go_wp2_with go_in;go_ret;exact⟨aR (by simp[bD];omega),by exact .alloc (.refl _) _⟩
   go_enter Tryz.func42,Tryz.ntmps42;go_wp2_with go_in;go_ret;exact⟨aR (by simp[bD];omega),by exact .alloc (.refl _) _⟩
  go_enter Tryz.func42,Tryz.ntmps42;go_wp2_with go_in;go_ret;exact⟨aR (by simp[bD];omega),by exact .alloc (.refl _) _⟩
 go_enter Tryz.func42,Tryz.ntmps42;go_wp2_with go_in;go_ret;exact⟨aR (by simp[bD];omega),by exact .alloc (.refl _) _⟩
theorem aIb (i p a:Int)(w:World):Calls Tryz.prog 54 #[bP i p a] w fun e w'=>e= .returned (.bool (cW i p a))∧Ext w w':=by
 by_cases c1:0≤i
 ·by_cases c2:i≤9999
  ·by_cases c3:0≤p
   ·by_cases c4:p≤9999
    ·by_cases c5:i≤a
     ·by_cases c6:a≤9999
      ·go_enter Tryz.func54,Tryz.ntmps54;go_wp2;go_ret;exact⟨aR (by simp[cW];omega),by exact .alloc (.refl _) _⟩
      go_enter Tryz.func54,Tryz.ntmps54;go_wp2;go_ret;exact⟨aR (by simp[cW];omega),by exact .alloc (.refl _) _⟩
     go_enter Tryz.func54,Tryz.ntmps54;go_wp2;go_ret;exact⟨aR (by simp[cW];omega),by exact .alloc (.refl _) _⟩
    go_enter Tryz.func54,Tryz.ntmps54;go_wp2;go_ret;exact⟨aR (by simp[cW];omega),by exact .alloc (.refl _) _⟩
   go_enter Tryz.func54,Tryz.ntmps54;go_wp2;go_ret;exact⟨aR (by simp[cW];omega),by exact .alloc (.refl _) _⟩
  go_enter Tryz.func54,Tryz.ntmps54;go_wp2;go_ret;exact⟨aR (by simp[cW];omega),by exact .alloc (.refl _) _⟩
 go_enter Tryz.func54,Tryz.ntmps54;go_wp2;go_ret;exact⟨aR (by simp[cW];omega),by exact .alloc (.refl _) _⟩
theorem aH0 (i p a:Int)(w:World):Calls Tryz.prog 44 #[bP i p a] w fun e w'=>e= .returned (.bool (cW i p a))∧Ext w w':=by
 by_cases c1:0≤i
 ·by_cases c2:i≤9999
  ·by_cases c3:0≤p
   ·by_cases c4:p≤9999
    ·by_cases c5:i≤a
     ·by_cases c6:a≤9999
      ·go_enter Tryz.func44,Tryz.ntmps44;go_wp2_with go_in;go_ret;exact⟨aR (by simp[cW];omega),by exact .alloc (.refl _) _⟩
      go_enter Tryz.func44,Tryz.ntmps44;go_wp2_with go_in;go_ret;exact⟨aR (by simp[cW];omega),by exact .alloc (.refl _) _⟩
     go_enter Tryz.func44,Tryz.ntmps44;go_wp2_with go_in;go_ret;exact⟨aR (by simp[cW];omega),by exact .alloc (.refl _) _⟩
    go_enter Tryz.func44,Tryz.ntmps44;go_wp2_with go_in;go_ret;exact⟨aR (by simp[cW];omega),by exact .alloc (.refl _) _⟩
   go_enter Tryz.func44,Tryz.ntmps44;go_wp2_with go_in;go_ret;exact⟨aR (by simp[cW];omega),by exact .alloc (.refl _) _⟩
  go_enter Tryz.func44,Tryz.ntmps44;go_wp2_with go_in;go_ret;exact⟨aR (by simp[cW];omega),by exact .alloc (.refl _) _⟩
 go_enter Tryz.func44,Tryz.ntmps44;go_wp2_with go_in;go_ret;exact⟨aR (by simp[cW];omega),by exact .alloc (.refl _) _⟩
theorem aIl (f s p c m:Int)(w:World)(h:bD f s p c=true)(h0:0≤m)(h1:m≤9999):Calls Tryz.prog 52 #[aQ f s p c,m] w fun e w'=>e= .returned (.int .i64 (eS f s m))∧Ext w w':=by
 obtain⟨a1,a2,a3,a4,a5,a6,a7,a8⟩:=iO h;have HT:Hid (∀w,Calls Tryz.prog 51 #[aQ f s p c] w fun e w'=>e= .returned (.bool true)∧Ext w w'):=fun w=>by rw[←h];exact yG f s p c w
 have HB:=xQ (iJ (m:=m) a1 a3 h1);clear h;by_cases hm:m≤f
 ·have hf:Hid (eS f s m=0):=if_pos hm;go_enter Tryz.func52,Tryz.ntmps52;go_wp2_with fail;refine(HT _).mono ?_;rintro e w1 ⟨rfl,a⟩;have b:=a.cells.1;go_wp2;go_ret;exact⟨fC hf.out.symm,by exact .trans (.alloc (.refl _) _) a⟩
 have hf:Hid (eS f s m=(m-f+s-1)/s):=if_neg hm;go_enter Tryz.func52,Tryz.ntmps52;go_wp2_with fail;refine(HT _).mono ?_;rintro e w1 ⟨rfl,a⟩;have b:=a.cells.1;go_wp2;go_ret;exact⟨fC hf.out.symm,by exact .trans (.alloc (.refl _) _) a⟩
theorem aHd (f s p c m:Int)(w:World)(h:bD f s p c=true)(h0:0≤m)(h1:m≤9999):Calls Tryz.prog 219 #[aQ f s p c,m] w fun e w'=>e= .returned (.int .i64 (eS f s m))∧Ext w w':=by
 obtain⟨a1,a2,a3,a4,a5,a6,a7,a8⟩:=iO h;have HT:Hid (∀w,Calls Tryz.prog 42 #[aQ f s p c] w fun e w'=>e= .returned (.bool true)∧Ext w w'):=fun w=>by rw[←h];exact tS f s p c w
 have hf:=xQ (yU (f:=f) (m:=m) a3);clear h;go_enter Tryz.func219,Tryz.ntmps219;go_wp2_with (first|(go_at_call 42;refine(HT _).mono ?_;rintro e w1 ⟨rfl,a⟩;have b:=a.cells.1)|go_in);all_goals go_ret
 all_goals exact⟨fC (by rw[←hf.out];congr 1;omega),by exact .trans (.alloc (.refl _) _) a⟩
theorem aL7 (f s p c m:Int)(w:World)(h:bD f s p c=true)(h0:0≤m)(h1:m≤9999):Calls Tryz.prog 17 #[aQ f s p c,m] w fun e w'=>e= .returned (.int .i64 (lD f s p c m))∧Ext w w':=by
 obtain⟨a1,a2,a3,a4,a5,a6,a7,a8⟩:=iO h;have HT:Hid (∀w,Calls Tryz.prog 51 #[aQ f s p c] w fun e w'=>e= .returned (.bool true)∧Ext w w'):=fun w=>by rw[←h];exact yG f s p c w
 obtain⟨q,hq⟩: ∃q,q=eS f s (m%1440):=⟨_,rfl⟩
 have g:0≤q∧q≤9999:=by rw[hq];exact iJ a1 a3 (by omega)
 obtain⟨q2,d⟩: ∃q,q=eS f s m:=⟨_,rfl⟩
 have j:0≤q2∧q2≤9999:=by rw[d];exact iJ a1 a3 (by omega)
 have HF:Hid (∀w,Calls Tryz.prog 52 #[aQ f s p c,(m%1440:Int)] w fun e w'=>e= .returned (.int .i64 q)∧Ext w w'):=fun w=>by rw[hq];exact aIl f s p c _ w h (by omega) (by omega)
 have k:Hid (∀w,Calls Tryz.prog 52 #[aQ f s p c,m] w fun e w'=>e= .returned (.int .i64 q2)∧Ext w w'):=fun w=>by rw[d];exact aIl f s p c _ w h (by omega) (by omega)
 have b:lD f s p c m=m/1440*c+min (q*p) c:=by rw[hq];rfl
 rw[b];obtain⟨b1,b2⟩:=rP g.1 g.2 a5 a6;have b3:0≤m/1440*c:=Int.mul_nonneg (by omega) a7;have b4:m/1440*c≤6*99:=Int.mul_le_mul (by omega) a8 a7 (by omega);clear hq d b h;go_enter Tryz.func17,Tryz.ntmps17;go_wp2_with fail;refine(HT _).mono ?_;rintro e w1 ⟨rfl,a⟩;have n:w.heap.size<w1.heap.size:=Nat.lt_of_lt_of_le (by simp) a.sz;have e0:w1.cell? ⟨w.heap.size,0,none⟩=some (.int .i64 f):=by rw[a.cells.1 _ _ (by simp)];simp
 have e1:w1.cell? ⟨w.heap.size,1,none⟩=some (.int .i64 s):=by rw[a.cells.1 _ _ (by simp)];simp
 have e2:w1.cell? ⟨w.heap.size,2,none⟩=some (.int .i64 p):=by rw[a.cells.1 _ _ (by simp)];simp
 have e3:w1.cell? ⟨w.heap.size,3,none⟩=some (.int .i64 c):=by rw[a.cells.1 _ _ (by simp)];simp
 go_wp2_with fail;have hq:=IntWalk.i64_quo m 1440 ⟨h0,by omega,by omega⟩;have hr:=IntWalk.rem_in m 1440 h0;have i:IntKind.i64.wrap (m%1440)=m%1440:=IntWalk.i64_in _ (by omega);have k1:IntKind.i64.wrap (q*p)=q*p:=IntWalk.i64_in _ (by omega);have k2:IntKind.i64.wrap (m/1440*c)=m/1440*c:=IntWalk.i64_in _ (by omega);have k3:IntKind.i64.wrap (m/1440*c+c)=m/1440*c+c:=IntWalk.i64_in _ (by omega);have k4:IntKind.i64.wrap (m/1440*c+q*p)=m/1440*c+q*p:=IntWalk.i64_in _ (by omega)
 go_region_held3 (fun w'=>w'.cell? ⟨w.heap.size,0,none⟩=some (.int .i64 f)∧w'.cell? ⟨w.heap.size,1,none⟩=some (.int .i64 s)∧w'.cell? ⟨w.heap.size,2,none⟩=some (.int .i64 p)∧w'.cell? ⟨w.heap.size,3,none⟩=some (.int .i64 c)) (go_keep)
  ((go_at_call 52;refine(HF _).mono ?_;rintro e w2 ⟨rfl,h2⟩;(try replace h2:=h2.of_drew);have l:=h2.cells.1;have o:w.heap.size<w2.heap.size:=Nat.lt_of_lt_of_le (by assumption) h2.sz))
 all_goals clear hq hr i k1 k2 k3 k4
 all_goals go_wp2
 all_goals go_ret
 all_goals exact⟨fC (by first|omega|(rw[IntWalk.i64_in _ (by omega)];omega)),by exact .trans (.trans (.alloc (.refl _) _) a) h2⟩
theorem aKv (f s p c m:Int)(w:World)(h:bD f s p c=true)(h0:0≤m)(h1:m≤9999):Calls Tryz.prog 192 #[aQ f s p c,m] w fun e w'=>e= .returned (.int .i64 (lD f s p c m))∧Ext w w':=by
 obtain⟨a1,a2,a3,a4,a5,a6,a7,a8⟩:=iO h;have HT:Hid (∀w,Calls Tryz.prog 42 #[aQ f s p c] w fun e w'=>e= .returned (.bool true)∧Ext w w'):=fun w=>by rw[←h];exact tS f s p c w
 obtain⟨q,hq⟩: ∃q,q=eS f s (m%1440):=⟨_,rfl⟩
 have g:0≤q∧q≤9999:=by rw[hq];exact iJ a1 a3 (by omega)
 obtain⟨q2,d⟩: ∃q,q=eS f s m:=⟨_,rfl⟩
 have k:0≤q2∧q2≤9999:=by rw[d];exact iJ a1 a3 (by omega)
 have HF:Hid (∀w,Calls Tryz.prog 219 #[aQ f s p c,(m%1440:Int)] w fun e w'=>e= .returned (.int .i64 q)∧Ext w w'):=fun w=>by rw[hq];exact aHd f s p c _ w h (by omega) (by omega)
 have i:Hid (∀w,Calls Tryz.prog 219 #[aQ f s p c,m] w fun e w'=>e= .returned (.int .i64 q2)∧Ext w w'):=fun w=>by rw[d];exact aHd f s p c _ w h (by omega) (by omega)
 have b:lD f s p c m=m/1440*c+min (q*p) c:=by rw[hq];rfl
 rw[b];obtain⟨b1,b2⟩:=rP g.1 g.2 a5 a6;have b3:0≤m/1440*c:=Int.mul_nonneg (by omega) a7;have b4:m/1440*c≤6*99:=Int.mul_le_mul (by omega) a8 a7 (by omega);clear hq d b h;go_enter Tryz.func192,Tryz.ntmps192;go_wp2_with fail;refine(i _).mono ?_;rintro e w1 ⟨rfl,a⟩;have n:w.heap.size<w1.heap.size:=Nat.lt_of_lt_of_le (by simp) a.sz;have e0:w1.cell? ⟨w.heap.size,0,none⟩=some (.int .i64 f):=by rw[a.cells.1 _ _ (by simp)];simp
 have e1:w1.cell? ⟨w.heap.size,1,none⟩=some (.int .i64 s):=by rw[a.cells.1 _ _ (by simp)];simp
 have e2:w1.cell? ⟨w.heap.size,2,none⟩=some (.int .i64 p):=by rw[a.cells.1 _ _ (by simp)];simp
 have e3:w1.cell? ⟨w.heap.size,3,none⟩=some (.int .i64 c):=by rw[a.cells.1 _ _ (by simp)];simp
 go_wp2_with fail;have hq:=IntWalk.i64_quo m 1440 ⟨h0,by omega,by omega⟩;have hr:=IntWalk.rem_in m 1440 h0;have j:IntKind.i64.wrap (m%1440)=m%1440:=IntWalk.i64_in _ (by omega);have k1:IntKind.i64.wrap (q*p)=q*p:=IntWalk.i64_in _ (by omega);have k2:IntKind.i64.wrap (m/1440*c)=m/1440*c:=IntWalk.i64_in _ (by omega);have k3:IntKind.i64.wrap (m/1440*c+c)=m/1440*c+c:=IntWalk.i64_in _ (by omega);have k4:IntKind.i64.wrap (m/1440*c+q*p)=m/1440*c+q*p:=IntWalk.i64_in _ (by omega)
 go_region_held3 (fun w'=>w'.cell? ⟨w.heap.size,0,none⟩=some (.int .i64 f)∧w'.cell? ⟨w.heap.size,1,none⟩=some (.int .i64 s)∧w'.cell? ⟨w.heap.size,2,none⟩=some (.int .i64 p)∧w'.cell? ⟨w.heap.size,3,none⟩=some (.int .i64 c)) (go_keep)
  ((go_at_call 219;refine(HF _).mono ?_;rintro e w2 ⟨rfl,h2⟩;(try replace h2:=h2.of_drew);have l:=h2.cells.1;have o:w.heap.size<w2.heap.size:=Nat.lt_of_lt_of_le (by assumption) h2.sz))
 all_goals clear hq hr j k1 k2 k3 k4
 all_goals go_wp2
 all_goals go_ret
 all_goals exact⟨fC (by first|omega|(rw[IntWalk.i64_in _ (by omega)];omega)),by exact .trans (.trans (.alloc (.refl _) _) a) h2⟩
theorem uJ (f s p c i pd a now:Int)(w:World)(h:bD f s p c=true)(h2:cW i pd a=true)(h3:a≤now)(h4:now≤9999):Calls Tryz.prog 57 #[aQ f s p c,bP i pd a,now] w fun e w'=>e= .returned (.int .i64 (bX f s p c i pd a now))∧Ext w w':=by
 obtain⟨b1,b2,b3,b4,b5,b6⟩:=eT h2;have HT:Hid (∀w,Calls Tryz.prog 51 #[aQ f s p c] w fun e w'=>e= .returned (.bool true)∧Ext w w'):=fun w=>by rw[←h];exact yG f s p c w
 have HS:Hid (∀w,Calls Tryz.prog 54 #[bP i pd a] w fun e w'=>e= .returned (.bool true)∧Ext w w'):=fun w=>by rw[←h2];exact aIb i pd a w
 obtain⟨q,hq⟩: ∃q,q=lD f s p c (now-i):=⟨_,rfl⟩
 have o:0≤q∧q≤693:=by rw[hq];exact nL h (by omega) (by omega)
 have HF:Hid (∀w,Calls Tryz.prog 17 #[aQ f s p c,(now-i:Int)] w fun e w'=>e= .returned (.int .i64 q)∧Ext w w'):=fun w=>by rw[hq];exact aL7 f s p c _ w h (by omega) (by omega)
 have j:bX f s p c i pd a now=max (q-pd) 0:=by rw[hq];simp[bX,h,h2,h3,h4]
 rw[j];clear hq j h h2;go_enter Tryz.func57,Tryz.ntmps57;go_wp2_with fail;refine(HT _).mono ?_;rintro e w1 ⟨rfl,b⟩;have k:w.heap.size<w1.heap.size:=Nat.lt_of_lt_of_le (by simp;omega) b.sz;have l:w.heap.size+1<w1.heap.size:=Nat.lt_of_lt_of_le (by simp) b.sz;have e0:w1.cell? ⟨w.heap.size,0,none⟩=some (.int .i64 f):=by rw[b.cells.1 _ _ (by simp;omega)];simp
 have e1:w1.cell? ⟨w.heap.size,1,none⟩=some (.int .i64 s):=by rw[b.cells.1 _ _ (by simp;omega)];simp
 have e2:w1.cell? ⟨w.heap.size,2,none⟩=some (.int .i64 p):=by rw[b.cells.1 _ _ (by simp;omega)];simp
 have e3:w1.cell? ⟨w.heap.size,3,none⟩=some (.int .i64 c):=by rw[b.cells.1 _ _ (by simp;omega)];simp
 have g0:w1.cell? ⟨w.heap.size+1,0,none⟩=some (.int .i64 i):=by rw[b.cells.1 _ _ (by simp)];simp
 have g1:w1.cell? ⟨w.heap.size+1,1,none⟩=some (.int .i64 pd):=by rw[b.cells.1 _ _ (by simp)];simp
 have g2:w1.cell? ⟨w.heap.size+1,2,none⟩=some (.int .i64 a):=by rw[b.cells.1 _ _ (by simp)];simp
 go_wp2_with (first|(go_at_call 54;refine(HS _).mono ?_;rintro e w2 ⟨rfl,g⟩;have m:=g.cells.1;have r:w.heap.size<w2.heap.size:=Nat.lt_of_lt_of_le k g.sz;have t:w.heap.size+1<w2.heap.size:=Nat.lt_of_lt_of_le l g.sz)|go_in);have k1:IntKind.i64.wrap (now-i)=now-i:=IntWalk.i64_in _ (by omega);have k2:IntKind.i64.wrap (q-pd)=q-pd:=IntWalk.i64_in _ (by omega)
 go_region_held3 (fun w'=>w'.cell? ⟨w.heap.size,0,none⟩=some (.int .i64 f)∧w'.cell? ⟨w.heap.size,1,none⟩=some (.int .i64 s)∧w'.cell? ⟨w.heap.size,2,none⟩=some (.int .i64 p)∧w'.cell? ⟨w.heap.size,3,none⟩=some (.int .i64 c)∧w'.cell? ⟨w.heap.size+1,0,none⟩=some (.int .i64 i)∧w'.cell? ⟨w.heap.size+1,1,none⟩=some (.int .i64 pd)) (go_keep)
  ((go_at_call 17;refine(HF _).mono ?_;rintro e w3 ⟨rfl,d⟩;(try replace d:=d.of_drew);have n:=d.cells.1;have u:w.heap.size<w3.heap.size:=Nat.lt_of_lt_of_le (by assumption) d.sz;have v:w.heap.size+1<w3.heap.size:=Nat.lt_of_lt_of_le (by assumption) d.sz))
 all_goals clear k1 k2
 all_goals go_wp2
 all_goals go_ret
 all_goals exact⟨fC (by omega),by exact .trans (.trans (.trans (.alloc (.alloc (.refl _) _) _) b) g) d⟩
theorem xK (f s p c i pd a now:Int)(w:World)(h:bD f s p c=true)(h2:cW i pd a=true)(h3:a≤now)(h4:now≤9999):Calls Tryz.prog 152 #[aQ f s p c,bP i pd a,now] w fun e w'=>e= .returned (.int .i64 (bX f s p c i pd a now))∧Ext w w':=by
 obtain⟨b1,b2,b3,b4,b5,b6⟩:=eT h2;have HT:Hid (∀w,Calls Tryz.prog 42 #[aQ f s p c] w fun e w'=>e= .returned (.bool true)∧Ext w w'):=fun w=>by rw[←h];exact tS f s p c w
 have HS:Hid (∀w,Calls Tryz.prog 44 #[bP i pd a] w fun e w'=>e= .returned (.bool true)∧Ext w w'):=fun w=>by rw[←h2];exact aH0 i pd a w
 obtain⟨q,hq⟩: ∃q,q=lD f s p c (now-i):=⟨_,rfl⟩
 have o:0≤q∧q≤693:=by rw[hq];exact nL h (by omega) (by omega)
 have HF:Hid (∀w,Calls Tryz.prog 192 #[aQ f s p c,(now-i:Int)] w fun e w'=>e= .returned (.int .i64 q)∧Ext w w'):=fun w=>by rw[hq];exact aKv f s p c _ w h (by omega) (by omega)
 have j:bX f s p c i pd a now=max (q-pd) 0:=by rw[hq];simp[bX,h,h2,h3,h4]
 rw[j];clear hq j h h2;go_enter Tryz.func152,Tryz.ntmps152;go_wp2_with fail;refine(HT _).mono ?_;rintro e w1 ⟨rfl,b⟩;have k:w.heap.size<w1.heap.size:=Nat.lt_of_lt_of_le (by simp;omega) b.sz;have l:w.heap.size+1<w1.heap.size:=Nat.lt_of_lt_of_le (by simp) b.sz;have e0:w1.cell? ⟨w.heap.size,0,none⟩=some (.int .i64 f):=by rw[b.cells.1 _ _ (by simp;omega)];simp
 have e1:w1.cell? ⟨w.heap.size,1,none⟩=some (.int .i64 s):=by rw[b.cells.1 _ _ (by simp;omega)];simp
 have e2:w1.cell? ⟨w.heap.size,2,none⟩=some (.int .i64 p):=by rw[b.cells.1 _ _ (by simp;omega)];simp
 have e3:w1.cell? ⟨w.heap.size,3,none⟩=some (.int .i64 c):=by rw[b.cells.1 _ _ (by simp;omega)];simp
 have g0:w1.cell? ⟨w.heap.size+1,0,none⟩=some (.int .i64 i):=by rw[b.cells.1 _ _ (by simp)];simp
 have g1:w1.cell? ⟨w.heap.size+1,1,none⟩=some (.int .i64 pd):=by rw[b.cells.1 _ _ (by simp)];simp
 have g2:w1.cell? ⟨w.heap.size+1,2,none⟩=some (.int .i64 a):=by rw[b.cells.1 _ _ (by simp)];simp
 go_wp2_with (first|(go_at_call 44;refine(HS _).mono ?_;rintro e w2 ⟨rfl,g⟩;have m:=g.cells.1;have r:w.heap.size<w2.heap.size:=Nat.lt_of_lt_of_le k g.sz;have t:w.heap.size+1<w2.heap.size:=Nat.lt_of_lt_of_le l g.sz)|go_in);have k1:IntKind.i64.wrap (now-i)=now-i:=IntWalk.i64_in _ (by omega);have k2:IntKind.i64.wrap (q-pd)=q-pd:=IntWalk.i64_in _ (by omega)
 go_region_held3 (fun w'=>w'.cell? ⟨w.heap.size,0,none⟩=some (.int .i64 f)∧w'.cell? ⟨w.heap.size,1,none⟩=some (.int .i64 s)∧w'.cell? ⟨w.heap.size,2,none⟩=some (.int .i64 p)∧w'.cell? ⟨w.heap.size,3,none⟩=some (.int .i64 c)∧w'.cell? ⟨w.heap.size+1,0,none⟩=some (.int .i64 i)∧w'.cell? ⟨w.heap.size+1,1,none⟩=some (.int .i64 pd)) (go_keep)
  ((go_at_call 192;refine(HF _).mono ?_;rintro e w3 ⟨rfl,d⟩;(try replace d:=d.of_drew);have n:=d.cells.1;have u:w.heap.size<w3.heap.size:=Nat.lt_of_lt_of_le (by assumption) d.sz;have v:w.heap.size+1<w3.heap.size:=Nat.lt_of_lt_of_le (by assumption) d.sz))
 all_goals clear k1 k2
 all_goals go_wp2
 all_goals go_ret
 all_goals exact⟨fC (by omega),by exact .trans (.trans (.trans (.alloc (.alloc (.refl _) _) _) b) g) d⟩
theorem aIi (f s p c i pd a now d1 d2:Int)(w:World)(h0:0≤d1)(h2:0≤d2)(h3:a≤now)(h4:now≤9999)(h5:0≤a)(t1:(d1==0)=true)
  (HA:Hid (∀w,Calls Tryz.prog 57 #[aQ f s p c,bP i pd a,now] w fun e w'=>e= .returned (.int .i64 d1)∧Ext w w'))
  (HB:Hid (∀w,Calls Tryz.prog 57 #[aQ f s p c,bP i pd a,a] w fun e w'=>e= .returned (.int .i64 d2)∧Ext w w')):
  Calls Tryz.prog 147 #[aQ f s p c,bP i pd a,now] w fun e w'=>e= .returned (.bool true)∧Ext w w':=by
 go_enter Tryz.func147,Tryz.ntmps147;go_wp2_with fail;refine(HA _).mono ?_;rintro e w1 ⟨rfl,b⟩;have g:w.heap.size<w1.heap.size:=Nat.lt_of_lt_of_le (by simp;omega) b.sz;have h:w.heap.size+1<w1.heap.size:=Nat.lt_of_lt_of_le (by simp) b.sz;have d:=b.cells.1;go_wp2;go_ret;exact⟨aR (by first|rfl|(simp;omega)),by exact .trans (.alloc (.alloc (.refl _) _) _) b⟩
theorem aIh (f s p c i pd a now d1 d2:Int)(w:World)(h0:0≤d1)(h2:0≤d2)(h3:a≤now)(h4:now≤9999)(h5:0≤a)(t1:(d1==0)=false)(t2:15<now-a)(t3:(d2==0)=true)
  (HA:Hid (∀w,Calls Tryz.prog 57 #[aQ f s p c,bP i pd a,now] w fun e w'=>e= .returned (.int .i64 d1)∧Ext w w'))
  (HB:Hid (∀w,Calls Tryz.prog 57 #[aQ f s p c,bP i pd a,a] w fun e w'=>e= .returned (.int .i64 d2)∧Ext w w')):
  Calls Tryz.prog 147 #[aQ f s p c,bP i pd a,now] w fun e w'=>e= .returned (.bool false)∧Ext w w':=by
 go_enter Tryz.func147,Tryz.ntmps147;go_wp2_with fail;refine(HA _).mono ?_;rintro e w1 ⟨rfl,b⟩;have g:w.heap.size<w1.heap.size:=Nat.lt_of_lt_of_le (by simp;omega) b.sz;have h:w.heap.size+1<w1.heap.size:=Nat.lt_of_lt_of_le (by simp) b.sz;have d:=b.cells.1;go_wp2;go_ret;exact⟨aR (by first|rfl|(simp;omega)),by exact .trans (.alloc (.alloc (.refl _) _) _) b⟩
theorem aIg (f s p c i pd a now d1 d2:Int)(w:World)(h0:0≤d1)(h2:0≤d2)(h3:a≤now)(h4:now≤9999)(h5:0≤a)(t1:(d1==0)=false)(t2:now-a≤15)(t3:(d2==0)=true)
  (HA:Hid (∀w,Calls Tryz.prog 57 #[aQ f s p c,bP i pd a,now] w fun e w'=>e= .returned (.int .i64 d1)∧Ext w w'))
  (HB:Hid (∀w,Calls Tryz.prog 57 #[aQ f s p c,bP i pd a,a] w fun e w'=>e= .returned (.int .i64 d2)∧Ext w w')):
  Calls Tryz.prog 147 #[aQ f s p c,bP i pd a,now] w fun e w'=>e= .returned (.bool true)∧Ext w w':=by
 go_enter Tryz.func147,Tryz.ntmps147;go_wp2_with fail;refine(HA _).mono ?_;rintro e w1 ⟨rfl,b⟩;have g:w.heap.size<w1.heap.size:=Nat.lt_of_lt_of_le (by simp;omega) b.sz;have h:w.heap.size+1<w1.heap.size:=Nat.lt_of_lt_of_le (by simp) b.sz;have j:=b.cells.1;go_wp2_with fail;refine(HB _).mono ?_;rintro e w2 ⟨rfl,d⟩;have l:=Nat.lt_of_lt_of_le g d.sz;have m:=Nat.lt_of_lt_of_le h d.sz;have k:=d.cells.1;go_wp2;go_ret;exact⟨aR (by first|rfl|(simp;omega)),by exact .trans (.trans (.alloc (.alloc (.refl _) _) _) b) d⟩
theorem aIf (f s p c i pd a now d1 d2:Int)(w:World)(h0:0≤d1)(h2:0≤d2)(h3:a≤now)(h4:now≤9999)(h5:0≤a)(t1:(d1==0)=false)(t2:15<now-a)(t3:(d2==0)=false)
  (HA:Hid (∀w,Calls Tryz.prog 57 #[aQ f s p c,bP i pd a,now] w fun e w'=>e= .returned (.int .i64 d1)∧Ext w w'))
  (HB:Hid (∀w,Calls Tryz.prog 57 #[aQ f s p c,bP i pd a,a] w fun e w'=>e= .returned (.int .i64 d2)∧Ext w w')):
  Calls Tryz.prog 147 #[aQ f s p c,bP i pd a,now] w fun e w'=>e= .returned (.bool false)∧Ext w w':=by
 go_enter Tryz.func147,Tryz.ntmps147;go_wp2_with fail;refine(HA _).mono ?_;rintro e w1 ⟨rfl,b⟩;have g:w.heap.size<w1.heap.size:=Nat.lt_of_lt_of_le (by simp;omega) b.sz;have h:w.heap.size+1<w1.heap.size:=Nat.lt_of_lt_of_le (by simp) b.sz;have d:=b.cells.1;go_wp2;go_ret;exact⟨aR (by first|rfl|(simp;omega)),by exact .trans (.alloc (.alloc (.refl _) _) _) b⟩
theorem aIe (f s p c i pd a now d1 d2:Int)(w:World)(h0:0≤d1)(h2:0≤d2)(h3:a≤now)(h4:now≤9999)(h5:0≤a)(t1:(d1==0)=false)(t2:now-a≤15)(t3:(d2==0)=false)
  (HA:Hid (∀w,Calls Tryz.prog 57 #[aQ f s p c,bP i pd a,now] w fun e w'=>e= .returned (.int .i64 d1)∧Ext w w'))
  (HB:Hid (∀w,Calls Tryz.prog 57 #[aQ f s p c,bP i pd a,a] w fun e w'=>e= .returned (.int .i64 d2)∧Ext w w')):
  Calls Tryz.prog 147 #[aQ f s p c,bP i pd a,now] w fun e w'=>e= .returned (.bool false)∧Ext w w':=by
 go_enter Tryz.func147,Tryz.ntmps147;go_wp2_with fail;refine(HA _).mono ?_;rintro e w1 ⟨rfl,b⟩;have g:w.heap.size<w1.heap.size:=Nat.lt_of_lt_of_le (by simp;omega) b.sz;have h:w.heap.size+1<w1.heap.size:=Nat.lt_of_lt_of_le (by simp) b.sz;have j:=b.cells.1;go_wp2_with fail;refine(HB _).mono ?_;rintro e w2 ⟨rfl,d⟩;have l:=Nat.lt_of_lt_of_le g d.sz;have m:=Nat.lt_of_lt_of_le h d.sz;have k:=d.cells.1;go_wp2;go_ret;exact⟨aR (by first|rfl|(simp;omega)),by exact .trans (.trans (.alloc (.alloc (.refl _) _) _) b) d⟩
theorem aL3 (f s p c i pd a now:Int)(w:World)(h:bD f s p c=true)(h2:cW i pd a=true)(h3:a≤now)(h4:now≤9999):Calls Tryz.prog 147 #[aQ f s p c,bP i pd a,now] w fun e w'=>e= .returned (.bool (jM f s p c i pd a now))∧Ext w w':=by
 obtain⟨b1,b2,b3,b4,b5,b6⟩:=eT h2;have e1:0≤bX f s p c i pd a now:=by unfold bX;rw[if_pos (by simp[h,h2,h3,h4])];omega
 have e2:0≤bX f s p c i pd a a:=by unfold bX;rw[if_pos (by simp[h,h2];omega)];omega
 have hr:jM f s p c i pd a now=(decide (bX f s p c i pd a now=0) || (decide (now-a≤15)&&decide (bX f s p c i pd a a=0))):=by simp[jM,e1]
 have hA:=fun w=>uJ f s p c i pd a now w h h2 h3 h4
 have hB:=fun w=>uJ f s p c i pd a a w h h2 (by omega) b6
 rw[hr];generalize bX f s p c i pd a now=d1 at*;generalize bX f s p c i pd a a=d2 at*;by_cases t1:d1=0
 ·rw[show(decide (d1=0) || (decide (now-a≤15)&&decide (d2=0)))=true by simp[t1]];exact aIi f s p c i pd a now d1 d2 w e1 e2 h3 h4 (by omega) (by simp[t1]) hA hB
 by_cases t2:now-a≤15
 ·by_cases t3:d2=0
  ·rw[show(decide (d1=0) || (decide (now-a≤15)&&decide (d2=0)))=true by simp[t2,t3]];exact aIg f s p c i pd a now d1 d2 w e1 e2 h3 h4 (by omega) (by simp[t1]) t2 (by simp[t3]) hA hB
  rw[show(decide (d1=0) || (decide (now-a≤15)&&decide (d2=0)))=false by simp[t1,t3]];exact aIe f s p c i pd a now d1 d2 w e1 e2 h3 h4 (by omega) (by simp[t1]) t2 (by simp[t3]) hA hB
 by_cases t3:d2=0
 ·rw[show(decide (d1=0) || (decide (now-a≤15)&&decide (d2=0)))=false by simp[t1,t2]];exact aIh f s p c i pd a now d1 d2 w e1 e2 h3 h4 (by omega) (by simp[t1]) (by omega) (by simp[t3]) hA hB
 rw[show(decide (d1=0) || (decide (now-a≤15)&&decide (d2=0)))=false by simp[t1,t2]];exact aIf f s p c i pd a now d1 d2 w e1 e2 h3 h4 (by omega) (by simp[t1]) (by omega) (by simp[t3]) hA hB
theorem aH9 (f s p c i pd a now d1 d2:Int)(w:World)(h0:0≤d1)(h2:0≤d2)(h3:a≤now)(h4:now≤9999)(h5:0≤a)(t1:(d1==0)=true)
  (HA:Hid (∀w,Calls Tryz.prog 152 #[aQ f s p c,bP i pd a,now] w fun e w'=>e= .returned (.int .i64 d1)∧Ext w w'))
  (HB:Hid (∀w,Calls Tryz.prog 152 #[aQ f s p c,bP i pd a,a] w fun e w'=>e= .returned (.int .i64 d2)∧Ext w w')):
  Calls Tryz.prog 138 #[aQ f s p c,bP i pd a,now] w fun e w'=>e= .returned (.bool true)∧Ext w w':=by
 go_enter Tryz.func138,Tryz.ntmps138;go_wp2_with fail;refine(HA _).mono ?_;rintro e w1 ⟨rfl,b⟩;have g:w.heap.size<w1.heap.size:=Nat.lt_of_lt_of_le (by simp;omega) b.sz;have h:w.heap.size+1<w1.heap.size:=Nat.lt_of_lt_of_le (by simp) b.sz;have j:=b.cells.1;go_wp2_with fail;refine(HA _).mono ?_;rintro e w2 ⟨rfl,d⟩;have l:=Nat.lt_of_lt_of_le g d.sz;have m:=Nat.lt_of_lt_of_le h d.sz;have k:=d.cells.1;go_wp2;go_ret;exact⟨aR (by first|rfl|(simp;omega)),by exact .trans (.trans (.alloc (.alloc (.refl _) _) _) b) d⟩
theorem aH8 (f s p c i pd a now d1 d2:Int)(w:World)(h0:0≤d1)(h2:0≤d2)(h3:a≤now)(h4:now≤9999)(h5:0≤a)(t1:(d1==0)=false)(t2:15<now-a)(t3:(d2==0)=true)
  (HA:Hid (∀w,Calls Tryz.prog 152 #[aQ f s p c,bP i pd a,now] w fun e w'=>e= .returned (.int .i64 d1)∧Ext w w'))
  (HB:Hid (∀w,Calls Tryz.prog 152 #[aQ f s p c,bP i pd a,a] w fun e w'=>e= .returned (.int .i64 d2)∧Ext w w')):
  Calls Tryz.prog 138 #[aQ f s p c,bP i pd a,now] w fun e w'=>e= .returned (.bool false)∧Ext w w':=by
 go_enter Tryz.func138,Tryz.ntmps138;go_wp2_with fail;refine(HA _).mono ?_;rintro e w1 ⟨rfl,b⟩;have h:w.heap.size<w1.heap.size:=Nat.lt_of_lt_of_le (by simp;omega) b.sz;have j:w.heap.size+1<w1.heap.size:=Nat.lt_of_lt_of_le (by simp) b.sz;have m:=b.cells.1;go_wp2_with fail;refine(HA _).mono ?_;rintro e w2 ⟨rfl,d⟩;have k:=Nat.lt_of_lt_of_le h d.sz;have l:=Nat.lt_of_lt_of_le j d.sz;have n:=d.cells.1;go_wp2_with fail;refine(HB _).mono ?_;rintro e w3 ⟨rfl,g⟩;have q:=Nat.lt_of_lt_of_le k g.sz;have r:=Nat.lt_of_lt_of_le l g.sz;have o:=g.cells.1;go_wp2;go_ret;exact⟨aR (by first|rfl|(simp;omega)),by exact .trans (.trans (.trans (.alloc (.alloc (.refl _) _) _) b) d) g⟩
theorem aH7 (f s p c i pd a now d1 d2:Int)(w:World)(h0:0≤d1)(h2:0≤d2)(h3:a≤now)(h4:now≤9999)(h5:0≤a)(t1:(d1==0)=false)(t2:now-a≤15)(t3:(d2==0)=true)
  (HA:Hid (∀w,Calls Tryz.prog 152 #[aQ f s p c,bP i pd a,now] w fun e w'=>e= .returned (.int .i64 d1)∧Ext w w'))
  (HB:Hid (∀w,Calls Tryz.prog 152 #[aQ f s p c,bP i pd a,a] w fun e w'=>e= .returned (.int .i64 d2)∧Ext w w')):
  Calls Tryz.prog 138 #[aQ f s p c,bP i pd a,now] w fun e w'=>e= .returned (.bool true)∧Ext w w':=by
 go_enter Tryz.func138,Tryz.ntmps138;go_wp2_with fail;refine(HA _).mono ?_;rintro e w1 ⟨rfl,b⟩;have h:w.heap.size<w1.heap.size:=Nat.lt_of_lt_of_le (by simp;omega) b.sz;have j:w.heap.size+1<w1.heap.size:=Nat.lt_of_lt_of_le (by simp) b.sz;have m:=b.cells.1;go_wp2_with fail;refine(HA _).mono ?_;rintro e w2 ⟨rfl,d⟩;have k:=Nat.lt_of_lt_of_le h d.sz;have l:=Nat.lt_of_lt_of_le j d.sz;have n:=d.cells.1;go_wp2_with fail;refine(HB _).mono ?_;rintro e w3 ⟨rfl,g⟩;have q:=Nat.lt_of_lt_of_le k g.sz;have r:=Nat.lt_of_lt_of_le l g.sz;have o:=g.cells.1;go_wp2;go_ret;exact⟨aR (by first|rfl|(simp;omega)),by exact .trans (.trans (.trans (.alloc (.alloc (.refl _) _) _) b) d) g⟩
theorem aH6 (f s p c i pd a now d1 d2:Int)(w:World)(h0:0≤d1)(h2:0≤d2)(h3:a≤now)(h4:now≤9999)(h5:0≤a)(t1:(d1==0)=false)(t2:15<now-a)(t3:(d2==0)=false)
  (HA:Hid (∀w,Calls Tryz.prog 152 #[aQ f s p c,bP i pd a,now] w fun e w'=>e= .returned (.int .i64 d1)∧Ext w w'))
  (HB:Hid (∀w,Calls Tryz.prog 152 #[aQ f s p c,bP i pd a,a] w fun e w'=>e= .returned (.int .i64 d2)∧Ext w w')):
  Calls Tryz.prog 138 #[aQ f s p c,bP i pd a,now] w fun e w'=>e= .returned (.bool false)∧Ext w w':=by
 go_enter Tryz.func138,Tryz.ntmps138;go_wp2_with fail;refine(HA _).mono ?_;rintro e w1 ⟨rfl,b⟩;have h:w.heap.size<w1.heap.size:=Nat.lt_of_lt_of_le (by simp;omega) b.sz;have j:w.heap.size+1<w1.heap.size:=Nat.lt_of_lt_of_le (by simp) b.sz;have m:=b.cells.1;go_wp2_with fail;refine(HA _).mono ?_;rintro e w2 ⟨rfl,d⟩;have k:=Nat.lt_of_lt_of_le h d.sz;have l:=Nat.lt_of_lt_of_le j d.sz;have n:=d.cells.1;go_wp2_with fail;refine(HB _).mono ?_;rintro e w3 ⟨rfl,g⟩;have q:=Nat.lt_of_lt_of_le k g.sz;have r:=Nat.lt_of_lt_of_le l g.sz;have o:=g.cells.1;go_wp2;go_ret;exact⟨aR (by first|rfl|(simp;omega)),by exact .trans (.trans (.trans (.alloc (.alloc (.refl _) _) _) b) d) g⟩
theorem aH5 (f s p c i pd a now d1 d2:Int)(w:World)(h0:0≤d1)(h2:0≤d2)(h3:a≤now)(h4:now≤9999)(h5:0≤a)(t1:(d1==0)=false)(t2:now-a≤15)(t3:(d2==0)=false)
  (HA:Hid (∀w,Calls Tryz.prog 152 #[aQ f s p c,bP i pd a,now] w fun e w'=>e= .returned (.int .i64 d1)∧Ext w w'))
  (HB:Hid (∀w,Calls Tryz.prog 152 #[aQ f s p c,bP i pd a,a] w fun e w'=>e= .returned (.int .i64 d2)∧Ext w w')):
  Calls Tryz.prog 138 #[aQ f s p c,bP i pd a,now] w fun e w'=>e= .returned (.bool false)∧Ext w w':=by
 go_enter Tryz.func138,Tryz.ntmps138;go_wp2_with fail;refine(HA _).mono ?_;rintro e w1 ⟨rfl,b⟩;have h:w.heap.size<w1.heap.size:=Nat.lt_of_lt_of_le (by simp;omega) b.sz;have j:w.heap.size+1<w1.heap.size:=Nat.lt_of_lt_of_le (by simp) b.sz;have m:=b.cells.1;go_wp2_with fail;refine(HA _).mono ?_;rintro e w2 ⟨rfl,d⟩;have k:=Nat.lt_of_lt_of_le h d.sz;have l:=Nat.lt_of_lt_of_le j d.sz;have n:=d.cells.1;go_wp2_with fail;refine(HB _).mono ?_;rintro e w3 ⟨rfl,g⟩;have q:=Nat.lt_of_lt_of_le k g.sz;have r:=Nat.lt_of_lt_of_le l g.sz;have o:=g.cells.1;go_wp2;go_ret;exact⟨aR (by first|rfl|(simp;omega)),by exact .trans (.trans (.trans (.alloc (.alloc (.refl _) _) _) b) d) g⟩
theorem aKr (f s p c i pd a now:Int)(w:World)(h:bD f s p c=true)(h2:cW i pd a=true)(h3:a≤now)(h4:now≤9999):Calls Tryz.prog 138 #[aQ f s p c,bP i pd a,now] w fun e w'=>e= .returned (.bool (jM f s p c i pd a now))∧Ext w w':=by
 obtain⟨b1,b2,b3,b4,b5,b6⟩:=eT h2;have e1:0≤bX f s p c i pd a now:=by unfold bX;rw[if_pos (by simp[h,h2,h3,h4])];omega
 have e2:0≤bX f s p c i pd a a:=by unfold bX;rw[if_pos (by simp[h,h2];omega)];omega
 have hr:jM f s p c i pd a now=(decide (bX f s p c i pd a now=0) || (decide (now-a≤15)&&decide (bX f s p c i pd a a=0))):=by simp[jM,e1]
 have hA:=fun w=>xK f s p c i pd a now w h h2 h3 h4
 have hB:=fun w=>xK f s p c i pd a a w h h2 (by omega) b6
 rw[hr];generalize bX f s p c i pd a now=d1 at*;generalize bX f s p c i pd a a=d2 at*;by_cases t1:d1=0
 ·rw[show(decide (d1=0) || (decide (now-a≤15)&&decide (d2=0)))=true by simp[t1]];exact aH9 f s p c i pd a now d1 d2 w e1 e2 h3 h4 (by omega) (by simp[t1]) hA hB
 by_cases t2:now-a≤15
 ·by_cases t3:d2=0
  ·rw[show(decide (d1=0) || (decide (now-a≤15)&&decide (d2=0)))=true by simp[t2,t3]];exact aH7 f s p c i pd a now d1 d2 w e1 e2 h3 h4 (by omega) (by simp[t1]) t2 (by simp[t3]) hA hB
  rw[show(decide (d1=0) || (decide (now-a≤15)&&decide (d2=0)))=false by simp[t1,t3]];exact aH5 f s p c i pd a now d1 d2 w e1 e2 h3 h4 (by omega) (by simp[t1]) t2 (by simp[t3]) hA hB
 by_cases t3:d2=0
 ·rw[show(decide (d1=0) || (decide (now-a≤15)&&decide (d2=0)))=false by simp[t1,t2]];exact aH8 f s p c i pd a now d1 d2 w e1 e2 h3 h4 (by omega) (by simp[t1]) (by omega) (by simp[t3]) hA hB
 rw[show(decide (d1=0) || (decide (now-a≤15)&&decide (d2=0)))=false by simp[t1,t2]];exact aH6 f s p c i pd a now d1 d2 w e1 e2 h3 h4 (by omega) (by simp[t1]) (by omega) (by simp[t3]) hA hB
end Go.Proofs.YtpelpnfhbepokaaGreatDoor
namespace Go.Proofs.YtpelpnfhbepokaaGreatDoor
open Go.RowKit
set_option linter.unusedVariables false
def kL (x:Int):List Int→List Int
 | []=> [x]
 |y::ys=>if y<x then y::kL x ys else x::y::ys
def eZ (xs:List Int):List Int:=xs.foldl (fun acc x=>kL x acc) []
def dA (xs:List Int):List Int:=xs.filter (fun x=>decide (0<x))
def cJ (xs:List Int):List Int:=eZ (dA xs)
theorem lX (x:Int): ∀xs,List.Perm (kL x xs) (x::xs):=by
 intro xs;induction xs with
 |nil=>exact List.Perm.refl _
 |cons y ys ih=>
  unfold kL;split
  ·exact(List.Perm.cons y ih).trans (List.Perm.swap x y ys)
  exact List.Perm.refl _
theorem sN (x:Int): ∀xs,xs.Pairwise (·≤ ·)→(kL x xs).Pairwise (·≤ ·):=by
 intro xs;induction xs with
 |nil=>intro _;simp[kL]
 |cons y ys ih=>
  intro h;rw[List.pairwise_cons]at h;unfold kL;split
  ·rename_i hlt;rw[List.pairwise_cons];refine⟨fun z hz=> ?_,ih h.2⟩;rcases List.mem_cons.1 ((lX x ys).mem_iff.1 hz)with rfl|hz
   ·omega
   exact h.1 z hz
  rename_i hge;rw[List.pairwise_cons,List.pairwise_cons];refine⟨fun z hz=> ?_,h⟩;rcases List.mem_cons.1 hz with rfl|hz
  ·omega
  have:=h.1 z hz;omega
theorem tW (xs:List Int)(x:Int):eZ (xs++ [x])=kL x (eZ xs):=by simp[eZ,List.foldl_append]
theorem zX (xs:List Int):List.Perm (eZ xs) xs∧(eZ xs).Pairwise (·≤ ·):=by
 suffices h: ∀(n:Nat) (xs:List Int),xs.length=n→List.Perm (eZ xs) xs∧(eZ xs).Pairwise (·≤ ·)from h _ xs rfl
 intro n;induction n with
 |zero=>intro xs h;obtain rfl:=List.eq_nil_of_length_eq_zero h;simp[eZ]
 |succ n ih=>
  intro xs h;have a:xs≠ []:=by intro e;rw[e]at h;simp at h
  rw[←List.dropLast_concat_getLast a,tW];obtain⟨h1,h2⟩:=ih xs.dropLast (by simp[h]);refine⟨?_,sN _ _ h2⟩;exact(lX _ _).trans ((List.Perm.cons _ h1).trans (List.perm_append_singleton _ _).symm)
theorem fW (xs:List Int):List.Perm (eZ xs) xs:=(zX xs).1
theorem jV (xs:List Int):(eZ xs).Pairwise (·≤ ·):=(zX xs).2
theorem vY (xs:List Int):(eZ xs).length=xs.length:=(fW xs).length_eq
theorem kY (xs:List Int)(x:Int):dA (xs++ [x])=dA xs++(if 0<x then [x]else []):=by unfold dA;rw[List.filter_append];congr 1;by_cases h:0<x<;>simp[h]
theorem jA (xs:List Int):(dA xs).length≤xs.length:=List.length_filter_le _ _
theorem hU (xs:List Int):(cJ xs).length=(dA xs).length:=vY _
theorem mF {xs ys:List Int}(h:List.Perm ys xs)(hs:ys.Pairwise (·≤ ·)):ys=eZ xs:=
 List.Perm.eq_of_pairwise (fun a b _ _ h1 h2=>Int.le_antisymm h1 h2) hs (jV xs) (h.trans (fW xs).symm)
abbrev aP:=Int×Int×Int×Int
def aD (v:aP):List Value:= [.int .i64 v.1,.int .i64 v.2.1,.int .i64 v.2.2.1,.int .i64 v.2.2.2]
structure aO where
 aA:Int
 aB:Int
 cells:List Int
 free:Int
 step:Int
 aE:Int
 aF:Int
 aC:Int
 aG:Int
 vs:List aP
def eX (aC:Int)(v:aP):Bool:=cW v.2.1 v.2.2.1 v.2.2.2&&decide (v.2.2.2≤aC)
def bW (aC:Int):List Int→List aP→Bool
 | [],[]=>true
 |c::cs,v::vs=>decide (v.1=c)&&eX aC v&&bW aC cs vs
 |_,_=>false
def rG (h:aO):Bool:=decide (0≤h.aC∧h.aC≤9999∧0≤h.aG∧h.aG≤99999)
def aT (h:aO):Bool:=aM h.aA h.aB h.cells&&bD h.free h.step h.aE h.aF&&rG h&&bW h.aC (cJ h.cells) h.vs
def gH:aO:=⟨0,0,[],0,0,0,0,0,0,[]⟩
theorem rZ {aC:Int}{cs:List Int}{vs:List aP}{k:Nat}{c:Int}{v:aP}(hc:cs[k]? =some c) (hv:vs[k]? =some v):
  bW aC (cs.drop k) (vs.drop k)=(decide (v.1=c)&&eX aC v&&bW aC (cs.drop (k+1)) (vs.drop (k+1))):=by
 rw[oF hc,oF hv];rfl
theorem jU {aC:Int}: ∀ {cs:List Int} {vs:List aP},bW aC cs vs=true→vs.map (·.1)=cs∧ ∀v∈vs,eX aC v=true:=by
 intro cs;induction cs with
 |nil=>intro vs h;cases vs with
  |nil=>simp
  |cons v vs=>simp[bW]at h
 |cons c cs ih=>
  intro vs h;cases vs with
  |nil=>simp[bW]at h
  |cons v vs=>
   simp only[bW,Bool.and_eq_true,decide_eq_true_eq]at h;obtain⟨⟨h1,h2⟩,h3⟩:=h;obtain⟨i1,i2⟩:=ih h3;refine⟨by simp[h1,i1],fun x hx=> ?_⟩;rcases List.mem_cons.1 hx with rfl|hx
   ·exact h2
   exact i2 x hx
theorem rY {aC:Int}{cs:List Int}{vs:List aP}(h:cs.length≠vs.length):bW aC cs vs=false:=by
 cases hh:bW aC cs vs with
 |false=>rfl
 |true=>have:=congrArg List.length (jU hh).1;simp at this;omega
def bY (id:Int)(vs:List aP):Option aP:=vs.find? (fun v=>v.1==id)
def cS (h:aO)(id:Int):Option (Int×Int×Int):=if aT h then(bY id h.vs).map (·.2)else none
def aU (h:aO)(id:Int):Int:=match cS h id with
 |some s=>bX h.free h.step h.aE h.aF s.1 s.2.1 s.2.2 h.aC
 |none=> -1
def dV (h:aO)(id:Int):Bool:=match cS h id with
 |some s=>jM h.free h.step h.aE h.aF s.1 s.2.1 s.2.2 h.aC
 |none=>false
def oR (h:aO)(v:aP):Int:=bX h.free h.step h.aE h.aF v.2.1 v.2.2.1 v.2.2.2 h.aC
def pV (h:aO)(vs:List aP):Int:=vs.foldl (fun a v=>a+oR h v) 0
def eK (h:aO):Int:=if aT h then pV h h.vs else -1
def bV (h:aO):List Int:=if aT h then
  (if(0:Int)∈h.cells then cJ h.cells else h.cells.headD 0::(cJ h.cells).filter (fun x=>x !=h.cells.headD 0))else []
set_option maxHeartbeats 8000000
set_option maxRecDepth 100000
abbrev TI:TypeId:=3
def cY (aA aB:Int)(xs:List Int)(w:World)(e:Ending)(w':World):Prop:=
 ∃p cap,e= .returned (aH aA aB p xs.length cap)∧w'.ownsRow w.heap.size TI 1 (.slice p xs.length cap) xs.length (ivs xs)∧Ext w w'
def cH (aA aB:Int):Int×Int×List Int:=if 2≤aA∧aA≤4∧2≤aB∧aB≤3 then(aA,aB,List.replicate (aA*aB).toNat 0)else(0,0,[])
theorem aFn (n:Nat):(madeCells (Value.int .i64 0).cells (n*1)).toList=ivs (List.replicate n 0):=by apply List.ext_getElem<;>simp[madeCells,Value.cells,Nat.mod_one]
theorem aC3 (aA aB:Int)(w:World)(h:aA<2∨2≤aA∧4<aA∨2≤aA∧aA≤4∧aB<2∨2≤aA∧aA≤4∧2≤aB∧3<aB):
  Calls Tryz.prog 128 #[aA,aB] w (cY 0 0 [] w):=by
 rcases h with h|⟨h0,h⟩|⟨h0,h1,h⟩|⟨h0,h1,h2,h⟩
 all_goals
  (try (have a:decide (aB≤3)=false:=by simp;omega));(try (have a:decide (aA≤4)=false:=by simp;omega));go_enter Tryz.func128,Tryz.ntmps128;go_wp2_with go_in;exact bodyPost_ret (v:=aH 0 0 none 0 0) (by simp[results,Tryz.results128,go_sem]) rfl ⟨none,0,rfl,World.ownsRow_nil _ _ _ _,by exact .alloc (.refl _) _⟩
theorem Blk.three {w:World}{g:Nat}{t:TypeId}{a b c:Value}(h:Blk w g t #[a,b,c]):w.cell? ⟨g,0,none⟩=some a∧w.cell? ⟨g,1,none⟩=some b∧w.cell? ⟨g,2,none⟩=some c∧w.frozen? ⟨g,0,none⟩=false∧w.frozen? ⟨g,1,none⟩=false∧w.frozen? ⟨g,2,none⟩=false:=
 ⟨h.cell 0,h.cell 1,h.cell 2,h.frozen 0,h.frozen 1,h.frozen 2⟩
theorem pP {aA aB:Int}{p:OA}{n a:Nat}{xs:List Int}{w w':World}(hn:xs.length=n)(ho:w'.ownsRow w.heap.size TI 1 (.slice p n a) n (ivs xs))(hx:Ext w w'):cY aA aB xs w (.returned (aH aA aB p n a)) w':=by subst hn;exact⟨p,a,rfl,ho,hx⟩
theorem aCn {w:World}{B n:Nat}{xs:List Value}{c0 c1 c2:Value}(h:w.ownsRow B TI 1 (.slice (some ⟨B+1,0,none⟩) n n) n xs):
  (((w.setCell ⟨B,0,none⟩ c0).setCell ⟨B,1,none⟩ c1).setCell ⟨B,2,none⟩ c2).ownsRow B TI 1 (.slice (some ⟨B+1,0,none⟩) n n) n xs:=by
 have hx:ExtR B w (((w.setCell ⟨B,0,none⟩ c0).setCell ⟨B,1,none⟩ c1).setCell ⟨B,2,none⟩ c2):=(((ExtR.refl B w).setCell (p:=⟨B,0,none⟩) (.inl rfl) _).setCell (p:=⟨B,1,none⟩) (.inl rfl) _).setCell (p:=⟨B,2,none⟩) (.inl rfl) _;exact h.kept hx (.inr (by simp[Value.ownBlock]))
theorem aF6 (aA aB:Int)(n:Nat)(w:World)(h0:2≤aA)(h1:aA≤4)(h2:2≤aB)(h3:aB≤3)(h4:0≤aA*aB)(h5:aA*aB≤12)(h6:aA*aB=(n:Int))(h7:n≤12):
  Calls Tryz.prog 128 #[aA,aB] w (cY aA aB (List.replicate n 0) w):=by
 obtain⟨i0,hi,e,f,g⟩:=info_parts (show(Tryz.prog.info? 3).map (fun i=>(i.zero,i.size,i.bytes))=some (some (.int .i64 0),1,8) by kernel_rfl);have q1:decide (aA≤4)=true:=by simp[h1]
 have q2:decide (aB≤3)=true:=by simp[h3]
 go_enter Tryz.func128,Tryz.ntmps128;go_wp2_with (first|go_in|(at_make;refine wpList_make_full _ rfl _ _ 23 rfl w.heap.size 3 i0 (.int .i64 0) 1 Tryz.underlying23 hi e f .i64 .i64 _ _ n rfl rfl (by first|rfl|exact h6) (by first|rfl|exact h6) (by rw[g];omega) (by unfold maxLen;omega) (by simp) ?_;intro w0 a b;have c:Ext _ w0:=(Ext.refl _).grown b (fun q hq=>by cases hq);obtain⟨p0,p1,p2,p3,p4,p5⟩:=((Blk.new w 25 #[(),(),((),())]).ext c).three;have hz:w.heap.size<w0.heap.size:=Nat.lt_of_lt_of_le (by simp) c.sz;rw[aFn]at a;have HO:=xQ a;have d:Hid (Ext w w0):=((Ext.refl w).alloc _).trans c;clear a b c));have hx:Ext w _:=(((d.out.setCell (p:=⟨w.heap.size,0,none⟩) (Nat.le_refl _) (.int .i64 aA)).setCell (p:=⟨w.heap.size,1,none⟩) (Nat.le_refl _) (.int .i64 aB)).setCell (p:=⟨w.heap.size,2,none⟩) (Nat.le_refl _) (.slice (some ⟨w.heap.size+1,0,none⟩) n n))
 exact bodyPost_ret (v:=aH aA aB (some ⟨w.heap.size+1,0,none⟩) n n) (by simp[results,Tryz.results128,go_sem, *]) rfl (pP (by simp) (aCn (by simpa using HO.out)) hx)
end Go.Proofs.YtpelpnfhbepokaaGreatDoor
