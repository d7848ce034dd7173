/-
  Texts of this proof, packed (@packed).
-/
import Derived.WalkLawsBesides
import Derived.Test.YtbgkcehffiogcacGreatDoorQ1
namespace Go.Proofs.YtbgkcehffiogcacGreatDoor
open Go.RowKit
set_option linter.unusedSimpArgs false
set_option linter.unusedVariables false
set_option maxHeartbeats 8000000
set_option maxRecDepth 100000
section
open Go.Proofs.Tryz
theorem qG {f:FuncId}{a:Array Value}{w:World}{n:Nat}{v:Value}(h:U f a (w.drewN n) fun e w'=>e= .returned v∧w.drewN n=w'):
  U f a (w.drewN n) fun e w'=>e= .returned v∧ ∃m,w'=w.drewN m:=h.mono fun _ _ ⟨he,hm⟩=>⟨he,n,hm.symm⟩
theorem nH (n lo hi:Int)(w:World)(h:lo≤n)(h2:n≤hi):U 50 #[n,lo,hi] w fun e w'=>e= .returned (.bool true)∧w=w':=by go_enter func50,ntmps50;go_wp2;go_ret;exact⟨rfl,rfl⟩
theorem wB (n lo hi:Int)(w:World)(h:n<lo∨lo≤n∧hi<n):U 50 #[n,lo,hi] w fun e w'=>e= .returned (.bool false)∧w=w':=by
 rcases h with h|⟨h,h2⟩
 all_goals
  go_enter func50,ntmps50;go_wp2;go_ret;exact⟨aQ (by first|rfl|(simp;omega)),rfl⟩
theorem qL (p:OA)(n cap:Nat)(xs:List Int)(x:Int)(w:World)(hS:Sl w p n cap 1 (ivs xs)):
  U 99 #[.slice p n cap,x] w fun e w'=>e= .returned (.bool (xs.contains x))∧w=w':=by
 have hn:=hS.bd;have hl:=xQ hS.ilen;have HS:=xQ hS;clear hS;go_enter func99,ntmps99;go_wp2;go_loop [5] (fun i=> ∃k:Nat,k≤n∧i=I k∧(xs.take k).contains x=false) (fun i=>n-(intOf i).toNat)
 case atStart=>exact⟨0,aRv _,rfl,by simp⟩
 case round=>
  obtain⟨k,hk,rfl,hc⟩:=hrel;have HC:=xQ hc;clear hc;by_cases hlt:k<n
  ·obtain⟨b,d,y,rfl,hx,hb,c⟩:=HS.out.int_at hlt;have HX:=xQ hx;clear hx;by_cases hy:y=x
   ·have t1:(y==x)=true:=by simp[hy]
    have a:Hid (xs.contains x=true):=by show _=_;rw[List.contains_eq_mem];simp;rw[←hy];exact aRs HX.out
    clear hy;go_wp2;go_ret;exact⟨aQ (by simpa using a.out.symm),rfl⟩
   have t1:(y==x)=false:=by simp[hy]
   have a:Hid ((xs.take (k+1)).contains x=false):=by have:=HC.out;show _=_;rw[aY HX.out];simp only[List.contains_eq_mem,decide_eq_false_iff_not,aSa,aSc,not_or]at this⊢;exact⟨this,fun e=>hy e.symm⟩
   clear hy;go_wp2;go_round
   case rel=>exact⟨k+1,by omega,by go_num,a.out⟩
   case measure=>simp[intOf];omega
  have a:Hid (xs.contains x=false):=by have:=HC.out;rw[aRu (by rw[hl.out];omega)]at this;exact this
  go_wp2;go_ret;exact⟨aQ (by simpa using a.out.symm),rfl⟩
theorem aFv (aA aB:Int)(p:OA)(n cap:Nat)(w:World)(hn:n≤9223372036854775807)
  (h:aA<2∨2≤aA∧4<aA∨2≤aA∧aA≤4∧aB<2∨2≤aA∧aA≤4∧2≤aB∧3<aB∨2≤aA∧aA≤4∧2≤aB∧aB≤3∧0≤aA*aB∧aA*aB≤12∧((n:Int)!=aA*aB)=true):
  U 48 #[aH aA aB p n cap] w (O (.bool false) w):=by
 rcases h with h|⟨h0,h⟩|⟨h0,h1,h⟩|⟨h0,h1,h2,h⟩|⟨h0,h1,h2,h3,h4,h5,h⟩
 all_goals
  go_enter func48,ntmps48;go_wp2_with go_in;go_ret;exact⟨rfl,by exact .alloc (.refl _) _⟩
theorem aDb (aA aB:Int)(p:OA)(n cap:Nat)(xs:List Int)(w:World)(h0:2≤aA)(h1:aA≤4)(h2:2≤aB)(h3:aB≤3)(h4:0≤aA*aB)(h5:aA*aB≤12)(h6:((n:Int)!=aA*aB)=false)(hn:n≤12)
  (HS:Hid (Sl w p n cap 1 (ivs xs))):
  U 48 #[aH aA aB p n cap] w (O (.bool (eG [] xs)) w):=by
 have s:=HS.out.le;have h:=HS.out.mx;unfold maxLen at h;go_enter func48,ntmps48;go_wp2_with go_in;clear h4 h5 h6;go_loopw [3] (fun i wr=> ∃k:Nat,k≤n∧i=I k∧eG [] xs=eG (xs.take k) (xs.drop k)∧Ext w wr∧w.heap.size<wr.heap.size∧wr.cell? ⟨w,2,none⟩=some (.slice p n cap)) (fun i _=>n-(intOf i).toNat)
 case atStart=>exact⟨0,aRv _,rfl,rfl,by exact .alloc (.refl _) _,by simp,by simp⟩
 case round=>
  obtain⟨k,hk,rfl,d,hE,j,g⟩:=hrel;by_cases hlt:k<n
  ·have q:=aOy (HS.out.ext hE) (m:=k) hk;obtain⟨b,f,x,rfl,hx,t,r⟩:=(HS.out.ext hE).int_at hlt;have a:=xQ (d.trans (yL hx));have i1:(0:Int)≤(k:Int):=by omega
   have i2:(k:Int)<(n:Int):=by omega
   have i3:(k:Int)≤(n:Int):=by omega
   have i4:(k:Int)≤(cap:Int):=by omega
   have HX:=xQ hx;have HK:=xQ q;clear d hx q;by_cases hr:0≤x∧x≤99
   ·obtain⟨l,o⟩:=hr;have HI:Hid (∀w,U 50 #[x,(),I 99] w fun e w'=>e= .returned (.bool true)∧w=w'):=fun w=>nH x 0 99 w l o
    by_cases hp:0<x
    ·have hd:decide (0<x)=true:=by simp[hp]
     cases hs:(xs.take k).contains x with
     |true=>
      have HH:Hid (∀m,U 99 #[.slice (some ⟨b,f,none⟩) k cap,x] (wr.drewN m) fun e w'=>e= .returned (.bool true)∧wr.drewN m=w'):=fun m=>by have:=qL (some ⟨b,f,none⟩) k cap (xs.take k) x (wr.drewN m) (HK.out.ext (Ext.drewN (Ext.refl _) _));rwa[hs]at this
      have c:Hid (eG [] xs=false):=by show _=_;rw[a.out,hs];simp[hp]
      clear hs;go_wp2;go_quiet ((first|(go_at_call 50;exact qG (HI _))|(go_at_call 99;exact qG (HH _))));go_wp2;go_ret;exact⟨aQ c.out.symm,by exact .drewN hE _⟩
     |false=>
      have HH:Hid (∀m,U 99 #[.slice (some ⟨b,f,none⟩) k cap,x] (wr.drewN m) fun e w'=>e= .returned (.bool false)∧wr.drewN m=w'):=fun m=>by have:=qL (some ⟨b,f,none⟩) k cap (xs.take k) x (wr.drewN m) (HK.out.ext (Ext.drewN (Ext.refl _) _));rwa[hs]at this
      have c:Hid (eG [] xs=eG (xs.take (k+1)) (xs.drop (k+1))):=by show _=_;rw[a.out,hs];simp[l,o]
      clear hs;go_wp2;go_quiet ((first|(go_at_call 50;exact qG (HI _))|(go_at_call 99;exact qG (HH _))));go_wp2;go_roundw
      case rel=>exact⟨k+1,by omega,by go_num,c.out,by exact .drewN hE _,j,g⟩
      case measure=>simp[intOf];omega
    have hd:decide (0<x)=false:=by simp[hp]
    have c:Hid (eG [] xs=eG (xs.take (k+1)) (xs.drop (k+1))):=by show _=_;rw[a.out];simp[l,o,hp]
    go_wp2;go_quiet ((go_at_call 50;exact qG (HI _)));go_wp2;go_roundw
    case rel=>first|exact⟨k+1,by omega,by go_num,c.out,xE,j,g⟩|((repeat apply Exists.intro);exact⟨⟨k+1,by omega,by go_num,c.out,by exact .drewN hE _,j,g⟩,rfl⟩)
    case measure=>simp[intOf];omega
   have HI:Hid (∀w,U 50 #[x,(),I 99] w fun e w'=>e= .returned (.bool false)∧w=w'):=fun w=>wB x 0 99 w (by omega)
   have c:Hid (eG [] xs=false):=by show _=_;rw[a.out];simp[hr]
   clear hr;go_wp2;go_quiet ((go_at_call 50;exact qG (HI _)));go_wp2;go_ret;exact⟨aQ c.out.symm,by exact .drewN hE _⟩
  have a:=xQ (d.trans (vI (by have:=HS.out.ilen;omega)));clear d;go_wp2;go_ret;exact⟨aQ a.out.symm,by exact hE⟩
theorem gJ (aA aB:Int)(p:OA)(n cap:Nat)(xs:List Int)(w:World)(hS:Sl w p n cap 1 (ivs xs)):
  U 48 #[aH aA aB p n cap] w (O (.bool (aO aA aB xs)) w):=by
 have hl:=hS.ilen;unfold aO;rw[hl];cases hs:kN aA aB n with
 |true=>obtain⟨h1,h2,h3,h4,h5,h6,h7⟩:=cE hs;rw[Bool.true_and];exact aDb aA aB p n cap xs w h1 h2 h3 h4 (by omega) (by omega) (by simp[h7]) h6 hS
 |false=>rw[Bool.false_and];exact aFv aA aB p n cap w hS.bd (zX hs)
def bO (f s p c:Int):Bool:=decide (0≤f∧f<1440∧1≤s∧s≤1440∧0≤p∧p≤99∧0≤c∧c≤99)
def dF (i p a:Int):Bool:=decide (0≤i∧i≤9999∧0≤p∧p≤9999∧i≤a∧a≤9999)
def fI (f s m:Int):Int:=if m≤f then 0 else(m-f+s-1)/s
def nK (f s p c m:Int):Int:=m/1440*c+min (fI f s (m%1440)*p) c
def cC (f s p c i pd a now:Int):Int:=if bO f s p c&&dF i pd a&&decide (a≤now∧now≤9999)then max (nK f s p c (now-i)-pd) 0 else -1
def lX (f s p c i pd a now:Int):Bool:=
 decide (cC f s p c i pd a now=0) || (decide (0≤cC f s p c i pd a now)&&decide (now-a≤15)&&decide (cC f s p c i pd a a=0))
abbrev aT (f s p c:Int):Value:= .agg #[f,s,p,c]
abbrev bS (i p a:Int):Value:= .agg #[i,p,a]
theorem iD {f s p c:Int}(h:bO f s p c=true):0≤f∧f<1440∧1≤s∧s≤1440∧0≤p∧p≤99∧0≤c∧c≤99:=by simpa[bO]using h
theorem fM {i p a:Int}(h:dF i p a=true):0≤i∧i≤9999∧0≤p∧p≤9999∧i≤a∧a≤9999:=by simpa[dF]using h
theorem jJ {f s m:Int}(h0:0≤f)(h1:1≤s)(hm:m≤9999):0≤fI f s m∧fI f s m≤9999:=by
 unfold fI;split
 ·omega
 refine⟨Int.ediv_nonneg (by omega) (by omega),?_⟩;have:(m-f+s-1)/s≤m-f:=by
  apply Int.ediv_le_of_le_mul (by omega);have:(m-f)*s≥(m-f)*1:=Int.mul_le_mul_of_nonneg_left h1 (by omega);have h2:(m-f)*s=(m-f-1)*s+s:=by rw[Int.sub_mul (m-f) 1 s];omega
  have h3:(m-f-1)*s≥(m-f-1)*1:=Int.mul_le_mul_of_nonneg_left h1 (by omega);omega
 omega
theorem aCl {f s m:Int}(h1:1≤s):(max (m-f) 0+s-1)/s=fI f s m:=by
 unfold fI;split
 ·rw[show max (m-f) 0=0 by omega];exact Int.ediv_eq_zero_of_lt (by omega) (by omega)
 rw[show max (m-f) 0=m-f by omega]
theorem uF {x p:Int}(hx:0≤x)(a:x≤9999)(h0:0≤p)(h1:p≤99):0≤x*p∧x*p≤989901:=by refine⟨Int.mul_nonneg hx h0,?_⟩;have:=Int.mul_le_mul a h1 h0 (by omega);omega
theorem pL {f s p c m:Int}(h:bO f s p c=true)(h0:0≤m)(h1:m≤9999):0≤nK f s p c m∧nK f s p c m≤693:=by obtain⟨a1,a2,a3,a4,a5,a6,a7,a8⟩:=iD h;obtain⟨b1,b2⟩:=jJ (m:=m%1440) a1 a3 (by omega);obtain⟨d1,d2⟩:=uF b1 b2 a5 a6;unfold nK;have e1:0≤m/1440*c:=Int.mul_nonneg (by omega) a7;have e2:m/1440*c≤6*99:=Int.mul_le_mul (by omega) a8 a7 (by omega);omega
theorem aC0 (f s p c:Int)(w:World):U 73 #[aT f s p c] w (O (.bool (bO f s p c)) w):=by
 by_cases c1:0≤f
 ·by_cases c2:f<1440
  ·by_cases c3:1≤s
   ·by_cases c4:s≤1440
    ·by_cases c5:0≤p
     ·by_cases c6:p≤99
      ·by_cases c7:0≤c
       ·by_cases c8:c≤99
        ·go_enter func73,ntmps73;go_wp2;go_ret;exact⟨aQ (by simp[bO];omega),by exact .alloc (.refl _) _⟩
        go_enter func73,ntmps73;go_wp2;go_ret;exact⟨aQ (by simp[bO];omega),by exact .alloc (.refl _) _⟩
       go_enter func73,ntmps73;go_wp2;go_ret;exact⟨aQ (by simp[bO];omega),by exact .alloc (.refl _) _⟩
      go_enter func73,ntmps73;go_wp2;go_ret;exact⟨aQ (by simp[bO];omega),by exact .alloc (.refl _) _⟩
     go_enter func73,ntmps73;go_wp2;go_ret;exact⟨aQ (by simp[bO];omega),by exact .alloc (.refl _) _⟩
    go_enter func73,ntmps73;go_wp2;go_ret;exact⟨aQ (by simp[bO];omega),by exact .alloc (.refl _) _⟩
   go_enter func73,ntmps73;go_wp2;go_ret;exact⟨aQ (by simp[bO];omega),by exact .alloc (.refl _) _⟩
  go_enter func73,ntmps73;go_wp2;go_ret;exact⟨aQ (by simp[bO];omega),by exact .alloc (.refl _) _⟩
 go_enter func73,ntmps73;go_wp2;go_ret;exact⟨aQ (by simp[bO];omega),by exact .alloc (.refl _) _⟩
theorem aB5 (f s p c:Int)(w:World):U 49 #[aT f s p c] w (O (.bool (bO f s p c)) w):=by
 by_cases c1:0≤f
 ·by_cases c2:f<1440
  ·by_cases c3:1≤s
   ·by_cases c4:s≤1440
    ·by_cases c5:0≤p
     ·by_cases c6:p≤99
      ·by_cases c7:0≤c
       ·by_cases c8:c≤99
        ·go_enter func49,ntmps49;go_wp2_with go_in;go_ret;exact⟨aQ (by simp[bO];omega),by exact .alloc (.refl _) _⟩
        go_enter func49,ntmps49;go_wp2_with go_in;go_ret;exact⟨aQ (by simp[bO];omega),by exact .alloc (.refl _) _⟩
       go_enter func49,ntmps49;go_wp2_with go_in;go_ret;exact⟨aQ (by simp[bO];omega),by exact .alloc (.refl _) _⟩
      go_enter func49,ntmps49;go_wp2_with go_in;go_ret;exact⟨aQ (by simp[bO];omega),by exact .alloc (.refl _) _⟩
     go_enter func49,ntmps49;go_wp2_with go_in;go_ret;exact⟨aQ (by simp[bO];omega),by exact .alloc (.refl _) _⟩
    go_enter func49,ntmps49;go_wp2_with go_in;go_ret;exact⟨aQ (by simp[bO];omega),by exact .alloc (.refl _) _⟩
   go_enter func49,ntmps49;go_wp2_with go_in;go_ret;exact⟨aQ (by simp[bO];omega),by exact .alloc (.refl _) _⟩
  go_enter func49,ntmps49;go_wp2_with go_in;go_ret;exact⟨aQ (by simp[bO];omega),by exact .alloc (.refl _) _⟩
 go_enter func49,ntmps49;go_wp2_with go_in;go_ret;exact⟨aQ (by simp[bO];omega),by exact .alloc (.refl _) _⟩
theorem aN5 (i p a:Int)(w:World):U 75 #[bS i p a] w (O (.bool (dF i p a)) w):=by
 by_cases c1:0≤i
 ·by_cases c2:i≤9999
  ·by_cases c3:0≤p
   ·by_cases c4:p≤9999
    ·by_cases c5:i≤a
     ·by_cases c6:a≤9999
      ·go_enter func75,ntmps75;go_wp2;go_ret;exact⟨aQ (by simp[dF];omega),by exact .alloc (.refl _) _⟩
      go_enter func75,ntmps75;go_wp2;go_ret;exact⟨aQ (by simp[dF];omega),by exact .alloc (.refl _) _⟩
     go_enter func75,ntmps75;go_wp2;go_ret;exact⟨aQ (by simp[dF];omega),by exact .alloc (.refl _) _⟩
    go_enter func75,ntmps75;go_wp2;go_ret;exact⟨aQ (by simp[dF];omega),by exact .alloc (.refl _) _⟩
   go_enter func75,ntmps75;go_wp2;go_ret;exact⟨aQ (by simp[dF];omega),by exact .alloc (.refl _) _⟩
  go_enter func75,ntmps75;go_wp2;go_ret;exact⟨aQ (by simp[dF];omega),by exact .alloc (.refl _) _⟩
 go_enter func75,ntmps75;go_wp2;go_ret;exact⟨aQ (by simp[dF];omega),by exact .alloc (.refl _) _⟩
theorem aLr (i p a:Int)(w:World):U 51 #[bS i p a] w (O (.bool (dF i p a)) w):=by
 by_cases c1:0≤i
 ·by_cases c2:i≤9999
  ·by_cases c3:0≤p
   ·by_cases c4:p≤9999
    ·by_cases c5:i≤a
     ·by_cases c6:a≤9999
      ·go_enter func51,ntmps51;go_wp2_with go_in;go_ret;exact⟨aQ (by simp[dF];omega),by exact .alloc (.refl _) _⟩
      go_enter func51,ntmps51;go_wp2_with go_in;go_ret;exact⟨aQ (by simp[dF];omega),by exact .alloc (.refl _) _⟩
     go_enter func51,ntmps51;go_wp2_with go_in;go_ret;exact⟨aQ (by simp[dF];omega),by exact .alloc (.refl _) _⟩
    go_enter func51,ntmps51;go_wp2_with go_in;go_ret;exact⟨aQ (by simp[dF];omega),by exact .alloc (.refl _) _⟩
   go_enter func51,ntmps51;go_wp2_with go_in;go_ret;exact⟨aQ (by simp[dF];omega),by exact .alloc (.refl _) _⟩
  go_enter func51,ntmps51;go_wp2_with go_in;go_ret;exact⟨aQ (by simp[dF];omega),by exact .alloc (.refl _) _⟩
 go_enter func51,ntmps51;go_wp2_with go_in;go_ret;exact⟨aQ (by simp[dF];omega),by exact .alloc (.refl _) _⟩
theorem aNh (f s p c m:Int)(w:World)(h:bO f s p c=true)(h0:0≤m)(h1:m≤9999):U 200 #[aT f s p c,m] w (O (I (fI f s m)) w):=by
 obtain⟨a1,a2,a3,a4,a5,a6,a7,a8⟩:=iD h;have HT:Hid (∀w,U 73 #[aT f s p c] w (O (.bool true) w)):=fun w=>by rw[←h];exact aC0 f s p c w
 have HB:=xQ (jJ (m:=m) a1 a3 h1);clear h;by_cases hm:m≤f
 ·have hf:Hid (fI f s m=0):=if_pos hm;go_enter func200,ntmps200;go_wp2_with fail;refine Z (HT _) fun w1 a=>?_
  have b:=a.cells.1;go_wp2;go_ret;exact⟨dV hf.out.symm,by exact .trans (.alloc (.refl _) _) a⟩
 have hf:Hid (fI f s m=(m-f+s-1)/s):=if_neg hm;go_enter func200,ntmps200;go_wp2_with fail;refine Z (HT _) fun w1 a=>?_
 have b:=a.cells.1;go_wp2;go_ret;exact⟨dV hf.out.symm,by exact .trans (.alloc (.refl _) _) a⟩
theorem aM5 (f s p c m:Int)(w:World)(h:bO f s p c=true)(h0:0≤m)(h1:m≤9999):U 174 #[aT f s p c,m] w (O (I (fI f s m)) w):=by
 obtain⟨a1,a2,a3,a4,a5,a6,a7,a8⟩:=iD h;have HT:Hid (∀w,U 49 #[aT f s p c] w (O (.bool true) w)):=fun w=>by rw[←h];exact aB5 f s p c w
 have hf:=xQ (aCl (f:=f) (m:=m) a3);clear h;go_enter func174,ntmps174;go_wp2_with (first|(go_at_call 49;refine Z (HT _) fun w1 a=>?_;have b:=a.cells.1)|go_in);all_goals go_ret
 all_goals exact⟨dV (by rw[←hf.out];congr 1;omega),by exact .trans (.alloc (.refl _) _) a⟩
theorem aQu (f s p c m:Int)(w:World)(h:bO f s p c=true)(h0:0≤m)(h1:m≤9999):U 166 #[aT f s p c,m] w (O (I (nK f s p c m)) w):=by
 obtain⟨a1,a2,a3,a4,a5,a6,a7,a8⟩:=iD h;have HT:Hid (∀w,U 73 #[aT f s p c] w (O (.bool true) w)):=fun w=>by rw[←h];exact aC0 f s p c w
 obtain⟨q,hq⟩: ∃q,q=fI f s (m%1440):=⟨_,rfl⟩
 have g:0≤q∧q≤9999:=by rw[hq];exact jJ a1 a3 (by omega)
 obtain⟨q2,d⟩: ∃q,q=fI f s m:=⟨_,rfl⟩
 have j:0≤q2∧q2≤9999:=by rw[d];exact jJ a1 a3 (by omega)
 have HF:Hid (∀w,U 200 #[aT f s p c,(m%1440:Int)] w (O (I q) w)):=fun w=>by rw[hq];exact aNh f s p c _ w h (by omega) (by omega)
 have k:Hid (∀w,U 200 #[aT f s p c,m] w (O (I q2) w)):=fun w=>by rw[d];exact aNh f s p c _ w h (by omega) (by omega)
 have b:nK f s p c m=m/1440*c+min (q*p) c:=by rw[hq];rfl
 rw[b];obtain⟨b1,b2⟩:=uF g.1 g.2 a5 a6;have b3:0≤m/1440*c:=Int.mul_nonneg (by omega) a7;have b4:m/1440*c≤6*99:=Int.mul_le_mul (by omega) a8 a7 (by omega);clear hq d b h;go_enter func166,ntmps166;go_wp2_with fail;refine Z (HT _) fun w1 a=>?_
 have n:(w:Nat)<w1:=aRo (by simp) a.sz;have e0:w1.cell? ⟨w,0,none⟩=some (I f):=by rw[a.cells.1 _ _ (by simp)];simp
 have e1:w1.cell? ⟨w,1,none⟩=some (I s):=by rw[a.cells.1 _ _ (by simp)];simp
 have e2:w1.cell? ⟨w,2,none⟩=some (I p):=by rw[a.cells.1 _ _ (by simp)];simp
 have e3:w1.cell? ⟨w,3,none⟩=some (I c):=by rw[a.cells.1 _ _ (by simp)];simp
 go_wp2_with fail;have hq:=aU2 m 1440 ⟨h0,by omega,by omega⟩;have hr:=IntWalk.rem_in m 1440 h0;have i:IntKind.i64.wrap (m%1440)=m%1440:=aRr _ (by omega);have k1:IntKind.i64.wrap (q*p)=q*p:=aRr _ (by omega);have k2:IntKind.i64.wrap (m/1440*c)=m/1440*c:=aRr _ (by omega);have k3:IntKind.i64.wrap (m/1440*c+c)=m/1440*c+c:=aRr _ (by omega);have k4:IntKind.i64.wrap (m/1440*c+q*p)=m/1440*c+q*p:=aRr _ (by omega)
 go_region_held3 (fun w'=>w'.cell? ⟨w,0,none⟩=some (I f)∧w'.cell? ⟨w,1,none⟩=some (I s)∧w'.cell? ⟨w,2,none⟩=some (I p)∧w'.cell? ⟨w,3,none⟩=some (I c)) (go_keep)
  ((go_at_call 200;refine Z (HF _) fun w2 h2=>?_;(try replace h2:=h2.of_drew);have l:=h2.cells.1;have o:(w:Nat)<w2:=aRo (by assumption) h2.sz))
 all_goals clear hq hr i k1 k2 k3 k4
 all_goals go_wp2
 all_goals go_ret
 all_goals exact⟨dV (by first|omega|(rw[aRr _ (by omega)];omega)),by exact .trans (.trans (.alloc (.refl _) _) a) h2⟩
theorem aQd (f s p c m:Int)(w:World)(h:bO f s p c=true)(h0:0≤m)(h1:m≤9999):U 145 #[aT f s p c,m] w (O (I (nK f s p c m)) w):=by
 obtain⟨a1,a2,a3,a4,a5,a6,a7,a8⟩:=iD h;have HT:Hid (∀w,U 49 #[aT f s p c] w (O (.bool true) w)):=fun w=>by rw[←h];exact aB5 f s p c w
 obtain⟨q,hq⟩: ∃q,q=fI f s (m%1440):=⟨_,rfl⟩
 have g:0≤q∧q≤9999:=by rw[hq];exact jJ a1 a3 (by omega)
 obtain⟨q2,d⟩: ∃q,q=fI f s m:=⟨_,rfl⟩
 have k:0≤q2∧q2≤9999:=by rw[d];exact jJ a1 a3 (by omega)
 have HF:Hid (∀w,U 174 #[aT f s p c,(m%1440:Int)] w (O (I q) w)):=fun w=>by rw[hq];exact aM5 f s p c _ w h (by omega) (by omega)
 have i:Hid (∀w,U 174 #[aT f s p c,m] w (O (I q2) w)):=fun w=>by rw[d];exact aM5 f s p c _ w h (by omega) (by omega)
 have b:nK f s p c m=m/1440*c+min (q*p) c:=by rw[hq];rfl
 rw[b];obtain⟨b1,b2⟩:=uF g.1 g.2 a5 a6;have b3:0≤m/1440*c:=Int.mul_nonneg (by omega) a7;have b4:m/1440*c≤6*99:=Int.mul_le_mul (by omega) a8 a7 (by omega);clear hq d b h;go_enter func145,ntmps145;go_wp2_with fail;refine Z (i _) fun w1 a=>?_
 have n:(w:Nat)<w1:=aRo (by simp) a.sz;have e0:w1.cell? ⟨w,0,none⟩=some (I f):=by rw[a.cells.1 _ _ (by simp)];simp
 have e1:w1.cell? ⟨w,1,none⟩=some (I s):=by rw[a.cells.1 _ _ (by simp)];simp
 have e2:w1.cell? ⟨w,2,none⟩=some (I p):=by rw[a.cells.1 _ _ (by simp)];simp
 have e3:w1.cell? ⟨w,3,none⟩=some (I c):=by rw[a.cells.1 _ _ (by simp)];simp
 go_wp2_with fail;have hq:=aU2 m 1440 ⟨h0,by omega,by omega⟩;have hr:=IntWalk.rem_in m 1440 h0;have j:IntKind.i64.wrap (m%1440)=m%1440:=aRr _ (by omega);have k1:IntKind.i64.wrap (q*p)=q*p:=aRr _ (by omega);have k2:IntKind.i64.wrap (m/1440*c)=m/1440*c:=aRr _ (by omega);have k3:IntKind.i64.wrap (m/1440*c+c)=m/1440*c+c:=aRr _ (by omega);have k4:IntKind.i64.wrap (m/1440*c+q*p)=m/1440*c+q*p:=aRr _ (by omega)
 go_region_held3 (fun w'=>w'.cell? ⟨w,0,none⟩=some (I f)∧w'.cell? ⟨w,1,none⟩=some (I s)∧w'.cell? ⟨w,2,none⟩=some (I p)∧w'.cell? ⟨w,3,none⟩=some (I c)) (go_keep)
  ((go_at_call 174;refine Z (HF _) fun w2 h2=>?_;(try replace h2:=h2.of_drew);have l:=h2.cells.1;have o:(w:Nat)<w2:=aRo (by assumption) h2.sz))
 all_goals clear hq hr j k1 k2 k3 k4
 all_goals go_wp2
 all_goals go_ret
 all_goals exact⟨dV (by first|omega|(rw[aRr _ (by omega)];omega)),by exact .trans (.trans (.alloc (.refl _) _) a) h2⟩
theorem xP (f s p c i pd a now:Int)(w:World)(h:bO f s p c=true)(h2:dF i pd a=true)(h3:a≤now)(h4:now≤9999):U 130 #[aT f s p c,bS i pd a,now] w (O (I (cC f s p c i pd a now)) w):=by
 obtain⟨b1,b2,b3,b4,b5,b6⟩:=fM h2;have HT:Hid (∀w,U 73 #[aT f s p c] w (O (.bool true) w)):=fun w=>by rw[←h];exact aC0 f s p c w
 have HS:Hid (∀w,U 75 #[bS i pd a] w (O (.bool true) w)):=fun w=>by rw[←h2];exact aN5 i pd a w
 obtain⟨q,hq⟩: ∃q,q=nK f s p c (now-i):=⟨_,rfl⟩
 have o:0≤q∧q≤693:=by rw[hq];exact pL h (by omega) (by omega)
 have HF:Hid (∀w,U 166 #[aT f s p c,(now-i:Int)] w (O (I q) w)):=fun w=>by rw[hq];exact aQu f s p c _ w h (by omega) (by omega)
 have j:cC f s p c i pd a now=max (q-pd) 0:=by rw[hq];simp[cC,h,h2,h3,h4]
 rw[j];clear hq j h h2;go_enter func130,ntmps130;go_wp2_with fail;refine Z (HT _) fun w1 b=>?_
 have k:(w:Nat)<w1:=aRo (by simp;omega) b.sz;have l:w.heap.size+1<w1.heap.size:=aRo (by simp) b.sz;have e0:w1.cell? ⟨w,0,none⟩=some (I f):=by rw[b.cells.1 _ _ (by simp;omega)];simp
 have e1:w1.cell? ⟨w,1,none⟩=some (I s):=by rw[b.cells.1 _ _ (by simp;omega)];simp
 have e2:w1.cell? ⟨w,2,none⟩=some (I p):=by rw[b.cells.1 _ _ (by simp;omega)];simp
 have e3:w1.cell? ⟨w,3,none⟩=some (I c):=by rw[b.cells.1 _ _ (by simp;omega)];simp
 have g0:w1.cell? ⟨w.heap.size+1,0,none⟩=some (I i):=by rw[b.cells.1 _ _ (by simp)];simp
 have g1:w1.cell? ⟨w.heap.size+1,1,none⟩=some (I pd):=by rw[b.cells.1 _ _ (by simp)];simp
 have g2:w1.cell? ⟨w.heap.size+1,2,none⟩=some (I a):=by rw[b.cells.1 _ _ (by simp)];simp
 go_wp2_with (first|(go_at_call 75;refine Z (HS _) fun w2 g=>?_;have m:=g.cells.1;have r:(w:Nat)<w2:=aRo k g.sz;have t:w.heap.size+1<w2.heap.size:=aRo l g.sz)|go_in);have k1:IntKind.i64.wrap (now-i)=now-i:=aRr _ (by omega);have k2:IntKind.i64.wrap (q-pd)=q-pd:=aRr _ (by omega)
 go_region_held3 (fun w'=>w'.cell? ⟨w,0,none⟩=some (I f)∧w'.cell? ⟨w,1,none⟩=some (I s)∧w'.cell? ⟨w,2,none⟩=some (I p)∧w'.cell? ⟨w,3,none⟩=some (I c)∧w'.cell? ⟨w.heap.size+1,0,none⟩=some (I i)∧w'.cell? ⟨w.heap.size+1,1,none⟩=some (I pd)) (go_keep)
  ((go_at_call 166;refine Z (HF _) fun w3 d=>?_;(try replace d:=d.of_drew);have n:=d.cells.1;have u:(w:Nat)<w3:=aRo (by assumption) d.sz;have v:w.heap.size+1<w3.heap.size:=aRo (by assumption) d.sz))
 all_goals clear k1 k2
 all_goals go_wp2
 all_goals go_ret
 all_goals exact⟨dV (by omega),by exact .trans (.trans (.trans (.alloc (.alloc (.refl _) _) _) b) g) d⟩
theorem aB7 (f s p c i pd a now:Int)(w:World)(h:bO f s p c=true)(h2:dF i pd a=true)(h3:a≤now)(h4:now≤9999):U 113 #[aT f s p c,bS i pd a,now] w (O (I (cC f s p c i pd a now)) w):=by
 obtain⟨b1,b2,b3,b4,b5,b6⟩:=fM h2;have HT:Hid (∀w,U 49 #[aT f s p c] w (O (.bool true) w)):=fun w=>by rw[←h];exact aB5 f s p c w
 have HS:Hid (∀w,U 51 #[bS i pd a] w (O (.bool true) w)):=fun w=>by rw[←h2];exact aLr i pd a w
 obtain⟨q,hq⟩: ∃q,q=nK f s p c (now-i):=⟨_,rfl⟩
 have o:0≤q∧q≤693:=by rw[hq];exact pL h (by omega) (by omega)
 have HF:Hid (∀w,U 145 #[aT f s p c,(now-i:Int)] w (O (I q) w)):=fun w=>by rw[hq];exact aQd f s p c _ w h (by omega) (by omega)
 have j:cC f s p c i pd a now=max (q-pd) 0:=by rw[hq];simp[cC,h,h2,h3,h4]
 rw[j];clear hq j h h2;go_enter func113,ntmps113;go_wp2_with fail;refine Z (HT _) fun w1 b=>?_
 have k:(w:Nat)<w1:=aRo (by simp;omega) b.sz;have l:w.heap.size+1<w1.heap.size:=aRo (by simp) b.sz;have e0:w1.cell? ⟨w,0,none⟩=some (I f):=by rw[b.cells.1 _ _ (by simp;omega)];simp
 have e1:w1.cell? ⟨w,1,none⟩=some (I s):=by rw[b.cells.1 _ _ (by simp;omega)];simp
 have e2:w1.cell? ⟨w,2,none⟩=some (I p):=by rw[b.cells.1 _ _ (by simp;omega)];simp
 have e3:w1.cell? ⟨w,3,none⟩=some (I c):=by rw[b.cells.1 _ _ (by simp;omega)];simp
 have g0:w1.cell? ⟨w.heap.size+1,0,none⟩=some (I i):=by rw[b.cells.1 _ _ (by simp)];simp
 have g1:w1.cell? ⟨w.heap.size+1,1,none⟩=some (I pd):=by rw[b.cells.1 _ _ (by simp)];simp
 have g2:w1.cell? ⟨w.heap.size+1,2,none⟩=some (I a):=by rw[b.cells.1 _ _ (by simp)];simp
 go_wp2_with (first|(go_at_call 51;refine Z (HS _) fun w2 g=>?_;have m:=g.cells.1;have r:(w:Nat)<w2:=aRo k g.sz;have t:w.heap.size+1<w2.heap.size:=aRo l g.sz)|go_in);have k1:IntKind.i64.wrap (now-i)=now-i:=aRr _ (by omega);have k2:IntKind.i64.wrap (q-pd)=q-pd:=aRr _ (by omega)
 go_region_held3 (fun w'=>w'.cell? ⟨w,0,none⟩=some (I f)∧w'.cell? ⟨w,1,none⟩=some (I s)∧w'.cell? ⟨w,2,none⟩=some (I p)∧w'.cell? ⟨w,3,none⟩=some (I c)∧w'.cell? ⟨w.heap.size+1,0,none⟩=some (I i)∧w'.cell? ⟨w.heap.size+1,1,none⟩=some (I pd)) (go_keep)
  ((go_at_call 145;refine Z (HF _) fun w3 d=>?_;(try replace d:=d.of_drew);have n:=d.cells.1;have u:(w:Nat)<w3:=aRo (by assumption) d.sz;have v:w.heap.size+1<w3.heap.size:=aRo (by assumption) d.sz))
 all_goals clear k1 k2
 all_goals go_wp2
 all_goals go_ret
 all_goals exact⟨dV (by omega),by exact .trans (.trans (.trans (.alloc (.alloc (.refl _) _) _) b) g) d⟩
theorem aNc (f s p c i pd a now d1 d2:Int)(w:World)(h0:0≤d1)(h2:0≤d2)(h3:a≤now)(h4:now≤9999)(h5:0≤a)(t1:(d1==0)=true)
  (HA:Hid (∀w,U 130 #[aT f s p c,bS i pd a,now] w (O (I d1) w)))
  (HB:Hid (∀w,U 130 #[aT f s p c,bS i pd a,a] w (O (I d2) w))):
  U 135 #[aT f s p c,bS i pd a,now] w (O (.bool true) w):=by
 go_enter func135,ntmps135;go_wp2_with fail;refine Z (HA _) fun w1 b=>?_
 have g:(w:Nat)<w1:=aRo (by simp;omega) b.sz;have h:w.heap.size+1<w1.heap.size:=aRo (by simp) b.sz;have d:=b.cells.1;go_wp2;go_ret;exact⟨aQ (by first|rfl|(simp;omega)),by exact .trans (.alloc (.alloc (.refl _) _) _) b⟩
theorem aNb (f s p c i pd a now d1 d2:Int)(w:World)(h0:0≤d1)(h2:0≤d2)(h3:a≤now)(h4:now≤9999)(h5:0≤a)(t1:(d1==0)=false)(t2:15<now-a)(t3:(d2==0)=true)
  (HA:Hid (∀w,U 130 #[aT f s p c,bS i pd a,now] w (O (I d1) w)))
  (HB:Hid (∀w,U 130 #[aT f s p c,bS i pd a,a] w (O (I d2) w))):
  U 135 #[aT f s p c,bS i pd a,now] w (O (.bool false) w):=by
 go_enter func135,ntmps135;go_wp2_with fail;refine Z (HA _) fun w1 b=>?_
 have g:(w:Nat)<w1:=aRo (by simp;omega) b.sz;have h:w.heap.size+1<w1.heap.size:=aRo (by simp) b.sz;have d:=b.cells.1;go_wp2;go_ret;exact⟨aQ (by first|rfl|(simp;omega)),by exact .trans (.alloc (.alloc (.refl _) _) _) b⟩
theorem aNa (f s p c i pd a now d1 d2:Int)(w:World)(h0:0≤d1)(h2:0≤d2)(h3:a≤now)(h4:now≤9999)(h5:0≤a)(t1:(d1==0)=false)(t2:now-a≤15)(t3:(d2==0)=true)
  (HA:Hid (∀w,U 130 #[aT f s p c,bS i pd a,now] w (O (I d1) w)))
  (HB:Hid (∀w,U 130 #[aT f s p c,bS i pd a,a] w (O (I d2) w))):
  U 135 #[aT f s p c,bS i pd a,now] w (O (.bool true) w):=by
 go_enter func135,ntmps135;go_wp2_with fail;refine Z (HA _) fun w1 b=>?_
 have g:(w:Nat)<w1:=aRo (by simp;omega) b.sz;have h:w.heap.size+1<w1.heap.size:=aRo (by simp) b.sz;have j:=b.cells.1;go_wp2_with fail;refine Z (HB _) fun w2 d=>?_
 have l:=aRo g d.sz;have m:=aRo h d.sz;have k:=d.cells.1;go_wp2;go_ret;exact⟨aQ (by first|rfl|(simp;omega)),by exact .trans (.trans (.alloc (.alloc (.refl _) _) _) b) d⟩
theorem aN9 (f s p c i pd a now d1 d2:Int)(w:World)(h0:0≤d1)(h2:0≤d2)(h3:a≤now)(h4:now≤9999)(h5:0≤a)(t1:(d1==0)=false)(t2:15<now-a)(t3:(d2==0)=false)
  (HA:Hid (∀w,U 130 #[aT f s p c,bS i pd a,now] w (O (I d1) w)))
  (HB:Hid (∀w,U 130 #[aT f s p c,bS i pd a,a] w (O (I d2) w))):
  U 135 #[aT f s p c,bS i pd a,now] w (O (.bool false) w):=by
 go_enter func135,ntmps135;go_wp2_with fail;refine Z (HA _) fun w1 b=>?_
 have g:(w:Nat)<w1:=aRo (by simp;omega) b.sz;have h:w.heap.size+1<w1.heap.size:=aRo (by simp) b.sz;have d:=b.cells.1;go_wp2;go_ret;exact⟨aQ (by first|rfl|(simp;omega)),by exact .trans (.alloc (.alloc (.refl _) _) _) b⟩
theorem aN8 (f s p c i pd a now d1 d2:Int)(w:World)(h0:0≤d1)(h2:0≤d2)(h3:a≤now)(h4:now≤9999)(h5:0≤a)(t1:(d1==0)=false)(t2:now-a≤15)(t3:(d2==0)=false)
  (HA:Hid (∀w,U 130 #[aT f s p c,bS i pd a,now] w (O (I d1) w)))
  (HB:Hid (∀w,U 130 #[aT f s p c,bS i pd a,a] w (O (I d2) w))):
  U 135 #[aT f s p c,bS i pd a,now] w (O (.bool false) w):=by
 go_enter func135,ntmps135;go_wp2_with fail;refine Z (HA _) fun w1 b=>?_
 have g:(w:Nat)<w1:=aRo (by simp;omega) b.sz;have h:w.heap.size+1<w1.heap.size:=aRo (by simp) b.sz;have j:=b.cells.1;go_wp2_with fail;refine Z (HB _) fun w2 d=>?_
 have l:=aRo g d.sz;have m:=aRo h d.sz;have k:=d.cells.1;go_wp2;go_ret;exact⟨aQ (by first|rfl|(simp;omega)),by exact .trans (.trans (.alloc (.alloc (.refl _) _) _) b) d⟩
theorem aQq (f s p c i pd a now:Int)(w:World)(h:bO f s p c=true)(h2:dF i pd a=true)(h3:a≤now)(h4:now≤9999):U 135 #[aT f s p c,bS i pd a,now] w (O (.bool (lX f s p c i pd a now)) w):=by
 obtain⟨b1,b2,b3,b4,b5,b6⟩:=fM h2;have e1:0≤cC f s p c i pd a now:=by unfold cC;rw[if_pos (by simp[h,h2,h3,h4])];omega
 have e2:0≤cC f s p c i pd a a:=by unfold cC;rw[if_pos (by simp[h,h2];omega)];omega
 have hr:lX f s p c i pd a now=(decide (cC f s p c i pd a now=0) || (decide (now-a≤15)&&decide (cC f s p c i pd a a=0))):=by simp[lX,e1]
 have hA:=fun w=>xP f s p c i pd a now w h h2 h3 h4
 have hB:=fun w=>xP f s p c i pd a a w h h2 (by omega) b6
 rw[hr];generalize cC f s p c i pd a now=d1 at*;generalize cC f s p c i pd a a=d2 at*;by_cases t1:d1=0
 ·rw[show(decide (d1=0) || (decide (now-a≤15)&&decide (d2=0)))=true by simp[t1]];exact aNc f s p c i pd a now d1 d2 w e1 e2 h3 h4 (by omega) (by simp[t1]) hA hB
 by_cases t2:now-a≤15
 ·by_cases t3:d2=0
  ·rw[show(decide (d1=0) || (decide (now-a≤15)&&decide (d2=0)))=true by simp[t2,t3]];exact aNa f s p c i pd a now d1 d2 w e1 e2 h3 h4 (by omega) (by simp[t1]) t2 (by simp[t3]) hA hB
  rw[show(decide (d1=0) || (decide (now-a≤15)&&decide (d2=0)))=false by simp[t1,t3]];exact aN8 f s p c i pd a now d1 d2 w e1 e2 h3 h4 (by omega) (by simp[t1]) t2 (by simp[t3]) hA hB
 by_cases t3:d2=0
 ·rw[show(decide (d1=0) || (decide (now-a≤15)&&decide (d2=0)))=false by simp[t1,t2]];exact aNb f s p c i pd a now d1 d2 w e1 e2 h3 h4 (by omega) (by simp[t1]) (by omega) (by simp[t3]) hA hB
 rw[show(decide (d1=0) || (decide (now-a≤15)&&decide (d2=0)))=false by simp[t1,t2]];exact aN9 f s p c i pd a now d1 d2 w e1 e2 h3 h4 (by omega) (by simp[t1]) (by omega) (by simp[t3]) hA hB
theorem aM0 (f s p c i pd a now d1 d2:Int)(w:World)(h0:0≤d1)(h2:0≤d2)(h3:a≤now)(h4:now≤9999)(h5:0≤a)(t1:(d1==0)=true)
  (HA:Hid (∀w,U 113 #[aT f s p c,bS i pd a,now] w (O (I d1) w)))
  (HB:Hid (∀w,U 113 #[aT f s p c,bS i pd a,a] w (O (I d2) w))):
  U 108 #[aT f s p c,bS i pd a,now] w (O (.bool true) w):=by
 go_enter func108,ntmps108;go_wp2_with fail;refine Z (HA _) fun w1 b=>?_
 have g:(w:Nat)<w1:=aRo (by simp;omega) b.sz;have h:w.heap.size+1<w1.heap.size:=aRo (by simp) b.sz;have j:=b.cells.1;go_wp2_with fail;refine Z (HA _) fun w2 d=>?_
 have l:=aRo g d.sz;have m:=aRo h d.sz;have k:=d.cells.1;go_wp2;go_ret;exact⟨aQ (by first|rfl|(simp;omega)),by exact .trans (.trans (.alloc (.alloc (.refl _) _) _) b) d⟩
theorem aLz (f s p c i pd a now d1 d2:Int)(w:World)(h0:0≤d1)(h2:0≤d2)(h3:a≤now)(h4:now≤9999)(h5:0≤a)(t1:(d1==0)=false)(t2:15<now-a)(t3:(d2==0)=true)
  (HA:Hid (∀w,U 113 #[aT f s p c,bS i pd a,now] w (O (I d1) w)))
  (HB:Hid (∀w,U 113 #[aT f s p c,bS i pd a,a] w (O (I d2) w))):
  U 108 #[aT f s p c,bS i pd a,now] w (O (.bool false) w):=by
 go_enter func108,ntmps108;go_wp2_with fail;refine Z (HA _) fun w1 b=>?_
 have h:(w:Nat)<w1:=aRo (by simp;omega) b.sz;have j:w.heap.size+1<w1.heap.size:=aRo (by simp) b.sz;have m:=b.cells.1;go_wp2_with fail;refine Z (HA _) fun w2 d=>?_
 have k:=aRo h d.sz;have l:=aRo j d.sz;have n:=d.cells.1;go_wp2_with fail;refine Z (HB _) fun w3 g=>?_
 have q:=aRo k g.sz;have r:=aRo l g.sz;have o:=g.cells.1;go_wp2;go_ret;exact⟨aQ (by first|rfl|(simp;omega)),by exact .trans (.trans (.trans (.alloc (.alloc (.refl _) _) _) b) d) g⟩
theorem aLy (f s p c i pd a now d1 d2:Int)(w:World)(h0:0≤d1)(h2:0≤d2)(h3:a≤now)(h4:now≤9999)(h5:0≤a)(t1:(d1==0)=false)(t2:now-a≤15)(t3:(d2==0)=true)
  (HA:Hid (∀w,U 113 #[aT f s p c,bS i pd a,now] w (O (I d1) w)))
  (HB:Hid (∀w,U 113 #[aT f s p c,bS i pd a,a] w (O (I d2) w))):
  U 108 #[aT f s p c,bS i pd a,now] w (O (.bool true) w):=by
 go_enter func108,ntmps108;go_wp2_with fail;refine Z (HA _) fun w1 b=>?_
 have h:(w:Nat)<w1:=aRo (by simp;omega) b.sz;have j:w.heap.size+1<w1.heap.size:=aRo (by simp) b.sz;have m:=b.cells.1;go_wp2_with fail;refine Z (HA _) fun w2 d=>?_
 have k:=aRo h d.sz;have l:=aRo j d.sz;have n:=d.cells.1;go_wp2_with fail;refine Z (HB _) fun w3 g=>?_
 have q:=aRo k g.sz;have r:=aRo l g.sz;have o:=g.cells.1;go_wp2;go_ret;exact⟨aQ (by first|rfl|(simp;omega)),by exact .trans (.trans (.trans (.alloc (.alloc (.refl _) _) _) b) d) g⟩
theorem aLx (f s p c i pd a now d1 d2:Int)(w:World)(h0:0≤d1)(h2:0≤d2)(h3:a≤now)(h4:now≤9999)(h5:0≤a)(t1:(d1==0)=false)(t2:15<now-a)(t3:(d2==0)=false)
  (HA:Hid (∀w,U 113 #[aT f s p c,bS i pd a,now] w (O (I d1) w)))
  (HB:Hid (∀w,U 113 #[aT f s p c,bS i pd a,a] w (O (I d2) w))):
  U 108 #[aT f s p c,bS i pd a,now] w (O (.bool false) w):=by
 go_enter func108,ntmps108;go_wp2_with fail;refine Z (HA _) fun w1 b=>?_
 have h:(w:Nat)<w1:=aRo (by simp;omega) b.sz;have j:w.heap.size+1<w1.heap.size:=aRo (by simp) b.sz;have m:=b.cells.1;go_wp2_with fail;refine Z (HA _) fun w2 d=>?_
 have k:=aRo h d.sz;have l:=aRo j d.sz;have n:=d.cells.1;go_wp2_with fail;refine Z (HB _) fun w3 g=>?_
 have q:=aRo k g.sz;have r:=aRo l g.sz;have o:=g.cells.1;go_wp2;go_ret;exact⟨aQ (by first|rfl|(simp;omega)),by exact .trans (.trans (.trans (.alloc (.alloc (.refl _) _) _) b) d) g⟩
theorem aLw (f s p c i pd a now d1 d2:Int)(w:World)(h0:0≤d1)(h2:0≤d2)(h3:a≤now)(h4:now≤9999)(h5:0≤a)(t1:(d1==0)=false)(t2:now-a≤15)(t3:(d2==0)=false)
  (HA:Hid (∀w,U 113 #[aT f s p c,bS i pd a,now] w (O (I d1) w)))
  (HB:Hid (∀w,U 113 #[aT f s p c,bS i pd a,a] w (O (I d2) w))):
  U 108 #[aT f s p c,bS i pd a,now] w (O (.bool false) w):=by
 go_enter func108,ntmps108;go_wp2_with fail;refine Z (HA _) fun w1 b=>?_
 have h:(w:Nat)<w1:=aRo (by simp;omega) b.sz;have j:w.heap.size+1<w1.heap.size:=aRo (by simp) b.sz;have m:=b.cells.1;go_wp2_with fail;refine Z (HA _) fun w2 d=>?_
 have k:=aRo h d.sz;have l:=aRo j d.sz;have n:=d.cells.1;go_wp2_with fail;refine Z (HB _) fun w3 g=>?_
 have q:=aRo k g.sz;have r:=aRo l g.sz;have o:=g.cells.1;go_wp2;go_ret;exact⟨aQ (by first|rfl|(simp;omega)),by exact .trans (.trans (.trans (.alloc (.alloc (.refl _) _) _) b) d) g⟩
theorem aQb (f s p c i pd a now:Int)(w:World)(h:bO f s p c=true)(h2:dF i pd a=true)(h3:a≤now)(h4:now≤9999):U 108 #[aT f s p c,bS i pd a,now] w (O (.bool (lX f s p c i pd a now)) w):=by
 obtain⟨b1,b2,b3,b4,b5,b6⟩:=fM h2;have e1:0≤cC f s p c i pd a now:=by unfold cC;rw[if_pos (by simp[h,h2,h3,h4])];omega
 have e2:0≤cC f s p c i pd a a:=by unfold cC;rw[if_pos (by simp[h,h2];omega)];omega
 have hr:lX f s p c i pd a now=(decide (cC f s p c i pd a now=0) || (decide (now-a≤15)&&decide (cC f s p c i pd a a=0))):=by simp[lX,e1]
 have hA:=fun w=>aB7 f s p c i pd a now w h h2 h3 h4
 have hB:=fun w=>aB7 f s p c i pd a a w h h2 (by omega) b6
 rw[hr];generalize cC f s p c i pd a now=d1 at*;generalize cC f s p c i pd a a=d2 at*;by_cases t1:d1=0
 ·rw[show(decide (d1=0) || (decide (now-a≤15)&&decide (d2=0)))=true by simp[t1]];exact aM0 f s p c i pd a now d1 d2 w e1 e2 h3 h4 (by omega) (by simp[t1]) hA hB
 by_cases t2:now-a≤15
 ·by_cases t3:d2=0
  ·rw[show(decide (d1=0) || (decide (now-a≤15)&&decide (d2=0)))=true by simp[t2,t3]];exact aLy f s p c i pd a now d1 d2 w e1 e2 h3 h4 (by omega) (by simp[t1]) t2 (by simp[t3]) hA hB
  rw[show(decide (d1=0) || (decide (now-a≤15)&&decide (d2=0)))=false by simp[t1,t3]];exact aLw f s p c i pd a now d1 d2 w e1 e2 h3 h4 (by omega) (by simp[t1]) t2 (by simp[t3]) hA hB
 by_cases t3:d2=0
 ·rw[show(decide (d1=0) || (decide (now-a≤15)&&decide (d2=0)))=false by simp[t1,t2]];exact aLz f s p c i pd a now d1 d2 w e1 e2 h3 h4 (by omega) (by simp[t1]) (by omega) (by simp[t3]) hA hB
 rw[show(decide (d1=0) || (decide (now-a≤15)&&decide (d2=0)))=false by simp[t1,t2]];exact aLx f s p c i pd a now d1 d2 w e1 e2 h3 h4 (by omega) (by simp[t1]) (by omega) (by simp[t3]) hA hB
end
def mA (x:Int):List Int→List Int
 | []=> [x]
 |y::ys=>if y<x then y::mA x ys else x::y::ys
def fT (xs:List Int):List Int:=xs.foldl (fun acc x=>mA x acc) []
def dP (xs:List Int):List Int:=xs.filter (fun x=>decide (0<x))
def dY (xs:List Int):List Int:=fT (dP xs)
theorem nI (x:Int): ∀xs,List.Perm (mA x xs) (x::xs):=by
 intro xs;induction xs with
 |nil=>exact List.Perm.refl _
 |cons y ys ih=>
  unfold mA;split
  ·exact(List.Perm.cons y ih).trans (List.Perm.swap x y ys)
  exact List.Perm.refl _
theorem uY (x:Int): ∀xs,xs.Pairwise (·≤ ·)→(mA x xs).Pairwise (·≤ ·):=by
 intro xs;induction xs with
 |nil=>intro _;simp[mA]
 |cons y ys ih=>
  intro h;rw[List.pairwise_cons]at h;unfold mA;split
  ·rename_i hlt;rw[List.pairwise_cons];refine⟨fun z hz=> ?_,ih h.2⟩;rcases aS6.1 ((nI x ys).mem_iff.1 hz)with rfl|hz
   ·omega
   exact h.1 z hz
  rename_i hge;rw[List.pairwise_cons,List.pairwise_cons];refine⟨fun z hz=> ?_,h⟩;rcases aS6.1 hz with rfl|hz
  ·omega
  have:=h.1 z hz;omega
theorem wR (xs:List Int)(x:Int):fT (xs++ [x])=mA x (fT xs):=by simp[fT,List.foldl_append]
theorem aDi (xs:List Int):List.Perm (fT xs) xs∧(fT xs).Pairwise (·≤ ·):=by
 suffices h: ∀(n:Nat) (xs:List Int),xs.length=n→List.Perm (fT xs) xs∧(fT xs).Pairwise (·≤ ·)from h _ xs rfl
 intro n;induction n with
 |zero=>intro xs h;obtain rfl:=aSb h;simp[fT]
 |succ n ih=>
  intro xs h;have a:xs≠ []:=by intro e;rw[e]at h;simp at h
  rw[←List.dropLast_concat_getLast a,wR];obtain⟨h1,h2⟩:=ih xs.dropLast (by simp[h]);refine⟨?_,uY _ _ h2⟩;exact(nI _ _).trans ((List.Perm.cons _ h1).trans (List.perm_append_singleton _ _).symm)
theorem gW (xs:List Int):List.Perm (fT xs) xs:=(aDi xs).1
theorem lE (xs:List Int):(fT xs).Pairwise (·≤ ·):=(aDi xs).2
theorem zW (xs:List Int):(fT xs).length=xs.length:=(gW xs).length_eq
theorem mL (xs:List Int)(x:Int):dP (xs++ [x])=dP xs++(if 0<x then [x]else []):=by unfold dP;rw[aSl];congr 1;by_cases h:0<x<;>simp[h]
theorem kG (xs:List Int):(dP xs).length≤xs.length:=aSt _ _
theorem iX (xs:List Int):(dY xs).length=(dP xs).length:=zW _
theorem nT {xs ys:List Int}(h:List.Perm ys xs)(hs:ys.Pairwise (·≤ ·)):ys=fT xs:=
 List.Perm.eq_of_pairwise (fun a b _ _ h1 h2=>Int.le_antisymm h1 h2) hs (lE xs) (h.trans (gW xs).symm)
abbrev aP:=Int×Int×Int×Int
def aE (v:aP):List Value:= [.int .i64 v.1,.int .i64 v.2.1,.int .i64 v.2.2.1,.int .i64 v.2.2.2]
structure aL where
 aA:Int
 aB:Int
 cells:List Int
 free:Int
 step:Int
 aD:Int
 aF:Int
 aC:Int
 aG:Int
 vs:List aP
def fC (aC:Int)(v:aP):Bool:=dF v.2.1 v.2.2.1 v.2.2.2&&decide (v.2.2.2≤aC)
def bW (aC:Int):List Int→List aP→Bool
 | [],[]=>true
 |c::cs,v::vs=>decide (v.1=c)&&fC aC v&&bW aC cs vs
 |_,_=>false
def rF (h:aL):Bool:=decide (0≤h.aC∧h.aC≤9999∧0≤h.aG∧h.aG≤99999)
def aR (h:aL):Bool:=aO h.aA h.aB h.cells&&bO h.free h.step h.aD h.aF&&rF h&&bW h.aC (dY h.cells) h.vs
theorem uO {aC:Int}{cs:List Int}{vs:List aP}{k:Nat}{c:Int}{v:aP}(hc:cs[k]? =some c) (hv:vs[k]? =some v):
  bW aC (cs.drop k) (vs.drop k)=(decide (v.1=c)&&fC aC v&&bW aC (cs.drop (k+1)) (vs.drop (k+1))):=by
 rw[qP hc,qP hv];rfl
theorem jN {aC:Int}: ∀ {cs:List Int} {vs:List aP},bW aC cs vs=true→vs.map (·.1)=cs∧ ∀v∈vs,fC aC v=true:=by
 intro cs;induction cs with
 |nil=>intro vs h;cases vs with
  |nil=>simp
  |cons v vs=>simp[bW]at h
 |cons c cs ih=>
  intro vs h;cases vs with
  |nil=>simp[bW]at h
  |cons v vs=>
   simp only[bW,aRy,decide_eq_true_eq]at h;obtain⟨⟨h1,h2⟩,h3⟩:=h;obtain⟨i1,i2⟩:=ih h3;refine⟨by simp[h1,i1],fun x hx=> ?_⟩;rcases aS6.1 hx with rfl|hx
   ·exact h2
   exact i2 x hx
theorem uN {aC:Int}{cs:List Int}{vs:List aP}(h:cs.length≠vs.length):bW aC cs vs=false:=by
 cases hh:bW aC cs vs with
 |false=>rfl
 |true=>have:=congrArg List.length (jN hh).1;simp at this;omega
def eA (id:Int)(vs:List aP):Option aP:=vs.find? (fun v=>v.1==id)
def cV (h:aL)(id:Int):Option (Int×Int×Int):=if aR h then(eA id h.vs).map (·.2)else none
def bB (h:aL)(id:Int):Int:=match cV h id with
 |some s=>cC h.free h.step h.aD h.aF s.1 s.2.1 s.2.2 h.aC
 |none=> -1
def dQ (h:aL)(id:Int):Bool:=match cV h id with
 |some s=>lX h.free h.step h.aD h.aF s.1 s.2.1 s.2.2 h.aC
 |none=>false
def pO (h:aL)(v:aP):Int:=cC h.free h.step h.aD h.aF v.2.1 v.2.2.1 v.2.2.2 h.aC
def vZ (h:aL)(vs:List aP):Int:=vs.foldl (fun a v=>a+pO h v) 0
def jG (h:aL):Int:=if aR h then vZ h h.vs else -1
def dK (h:aL):List Int:=if aR h then
  (if(0:Int)∈h.cells then dY h.cells else h.cells.headD 0::(dY h.cells).filter (fun x=>x !=h.cells.headD 0))else []
abbrev TI:TypeId:=3
def eC (aA aB:Int)(xs:List Int)(w:World)(e:Ending)(w':World):Prop:=
 ∃p cap,e= .returned (aH aA aB p xs.length cap)∧w'.ownsRow w.heap.size TI 1 (.slice p xs.length cap) xs.length (ivs xs)∧Ext w w'
theorem aK6 (n:Nat):(madeCells (I 0).cells (n*1)).toList=ivs (List.replicate n 0):=by apply List.ext_getElem<;>simp[madeCells,Value.cells,Nat.mod_one]
theorem Blk.three {w:World}{g:Nat}{t:TypeId}{a b c:Value}(h:Blk w g t #[a,b,c]):w.cell? ⟨g,0,none⟩=some a∧w.cell? ⟨g,1,none⟩=some b∧w.cell? ⟨g,2,none⟩=some c∧w.frozen? ⟨g,0,none⟩=false∧w.frozen? ⟨g,1,none⟩=false∧w.frozen? ⟨g,2,none⟩=false:=
 ⟨h.cell 0,h.cell 1,h.cell 2,h.frozen 0,h.frozen 1,h.frozen 2⟩
theorem wT {aA aB:Int}{p:OA}{n cap:Nat}{xs:List Int}{w w':World}(hn:xs.length=n)(ho:w'.ownsRow w TI 1 (.slice p n cap) n (ivs xs))(hx:Ext w w'):eC aA aB xs w (.returned (aH aA aB p n cap)) w':=by subst hn;exact⟨p,cap,rfl,ho,hx⟩
end Go.Proofs.YtbgkcehffiogcacGreatDoor
