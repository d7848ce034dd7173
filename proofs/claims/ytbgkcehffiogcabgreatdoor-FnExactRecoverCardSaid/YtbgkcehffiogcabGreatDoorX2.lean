/-
  Texts of this proof, packed (@packed).
-/
import Derived.WalkLawsBesides
import Derived.Test.YtbgkcehffiogcabGreatDoorX1
namespace Go.Proofs.YtbgkcehffiogcabGreatDoor
open Go.RowKit
set_option linter.unusedSimpArgs false
set_option linter.unusedVariables false
set_option maxHeartbeats 8000000
set_option maxRecDepth 100000
section
open Go.Proofs.Tryz
abbrev aH (aA aB:Int)(p:OA)(n cap:Nat):Value:= .agg #[aA,aB,.slice p n cap]
theorem aJd (aA aB:Int)(p:OA)(n a:Nat)(w:World)(hn:n≤9223372036854775807)
  (h:aA<2∨2≤aA∧4<aA∨2≤aA∧aA≤4∧aB<2∨2≤aA∧aA≤4∧2≤aB∧3<aB∨2≤aA∧aA≤4∧2≤aB∧aB≤3∧0≤aA*aB∧aA*aB≤12∧((n:Int)!=aA*aB)=true):
  U 45 #[aH aA aB p n a] w (Z (.bool false) w):=by
 rcases h with h|⟨h0,h⟩|⟨h0,h1,h⟩|⟨h0,h1,h2,h⟩|⟨h0,h1,h2,h3,h4,h5,h⟩
 all_goals
  go_enter func45,ntmps45;go_wp2;go_ret;exact⟨rfl,by exact .alloc (.refl _) _⟩
theorem aN9:uK [] Tryz.zeroCells113:=⟨by kernel_rfl,by
 have e:Tryz.zeroCells113=Array.replicate 100 (.bool false):=by kernel_rfl
 rw[e];exact aFl.2⟩
theorem aH3 (aA aB:Int)(p:OA)(n f:Nat)(xs:List Int)(w:World)(h0:2≤aA)(h1:aA≤4)(h2:2≤aB)(h3:aB≤3)(h4:0≤aA*aB)(h5:aA*aB≤12)(h6:((n:Int)!=aA*aB)=false)(hn:n≤12)
  (HS:Hid (Sl w p n f 1 (ivs xs))):
  U 45 #[aH aA aB p n f] w (Z (.bool (eJ [] xs)) w):=by
 go_enter func45,ntmps45;go_wp2;clear h4 h5 h6;go_loopw [38] (fun i wr=> ∃(k:Nat) (cs:Array Value),k≤n∧i=I k∧Blk wr (w.heap.size+1) 113 cs∧uK (xs.take k) cs∧eJ [] xs=eJ (xs.take k) (xs.drop k)∧Ext w wr) (fun i _=>n-(intOf i).toNat)
 case atStart=>exact⟨0,_,aT8 _,rfl,by have:=Blk.new (w.alloc (.cells #[aA,aB,.slice p n f] 24)) 113 Tryz.zeroCells113;simpa using this,aN9,rfl,by exact .alloc (.alloc (.refl _) _) _⟩
 case round=>
  obtain⟨k,cs,hk,rfl,hb,ht,d,hE⟩:=hrel;have HB:=xQ hb;have HT:=xQ ht;by_cases hlt:k<n
  ·obtain⟨b,t,x,rfl,hx,o,m⟩:=(HS.out.ext hE).int_at hlt;have a:=xQ (d.trans (aB2 hx));have HX:=xQ hx;clear d hx hb ht;by_cases hr:0≤x∧x≤99
   ·obtain⟨g,h⟩:=hr;have l:wr.cell? ⟨w.heap.size+1,x.toNat,none⟩=some (.bool (decide (0<x)&&(xs.take k).contains x)):=by
     rw[HB.out.cell,HT.out.2 x.toNat (by omega)];congr 2;rw[show((x.toNat:Nat):Int)=x by omega];congr 1;simp
    have r:wr.frozen? ⟨w.heap.size+1,x.toNat,none⟩=false:=HB.out.frozen _;have q:x<100:=by omega
    cases hs:(decide (0<x)&&(xs.take k).contains x)with
    |true=>rw[hs]at l;have c:=xQ hs;clear hs;go_wp2;go_ret;exact⟨aQ (by rw[a.out,c.out];simp),hE⟩
    |false=>
     rw[hs]at l;have c:=xQ hs;clear hs;go_wp2;go_roundw
     case rel=>
      refine⟨k+1,_,by omega,by go_num,HB.out.set _ _,?_,?_,xE⟩
      ·rw[aZ HX.out];refine aFk HT x g h (fun h0=> ?_);have:=c.out;simpa[h0]using this
      rw[a.out,c.out];simp[g,h]
     case measure=>simp[intOf];omega
   have j:eJ [] xs=false:=by rw[a.out];simp[hr]
   have HF:=xQ j;clear j;by_cases g:x<0
   ·go_wp2;go_ret;exact⟨aQ HF.out.symm,hE⟩
   have h:99<x:=by omega
   have s:0≤x:=by omega
   go_wp2;go_ret;exact⟨aQ HF.out.symm,hE⟩
  have a:=xQ (d.trans (yD (by have:=HS.out.ilen;omega)));clear d hb ht;go_wp2;go_ret;exact⟨aQ a.out.symm,hE⟩
theorem gS (aA aB:Int)(p:OA)(n a:Nat)(xs:List Int)(w:World)(hS:Sl w p n a 1 (ivs xs)):
  U 45 #[aH aA aB p n a] w (Z (.bool (aO aA aB xs)) w):=by
 have hl:=hS.ilen;unfold aO;rw[hl];cases hs:kU aA aB n with
 |true=>obtain⟨h1,h2,h3,h4,h5,h6,h7⟩:=cO hs;rw[Bool.true_and];exact aH3 aA aB p n a xs w h1 h2 h3 h4 (by omega) (by omega) (by simp[h7]) h6 hS
 |false=>rw[Bool.false_and];exact aJd aA aB p n a w hS.bd (aC8 hs)
theorem sF {f:FuncId}{a:Array Value}{w:World}{n:Nat}{v:Value}(h:U f a (w.drewN n) fun e w'=>e= .returned v∧w.drewN n=w'):
  U f a (w.drewN n) fun e w'=>e= .returned v∧ ∃m,w'=w.drewN m:=h.mono fun _ _ ⟨he,hm⟩=>⟨he,n,hm.symm⟩
theorem oT (n lo hi:Int)(w:World)(h:lo≤n)(h2:n≤hi):U 43 #[n,lo,hi] w fun e w'=>e= .returned (.bool true)∧w=w':=by go_enter func43,ntmps43;go_wp2;go_ret;exact⟨rfl,rfl⟩
theorem yT (n lo hi:Int)(w:World)(h:n<lo∨lo≤n∧hi<n):U 43 #[n,lo,hi] w fun e w'=>e= .returned (.bool false)∧w=w':=by
 rcases h with h|⟨h,h2⟩
 all_goals
  go_enter func43,ntmps43;go_wp2;go_ret;exact⟨aQ (by first|rfl|(simp;omega)),rfl⟩
theorem aCl (p:OA)(n c:Nat)(xs:List Int)(x:Int)(w:World)(hS:Sl w p n c 1 (ivs xs)):
  U 80 #[.slice p n c,x] w fun e w'=>e= .returned (.bool (xs.contains x))∧w=w':=by
 have hn:=hS.bd;have hl:=xQ hS.ilen;have HS:=xQ hS;clear hS;go_enter func80,ntmps80;go_wp2;go_loop [5] (fun i=> ∃k:Nat,k≤n∧i=I k∧(xs.take k).contains x=false) (fun i=>n-(intOf i).toNat)
 case atStart=>exact⟨0,aT8 _,rfl,by simp⟩
 case round=>
  obtain⟨k,hk,rfl,hc⟩:=hrel;have HC:=xQ hc;clear hc;by_cases hlt:k<n
  ·obtain⟨b,f,y,rfl,hx,hb,d⟩:=HS.out.int_at hlt;have HX:=xQ hx;clear hx;by_cases hy:y=x
   ·have t1:(y==x)=true:=by simp[hy]
    have a:Hid (xs.contains x=true):=by show _=_;rw[List.contains_eq_mem];simp;rw[←hy];exact aT4 HX.out
    clear hy;go_wp2;go_ret;exact⟨aQ (by simpa using a.out.symm),rfl⟩
   have t1:(y==x)=false:=by simp[hy]
   have a:Hid ((xs.take (k+1)).contains x=false):=by have:=HC.out;show _=_;rw[aZ HX.out];simp only[List.contains_eq_mem,decide_eq_false_iff_not,aTi,aTv,not_or]at this⊢;exact⟨this,fun e=>hy e.symm⟩
   clear hy;go_wp2;go_round
   case rel=>exact⟨k+1,by omega,by go_num,a.out⟩
   case measure=>simp[intOf];omega
  have a:Hid (xs.contains x=false):=by have:=HC.out;rw[aT7 (by rw[hl.out];omega)]at this;exact this
  go_wp2;go_ret;exact⟨aQ (by simpa using a.out.symm),rfl⟩
theorem aI9 (aA aB:Int)(p:OA)(n a:Nat)(w:World)(hn:n≤9223372036854775807)
  (h:aA<2∨2≤aA∧4<aA∨2≤aA∧aA≤4∧aB<2∨2≤aA∧aA≤4∧2≤aB∧3<aB∨2≤aA∧aA≤4∧2≤aB∧aB≤3∧0≤aA*aB∧aA*aB≤12∧((n:Int)!=aA*aB)=true):
  U 41 #[aH aA aB p n a] w (Z (.bool false) w):=by
 rcases h with h|⟨h0,h⟩|⟨h0,h1,h⟩|⟨h0,h1,h2,h⟩|⟨h0,h1,h2,h3,h4,h5,h⟩
 all_goals
  go_enter func41,ntmps41;go_wp2_with go_in;go_ret;exact⟨rfl,by exact .alloc (.refl _) _⟩
theorem aFw (aA aB:Int)(p:OA)(n c:Nat)(xs:List Int)(w:World)(h0:2≤aA)(h1:aA≤4)(h2:2≤aB)(h3:aB≤3)(h4:0≤aA*aB)(h5:aA*aB≤12)(h6:((n:Int)!=aA*aB)=false)(hn:n≤12)
  (HS:Hid (Sl w p n c 1 (ivs xs))):
  U 41 #[aH aA aB p n c] w (Z (.bool (eJ [] xs)) w):=by
 have t:=HS.out.le;have j:=HS.out.mx;unfold maxLen at j;go_enter func41,ntmps41;go_wp2_with go_in;clear h4 h5 h6;go_loopw [3] (fun i wr=> ∃k:Nat,k≤n∧i=I k∧eJ [] xs=eJ (xs.take k) (xs.drop k)∧Ext w wr∧w.heap.size<wr.heap.size∧wr.cell? ⟨w,2,none⟩=some (.slice p n c)) (fun i _=>n-(intOf i).toNat)
 case atStart=>exact⟨0,aT8 _,rfl,rfl,by exact .alloc (.refl _) _,by simp,by simp⟩
 case round=>
  obtain⟨k,hk,rfl,f,hE,l,h⟩:=hrel;by_cases hlt:k<n
  ·have r:=aQo (HS.out.ext hE) (m:=k) hk;obtain⟨b,g,x,rfl,hx,u,s⟩:=(HS.out.ext hE).int_at hlt;have a:=xQ (f.trans (aB2 hx));have i1:(0:Int)≤(k:Int):=by omega
   have i2:(k:Int)<(n:Int):=by omega
   have i3:(k:Int)≤(n:Int):=by omega
   have i4:(k:Int)≤(c:Int):=by omega
   have HX:=xQ hx;have HK:=xQ r;clear f hx r;by_cases hr:0≤x∧x≤99
   ·obtain⟨o,q⟩:=hr;have HI:Hid (∀w,U 43 #[x,(),I 99] w fun e w'=>e= .returned (.bool true)∧w=w'):=fun w=>oT x 0 99 w o q
    by_cases hp:0<x
    ·have hd:decide (0<x)=true:=by simp[hp]
     cases hs:(xs.take k).contains x with
     |true=>
      have HH:Hid (∀m,U 80 #[.slice (some ⟨b,g,none⟩) k c,x] (wr.drewN m) fun e w'=>e= .returned (.bool true)∧wr.drewN m=w'):=fun m=>by have:=aCl (some ⟨b,g,none⟩) k c (xs.take k) x (wr.drewN m) (HK.out.ext (Ext.drewN (Ext.refl _) _));rwa[hs]at this
      have d:Hid (eJ [] xs=false):=by show _=_;rw[a.out,hs];simp[hp]
      clear hs;go_wp2;go_quiet ((first|(go_at_call 43;exact sF (HI _))|(go_at_call 80;exact sF (HH _))));go_wp2;go_ret;exact⟨aQ d.out.symm,by exact .drewN hE _⟩
     |false=>
      have HH:Hid (∀m,U 80 #[.slice (some ⟨b,g,none⟩) k c,x] (wr.drewN m) fun e w'=>e= .returned (.bool false)∧wr.drewN m=w'):=fun m=>by have:=aCl (some ⟨b,g,none⟩) k c (xs.take k) x (wr.drewN m) (HK.out.ext (Ext.drewN (Ext.refl _) _));rwa[hs]at this
      have d:Hid (eJ [] xs=eJ (xs.take (k+1)) (xs.drop (k+1))):=by show _=_;rw[a.out,hs];simp[o,q]
      clear hs;go_wp2;go_quiet ((first|(go_at_call 43;exact sF (HI _))|(go_at_call 80;exact sF (HH _))));go_wp2;go_roundw
      case rel=>exact⟨k+1,by omega,by go_num,d.out,by exact .drewN hE _,l,h⟩
      case measure=>simp[intOf];omega
    have hd:decide (0<x)=false:=by simp[hp]
    have d:Hid (eJ [] xs=eJ (xs.take (k+1)) (xs.drop (k+1))):=by show _=_;rw[a.out];simp[o,q,hp]
    go_wp2;go_quiet ((go_at_call 43;exact sF (HI _)));go_wp2;go_roundw
    case rel=>first|exact⟨k+1,by omega,by go_num,d.out,xE,l,h⟩|((repeat apply Exists.intro);exact⟨⟨k+1,by omega,by go_num,d.out,by exact .drewN hE _,l,h⟩,rfl⟩)
    case measure=>simp[intOf];omega
   have HI:Hid (∀w,U 43 #[x,(),I 99] w fun e w'=>e= .returned (.bool false)∧w=w'):=fun w=>yT x 0 99 w (by omega)
   have d:Hid (eJ [] xs=false):=by show _=_;rw[a.out];simp[hr]
   clear hr;go_wp2;go_quiet ((go_at_call 43;exact sF (HI _)));go_wp2;go_ret;exact⟨aQ d.out.symm,by exact .drewN hE _⟩
  have a:=xQ (f.trans (yD (by have:=HS.out.ilen;omega)));clear f;go_wp2;go_ret;exact⟨aQ a.out.symm,by exact hE⟩
theorem iC (aA aB:Int)(p:OA)(n a:Nat)(xs:List Int)(w:World)(hS:Sl w p n a 1 (ivs xs)):
  U 41 #[aH aA aB p n a] w (Z (.bool (aO aA aB xs)) w):=by
 have hl:=hS.ilen;unfold aO;rw[hl];cases hs:kU aA aB n with
 |true=>obtain⟨h1,h2,h3,h4,h5,h6,h7⟩:=cO hs;rw[Bool.true_and];exact aFw aA aB p n a xs w h1 h2 h3 h4 (by omega) (by omega) (by simp[h7]) h6 hS
 |false=>rw[Bool.false_and];exact aI9 aA aB p n a w hS.bd (aC8 hs)
def bV (f s p c:Int):Bool:=decide (0≤f∧f<1440∧1≤s∧s≤1440∧0≤p∧p≤99∧0≤c∧c≤99)
def dP (i p a:Int):Bool:=decide (0≤i∧i≤9999∧0≤p∧p≤9999∧i≤a∧a≤9999)
def fZ (f s m:Int):Int:=if m≤f then 0 else(m-f+s-1)/s
def oX (f s p c m:Int):Int:=m/1440*c+min (fZ f s (m%1440)*p) c
def cT (f s p c i pd a now:Int):Int:=if bV f s p c&&dP i pd a&&decide (a≤now∧now≤9999)then max (oX f s p c (now-i)-pd) 0 else -1
def nJ (f s p c i pd a now:Int):Bool:=
 decide (cT f s p c i pd a now=0) || (decide (0≤cT f s p c i pd a now)&&decide (now-a≤15)&&decide (cT f s p c i pd a a=0))
abbrev aV (f s p c:Int):Value:= .agg #[f,s,p,c]
abbrev cF (i p a:Int):Value:= .agg #[i,p,a]
theorem jC {f s p c:Int}(h:bV f s p c=true):0≤f∧f<1440∧1≤s∧s≤1440∧0≤p∧p≤99∧0≤c∧c≤99:=by simpa[bV]using h
theorem iB {i p a:Int}(h:dP i p a=true):0≤i∧i≤9999∧0≤p∧p≤9999∧i≤a∧a≤9999:=by simpa[dP]using h
theorem kO {f s m:Int}(h0:0≤f)(h1:1≤s)(hm:m≤9999):0≤fZ f s m∧fZ f s m≤9999:=by
 unfold fZ;split
 ·omega
 refine⟨Int.ediv_nonneg (by omega) (by omega),?_⟩;have:(m-f+s-1)/s≤m-f:=by
  apply Int.ediv_le_of_le_mul (by omega);have:(m-f)*s≥(m-f)*1:=Int.mul_le_mul_of_nonneg_left h1 (by omega);have h2:(m-f)*s=(m-f-1)*s+s:=by rw[Int.sub_mul (m-f) 1 s];omega
  have h3:(m-f-1)*s≥(m-f-1)*1:=Int.mul_le_mul_of_nonneg_left h1 (by omega);omega
 omega
theorem aF6 {f s m:Int}(h1:1≤s):(max (m-f) 0+s-1)/s=fZ f s m:=by
 unfold fZ;split
 ·rw[show max (m-f) 0=0 by omega];exact Int.ediv_eq_zero_of_lt (by omega) (by omega)
 rw[show max (m-f) 0=m-f by omega]
theorem wW {x p:Int}(hx:0≤x)(a:x≤9999)(h0:0≤p)(h1:p≤99):0≤x*p∧x*p≤989901:=by refine⟨Int.mul_nonneg hx h0,?_⟩;have:=Int.mul_le_mul a h1 h0 (by omega);omega
theorem vL {f s p c m:Int}(h:bV f s p c=true)(h0:0≤m)(h1:m≤9999):0≤oX f s p c m∧oX f s p c m≤693:=by obtain⟨a1,a2,a3,a4,a5,a6,a7,a8⟩:=jC h;obtain⟨b1,b2⟩:=kO (m:=m%1440) a1 a3 (by omega);obtain⟨d1,d2⟩:=wW b1 b2 a5 a6;unfold oX;have e1:0≤m/1440*c:=Int.mul_nonneg (by omega) a7;have e2:m/1440*c≤6*99:=Int.mul_le_mul (by omega) a8 a7 (by omega);omega
theorem aEe (f s p c:Int)(w:World):U 46 #[aV f s p c] w (Z (.bool (bV f s p c)) w):=by
 by_cases c1:0≤f
 ·by_cases c2:f<1440
  ·by_cases c3:1≤s
   ·by_cases c4:s≤1440
    ·by_cases c5:0≤p
     ·by_cases c6:p≤99
      ·by_cases c7:0≤c
       ·by_cases c8:c≤99
        ·go_enter func46,ntmps46;go_wp2;go_ret;exact⟨aQ (by simp[bV];omega),by exact .alloc (.refl _) _⟩
        go_enter func46,ntmps46;go_wp2;go_ret;exact⟨aQ (by simp[bV];omega),by exact .alloc (.refl _) _⟩
       go_enter func46,ntmps46;go_wp2;go_ret;exact⟨aQ (by simp[bV];omega),by exact .alloc (.refl _) _⟩
      go_enter func46,ntmps46;go_wp2;go_ret;exact⟨aQ (by simp[bV];omega),by exact .alloc (.refl _) _⟩
     go_enter func46,ntmps46;go_wp2;go_ret;exact⟨aQ (by simp[bV];omega),by exact .alloc (.refl _) _⟩
    go_enter func46,ntmps46;go_wp2;go_ret;exact⟨aQ (by simp[bV];omega),by exact .alloc (.refl _) _⟩
   go_enter func46,ntmps46;go_wp2;go_ret;exact⟨aQ (by simp[bV];omega),by exact .alloc (.refl _) _⟩
  go_enter func46,ntmps46;go_wp2;go_ret;exact⟨aQ (by simp[bV];omega),by exact .alloc (.refl _) _⟩
 go_enter func46,ntmps46;go_wp2;go_ret;exact⟨aQ (by simp[bV];omega),by exact .alloc (.refl _) _⟩
theorem aDh (f s p c:Int)(w:World):U 42 #[aV f s p c] w (Z (.bool (bV f s p c)) w):=by
 by_cases c1:0≤f
 ·by_cases c2:f<1440
  ·by_cases c3:1≤s
   ·by_cases c4:s≤1440
    ·by_cases c5:0≤p
     ·by_cases c6:p≤99
      ·by_cases c7:0≤c
       ·by_cases c8:c≤99
        ·go_enter func42,ntmps42;go_wp2_with go_in;go_ret;exact⟨aQ (by simp[bV];omega),by exact .alloc (.refl _) _⟩
        go_enter func42,ntmps42;go_wp2_with go_in;go_ret;exact⟨aQ (by simp[bV];omega),by exact .alloc (.refl _) _⟩
       go_enter func42,ntmps42;go_wp2_with go_in;go_ret;exact⟨aQ (by simp[bV];omega),by exact .alloc (.refl _) _⟩
      go_enter func42,ntmps42;go_wp2_with go_in;go_ret;exact⟨aQ (by simp[bV];omega),by exact .alloc (.refl _) _⟩
     go_enter func42,ntmps42;go_wp2_with go_in;go_ret;exact⟨aQ (by simp[bV];omega),by exact .alloc (.refl _) _⟩
    go_enter func42,ntmps42;go_wp2_with go_in;go_ret;exact⟨aQ (by simp[bV];omega),by exact .alloc (.refl _) _⟩
   go_enter func42,ntmps42;go_wp2_with go_in;go_ret;exact⟨aQ (by simp[bV];omega),by exact .alloc (.refl _) _⟩
  go_enter func42,ntmps42;go_wp2_with go_in;go_ret;exact⟨aQ (by simp[bV];omega),by exact .alloc (.refl _) _⟩
 go_enter func42,ntmps42;go_wp2_with go_in;go_ret;exact⟨aQ (by simp[bV];omega),by exact .alloc (.refl _) _⟩
theorem aP5 (i p a:Int)(w:World):U 48 #[cF i p a] w (Z (.bool (dP i p a)) w):=by
 by_cases c1:0≤i
 ·by_cases c2:i≤9999
  ·by_cases c3:0≤p
   ·by_cases c4:p≤9999
    ·by_cases c5:i≤a
     ·by_cases c6:a≤9999
      ·go_enter func48,ntmps48;go_wp2;go_ret;exact⟨aQ (by simp[dP];omega),by exact .alloc (.refl _) _⟩
      go_enter func48,ntmps48;go_wp2;go_ret;exact⟨aQ (by simp[dP];omega),by exact .alloc (.refl _) _⟩
     go_enter func48,ntmps48;go_wp2;go_ret;exact⟨aQ (by simp[dP];omega),by exact .alloc (.refl _) _⟩
    go_enter func48,ntmps48;go_wp2;go_ret;exact⟨aQ (by simp[dP];omega),by exact .alloc (.refl _) _⟩
   go_enter func48,ntmps48;go_wp2;go_ret;exact⟨aQ (by simp[dP];omega),by exact .alloc (.refl _) _⟩
  go_enter func48,ntmps48;go_wp2;go_ret;exact⟨aQ (by simp[dP];omega),by exact .alloc (.refl _) _⟩
 go_enter func48,ntmps48;go_wp2;go_ret;exact⟨aQ (by simp[dP];omega),by exact .alloc (.refl _) _⟩
theorem aNl (i p a:Int)(w:World):U 44 #[cF i p a] w (Z (.bool (dP i p a)) w):=by
 by_cases c1:0≤i
 ·by_cases c2:i≤9999
  ·by_cases c3:0≤p
   ·by_cases c4:p≤9999
    ·by_cases c5:i≤a
     ·by_cases c6:a≤9999
      ·go_enter func44,ntmps44;go_wp2_with go_in;go_ret;exact⟨aQ (by simp[dP];omega),by exact .alloc (.refl _) _⟩
      go_enter func44,ntmps44;go_wp2_with go_in;go_ret;exact⟨aQ (by simp[dP];omega),by exact .alloc (.refl _) _⟩
     go_enter func44,ntmps44;go_wp2_with go_in;go_ret;exact⟨aQ (by simp[dP];omega),by exact .alloc (.refl _) _⟩
    go_enter func44,ntmps44;go_wp2_with go_in;go_ret;exact⟨aQ (by simp[dP];omega),by exact .alloc (.refl _) _⟩
   go_enter func44,ntmps44;go_wp2_with go_in;go_ret;exact⟨aQ (by simp[dP];omega),by exact .alloc (.refl _) _⟩
  go_enter func44,ntmps44;go_wp2_with go_in;go_ret;exact⟨aQ (by simp[dP];omega),by exact .alloc (.refl _) _⟩
 go_enter func44,ntmps44;go_wp2_with go_in;go_ret;exact⟨aQ (by simp[dP];omega),by exact .alloc (.refl _) _⟩
theorem aPf (f s p c m:Int)(w:World)(h:bV f s p c=true)(h0:0≤m)(h1:m≤9999):U 227 #[aV f s p c,m] w (Z (I (fZ f s m)) w):=by
 obtain⟨a1,a2,a3,a4,a5,a6,a7,a8⟩:=jC h;have HT:Hid (∀w,U 46 #[aV f s p c] w (Z (.bool true) w)):=fun w=>by rw[←h];exact aEe f s p c w
 have HB:=xQ (kO (m:=m) a1 a3 h1);clear h;by_cases hm:m≤f
 ·have hf:Hid (fZ f s m=0):=if_pos hm;go_enter func227,ntmps227;go_wp2_with fail;refine Ω (HT _) fun w1 a=>?_
  have b:=a.cells.1;go_wp2;go_ret;exact⟨eE hf.out.symm,by exact .trans (.alloc (.refl _) _) a⟩
 have hf:Hid (fZ f s m=(m-f+s-1)/s):=if_neg hm;go_enter func227,ntmps227;go_wp2_with fail;refine Ω (HT _) fun w1 a=>?_
 have b:=a.cells.1;go_wp2;go_ret;exact⟨eE hf.out.symm,by exact .trans (.alloc (.refl _) _) a⟩
theorem aNz (f s p c m:Int)(w:World)(h:bV f s p c=true)(h0:0≤m)(h1:m≤9999):U 234 #[aV f s p c,m] w (Z (I (fZ f s m)) w):=by
 obtain⟨a1,a2,a3,a4,a5,a6,a7,a8⟩:=jC h;have HT:Hid (∀w,U 42 #[aV f s p c] w (Z (.bool true) w)):=fun w=>by rw[←h];exact aDh f s p c w
 have hf:=xQ (aF6 (f:=f) (m:=m) a3);clear h;go_enter func234,ntmps234;go_wp2_with (first|(go_at_call 42;refine Ω (HT _) fun w1 a=>?_;have b:=a.cells.1)|go_in);all_goals go_ret
 all_goals exact⟨eE (by rw[←hf.out];congr 1;omega),by exact .trans (.alloc (.refl _) _) a⟩
theorem aSd (f s p c m:Int)(w:World)(h:bV f s p c=true)(h0:0≤m)(h1:m≤9999):U 203 #[aV f s p c,m] w (Z (I (oX f s p c m)) w):=by
 obtain⟨a1,a2,a3,a4,a5,a6,a7,a8⟩:=jC h;have HT:Hid (∀w,U 46 #[aV f s p c] w (Z (.bool true) w)):=fun w=>by rw[←h];exact aEe f s p c w
 obtain⟨q,hq⟩: ∃q,q=fZ f s (m%1440):=⟨_,rfl⟩
 have g:0≤q∧q≤9999:=by rw[hq];exact kO a1 a3 (by omega)
 obtain⟨q2,d⟩: ∃q,q=fZ f s m:=⟨_,rfl⟩
 have j:0≤q2∧q2≤9999:=by rw[d];exact kO a1 a3 (by omega)
 have HF:Hid (∀w,U 227 #[aV f s p c,(m%1440:Int)] w (Z (I q) w)):=fun w=>by rw[hq];exact aPf f s p c _ w h (by omega) (by omega)
 have k:Hid (∀w,U 227 #[aV f s p c,m] w (Z (I q2) w)):=fun w=>by rw[d];exact aPf f s p c _ w h (by omega) (by omega)
 have b:oX f s p c m=m/1440*c+min (q*p) c:=by rw[hq];rfl
 rw[b];obtain⟨b1,b2⟩:=wW g.1 g.2 a5 a6;have b3:0≤m/1440*c:=Int.mul_nonneg (by omega) a7;have b4:m/1440*c≤6*99:=Int.mul_le_mul (by omega) a8 a7 (by omega);clear hq d b h;go_enter func203,ntmps203;go_wp2_with fail;refine Ω (HT _) fun w1 a=>?_
 have n:(w:Nat)<w1:=aT1 (by simp) a.sz;have e0:w1.cell? ⟨w,0,none⟩=some (I f):=by rw[a.cells.1 _ _ (by simp)];simp
 have e1:w1.cell? ⟨w,1,none⟩=some (I s):=by rw[a.cells.1 _ _ (by simp)];simp
 have e2:w1.cell? ⟨w,2,none⟩=some (I p):=by rw[a.cells.1 _ _ (by simp)];simp
 have e3:w1.cell? ⟨w,3,none⟩=some (I c):=by rw[a.cells.1 _ _ (by simp)];simp
 go_wp2_with fail;have hq:=aVb m 1440 ⟨h0,by omega,by omega⟩;have hr:=IntWalk.rem_in m 1440 h0;have i:IntKind.i64.wrap (m%1440)=m%1440:=aT5 _ (by omega);have k1:IntKind.i64.wrap (q*p)=q*p:=aT5 _ (by omega);have k2:IntKind.i64.wrap (m/1440*c)=m/1440*c:=aT5 _ (by omega);have k3:IntKind.i64.wrap (m/1440*c+c)=m/1440*c+c:=aT5 _ (by omega);have k4:IntKind.i64.wrap (m/1440*c+q*p)=m/1440*c+q*p:=aT5 _ (by omega)
 go_region_held3 (fun w'=>w'.cell? ⟨w,0,none⟩=some (I f)∧w'.cell? ⟨w,1,none⟩=some (I s)∧w'.cell? ⟨w,2,none⟩=some (I p)∧w'.cell? ⟨w,3,none⟩=some (I c)) (go_keep)
  ((go_at_call 227;refine Ω (HF _) fun w2 h2=>?_;(try replace h2:=h2.of_drew);have l:=h2.cells.1;have o:(w:Nat)<w2:=aT1 (by assumption) h2.sz))
 all_goals clear hq hr i k1 k2 k3 k4
 all_goals go_wp2
 all_goals go_ret
 all_goals exact⟨eE (by first|omega|(rw[aT5 _ (by omega)];omega)),by exact .trans (.trans (.alloc (.refl _) _) a) h2⟩
theorem aRx (f s p c m:Int)(w:World)(h:bV f s p c=true)(h0:0≤m)(h1:m≤9999):U 214 #[aV f s p c,m] w (Z (I (oX f s p c m)) w):=by
 obtain⟨a1,a2,a3,a4,a5,a6,a7,a8⟩:=jC h;have HT:Hid (∀w,U 42 #[aV f s p c] w (Z (.bool true) w)):=fun w=>by rw[←h];exact aDh f s p c w
 obtain⟨q,hq⟩: ∃q,q=fZ f s (m%1440):=⟨_,rfl⟩
 have g:0≤q∧q≤9999:=by rw[hq];exact kO a1 a3 (by omega)
 obtain⟨q2,d⟩: ∃q,q=fZ f s m:=⟨_,rfl⟩
 have k:0≤q2∧q2≤9999:=by rw[d];exact kO a1 a3 (by omega)
 have HF:Hid (∀w,U 234 #[aV f s p c,(m%1440:Int)] w (Z (I q) w)):=fun w=>by rw[hq];exact aNz f s p c _ w h (by omega) (by omega)
 have i:Hid (∀w,U 234 #[aV f s p c,m] w (Z (I q2) w)):=fun w=>by rw[d];exact aNz f s p c _ w h (by omega) (by omega)
 have b:oX f s p c m=m/1440*c+min (q*p) c:=by rw[hq];rfl
 rw[b];obtain⟨b1,b2⟩:=wW g.1 g.2 a5 a6;have b3:0≤m/1440*c:=Int.mul_nonneg (by omega) a7;have b4:m/1440*c≤6*99:=Int.mul_le_mul (by omega) a8 a7 (by omega);clear hq d b h;go_enter func214,ntmps214;go_wp2_with fail;refine Ω (i _) fun w1 a=>?_
 have n:(w:Nat)<w1:=aT1 (by simp) a.sz;have e0:w1.cell? ⟨w,0,none⟩=some (I f):=by rw[a.cells.1 _ _ (by simp)];simp
 have e1:w1.cell? ⟨w,1,none⟩=some (I s):=by rw[a.cells.1 _ _ (by simp)];simp
 have e2:w1.cell? ⟨w,2,none⟩=some (I p):=by rw[a.cells.1 _ _ (by simp)];simp
 have e3:w1.cell? ⟨w,3,none⟩=some (I c):=by rw[a.cells.1 _ _ (by simp)];simp
 go_wp2_with fail;have hq:=aVb m 1440 ⟨h0,by omega,by omega⟩;have hr:=IntWalk.rem_in m 1440 h0;have j:IntKind.i64.wrap (m%1440)=m%1440:=aT5 _ (by omega);have k1:IntKind.i64.wrap (q*p)=q*p:=aT5 _ (by omega);have k2:IntKind.i64.wrap (m/1440*c)=m/1440*c:=aT5 _ (by omega);have k3:IntKind.i64.wrap (m/1440*c+c)=m/1440*c+c:=aT5 _ (by omega);have k4:IntKind.i64.wrap (m/1440*c+q*p)=m/1440*c+q*p:=aT5 _ (by omega)
 go_region_held3 (fun w'=>w'.cell? ⟨w,0,none⟩=some (I f)∧w'.cell? ⟨w,1,none⟩=some (I s)∧w'.cell? ⟨w,2,none⟩=some (I p)∧w'.cell? ⟨w,3,none⟩=some (I c)) (go_keep)
  ((go_at_call 234;refine Ω (HF _) fun w2 h2=>?_;(try replace h2:=h2.of_drew);have l:=h2.cells.1;have o:(w:Nat)<w2:=aT1 (by assumption) h2.sz))
 all_goals clear hq hr j k1 k2 k3 k4
 all_goals go_wp2
 all_goals go_ret
 all_goals exact⟨eE (by first|omega|(rw[aT5 _ (by omega)];omega)),by exact .trans (.trans (.alloc (.refl _) _) a) h2⟩
theorem aJb (f s p c i pd a now:Int)(w:World)(h:bV f s p c=true)(h2:dP i pd a=true)(h3:a≤now)(h4:now≤9999):U 169 #[aV f s p c,cF i pd a,now] w (Z (I (cT f s p c i pd a now)) w):=by
 obtain⟨b1,b2,b3,b4,b5,b6⟩:=iB h2;have HT:Hid (∀w,U 46 #[aV f s p c] w (Z (.bool true) w)):=fun w=>by rw[←h];exact aEe f s p c w
 have HS:Hid (∀w,U 48 #[cF i pd a] w (Z (.bool true) w)):=fun w=>by rw[←h2];exact aP5 i pd a w
 obtain⟨q,hq⟩: ∃q,q=oX f s p c (now-i):=⟨_,rfl⟩
 have o:0≤q∧q≤693:=by rw[hq];exact vL h (by omega) (by omega)
 have HF:Hid (∀w,U 203 #[aV f s p c,(now-i:Int)] w (Z (I q) w)):=fun w=>by rw[hq];exact aSd f s p c _ w h (by omega) (by omega)
 have j:cT f s p c i pd a now=max (q-pd) 0:=by rw[hq];simp[cT,h,h2,h3,h4]
 rw[j];clear hq j h h2;go_enter func169,ntmps169;go_wp2_with fail;refine Ω (HT _) fun w1 b=>?_
 have k:(w:Nat)<w1:=aT1 (by simp;omega) b.sz;have l:w.heap.size+1<w1.heap.size:=aT1 (by simp) b.sz;have e0:w1.cell? ⟨w,0,none⟩=some (I f):=by rw[b.cells.1 _ _ (by simp;omega)];simp
 have e1:w1.cell? ⟨w,1,none⟩=some (I s):=by rw[b.cells.1 _ _ (by simp;omega)];simp
 have e2:w1.cell? ⟨w,2,none⟩=some (I p):=by rw[b.cells.1 _ _ (by simp;omega)];simp
 have e3:w1.cell? ⟨w,3,none⟩=some (I c):=by rw[b.cells.1 _ _ (by simp;omega)];simp
 have g0:w1.cell? ⟨w.heap.size+1,0,none⟩=some (I i):=by rw[b.cells.1 _ _ (by simp)];simp
 have g1:w1.cell? ⟨w.heap.size+1,1,none⟩=some (I pd):=by rw[b.cells.1 _ _ (by simp)];simp
 have g2:w1.cell? ⟨w.heap.size+1,2,none⟩=some (I a):=by rw[b.cells.1 _ _ (by simp)];simp
 go_wp2_with (first|(go_at_call 48;refine Ω (HS _) fun w2 g=>?_;have m:=g.cells.1;have r:(w:Nat)<w2:=aT1 k g.sz;have t:w.heap.size+1<w2.heap.size:=aT1 l g.sz)|go_in);have k1:IntKind.i64.wrap (now-i)=now-i:=aT5 _ (by omega);have k2:IntKind.i64.wrap (q-pd)=q-pd:=aT5 _ (by omega)
 go_region_held3 (fun w'=>w'.cell? ⟨w,0,none⟩=some (I f)∧w'.cell? ⟨w,1,none⟩=some (I s)∧w'.cell? ⟨w,2,none⟩=some (I p)∧w'.cell? ⟨w,3,none⟩=some (I c)∧w'.cell? ⟨w.heap.size+1,0,none⟩=some (I i)∧w'.cell? ⟨w.heap.size+1,1,none⟩=some (I pd)) (go_keep)
  ((go_at_call 203;refine Ω (HF _) fun w3 d=>?_;(try replace d:=d.of_drew);have n:=d.cells.1;have u:(w:Nat)<w3:=aT1 (by assumption) d.sz;have v:w.heap.size+1<w3.heap.size:=aT1 (by assumption) d.sz))
 all_goals clear k1 k2
 all_goals go_wp2
 all_goals go_ret
 all_goals exact⟨eE (by omega),by exact .trans (.trans (.trans (.alloc (.alloc (.refl _) _) _) b) g) d⟩
theorem aI5 (f s p c i pd a now:Int)(w:World)(h:bV f s p c=true)(h2:dP i pd a=true)(h3:a≤now)(h4:now≤9999):U 182 #[aV f s p c,cF i pd a,now] w (Z (I (cT f s p c i pd a now)) w):=by
 obtain⟨b1,b2,b3,b4,b5,b6⟩:=iB h2;have HT:Hid (∀w,U 42 #[aV f s p c] w (Z (.bool true) w)):=fun w=>by rw[←h];exact aDh f s p c w
 have HS:Hid (∀w,U 44 #[cF i pd a] w (Z (.bool true) w)):=fun w=>by rw[←h2];exact aNl i pd a w
 obtain⟨q,hq⟩: ∃q,q=oX f s p c (now-i):=⟨_,rfl⟩
 have o:0≤q∧q≤693:=by rw[hq];exact vL h (by omega) (by omega)
 have HF:Hid (∀w,U 214 #[aV f s p c,(now-i:Int)] w (Z (I q) w)):=fun w=>by rw[hq];exact aRx f s p c _ w h (by omega) (by omega)
 have j:cT f s p c i pd a now=max (q-pd) 0:=by rw[hq];simp[cT,h,h2,h3,h4]
 rw[j];clear hq j h h2;go_enter func182,ntmps182;go_wp2_with fail;refine Ω (HT _) fun w1 b=>?_
 have k:(w:Nat)<w1:=aT1 (by simp;omega) b.sz;have l:w.heap.size+1<w1.heap.size:=aT1 (by simp) b.sz;have e0:w1.cell? ⟨w,0,none⟩=some (I f):=by rw[b.cells.1 _ _ (by simp;omega)];simp
 have e1:w1.cell? ⟨w,1,none⟩=some (I s):=by rw[b.cells.1 _ _ (by simp;omega)];simp
 have e2:w1.cell? ⟨w,2,none⟩=some (I p):=by rw[b.cells.1 _ _ (by simp;omega)];simp
 have e3:w1.cell? ⟨w,3,none⟩=some (I c):=by rw[b.cells.1 _ _ (by simp;omega)];simp
 have g0:w1.cell? ⟨w.heap.size+1,0,none⟩=some (I i):=by rw[b.cells.1 _ _ (by simp)];simp
 have g1:w1.cell? ⟨w.heap.size+1,1,none⟩=some (I pd):=by rw[b.cells.1 _ _ (by simp)];simp
 have g2:w1.cell? ⟨w.heap.size+1,2,none⟩=some (I a):=by rw[b.cells.1 _ _ (by simp)];simp
 go_wp2_with (first|(go_at_call 44;refine Ω (HS _) fun w2 g=>?_;have m:=g.cells.1;have r:(w:Nat)<w2:=aT1 k g.sz;have t:w.heap.size+1<w2.heap.size:=aT1 l g.sz)|go_in);have k1:IntKind.i64.wrap (now-i)=now-i:=aT5 _ (by omega);have k2:IntKind.i64.wrap (q-pd)=q-pd:=aT5 _ (by omega)
 go_region_held3 (fun w'=>w'.cell? ⟨w,0,none⟩=some (I f)∧w'.cell? ⟨w,1,none⟩=some (I s)∧w'.cell? ⟨w,2,none⟩=some (I p)∧w'.cell? ⟨w,3,none⟩=some (I c)∧w'.cell? ⟨w.heap.size+1,0,none⟩=some (I i)∧w'.cell? ⟨w.heap.size+1,1,none⟩=some (I pd)) (go_keep)
  ((go_at_call 214;refine Ω (HF _) fun w3 d=>?_;(try replace d:=d.of_drew);have n:=d.cells.1;have u:(w:Nat)<w3:=aT1 (by assumption) d.sz;have v:w.heap.size+1<w3.heap.size:=aT1 (by assumption) d.sz))
 all_goals clear k1 k2
 all_goals go_wp2
 all_goals go_ret
 all_goals exact⟨eE (by omega),by exact .trans (.trans (.trans (.alloc (.alloc (.refl _) _) _) b) g) d⟩
theorem aPc (f s p c i pd a now d1 d2:Int)(w:World)(h0:0≤d1)(h2:0≤d2)(h3:a≤now)(h4:now≤9999)(h5:0≤a)(t1:(d1==0)=true)
  (HA:Hid (∀w,U 169 #[aV f s p c,cF i pd a,now] w (Z (I d1) w)))
  (HB:Hid (∀w,U 169 #[aV f s p c,cF i pd a,a] w (Z (I d2) w))):
  U 171 #[aV f s p c,cF i pd a,now] w (Z (.bool true) w):=by
 go_enter func171,ntmps171;go_wp2_with fail;refine Ω (HA _) fun w1 b=>?_
 have g:(w:Nat)<w1:=aT1 (by simp;omega) b.sz;have h:w.heap.size+1<w1.heap.size:=aT1 (by simp) b.sz;have d:=b.cells.1;go_wp2;go_ret;exact⟨aQ (by first|rfl|(simp;omega)),by exact .trans (.alloc (.alloc (.refl _) _) _) b⟩
theorem aPb (f s p c i pd a now d1 d2:Int)(w:World)(h0:0≤d1)(h2:0≤d2)(h3:a≤now)(h4:now≤9999)(h5:0≤a)(t1:(d1==0)=false)(t2:15<now-a)(t3:(d2==0)=true)
  (HA:Hid (∀w,U 169 #[aV f s p c,cF i pd a,now] w (Z (I d1) w)))
  (HB:Hid (∀w,U 169 #[aV f s p c,cF i pd a,a] w (Z (I d2) w))):
  U 171 #[aV f s p c,cF i pd a,now] w (Z (.bool false) w):=by
 go_enter func171,ntmps171;go_wp2_with fail;refine Ω (HA _) fun w1 b=>?_
 have g:(w:Nat)<w1:=aT1 (by simp;omega) b.sz;have h:w.heap.size+1<w1.heap.size:=aT1 (by simp) b.sz;have d:=b.cells.1;go_wp2;go_ret;exact⟨aQ (by first|rfl|(simp;omega)),by exact .trans (.alloc (.alloc (.refl _) _) _) b⟩
theorem aPa (f s p c i pd a now d1 d2:Int)(w:World)(h0:0≤d1)(h2:0≤d2)(h3:a≤now)(h4:now≤9999)(h5:0≤a)(t1:(d1==0)=false)(t2:now-a≤15)(t3:(d2==0)=true)
  (HA:Hid (∀w,U 169 #[aV f s p c,cF i pd a,now] w (Z (I d1) w)))
  (HB:Hid (∀w,U 169 #[aV f s p c,cF i pd a,a] w (Z (I d2) w))):
  U 171 #[aV f s p c,cF i pd a,now] w (Z (.bool true) w):=by
 go_enter func171,ntmps171;go_wp2_with fail;refine Ω (HA _) fun w1 b=>?_
 have g:(w:Nat)<w1:=aT1 (by simp;omega) b.sz;have h:w.heap.size+1<w1.heap.size:=aT1 (by simp) b.sz;have j:=b.cells.1;go_wp2_with fail;refine Ω (HB _) fun w2 d=>?_
 have l:=aT1 g d.sz;have m:=aT1 h d.sz;have k:=d.cells.1;go_wp2;go_ret;exact⟨aQ (by first|rfl|(simp;omega)),by exact .trans (.trans (.alloc (.alloc (.refl _) _) _) b) d⟩
theorem aP9 (f s p c i pd a now d1 d2:Int)(w:World)(h0:0≤d1)(h2:0≤d2)(h3:a≤now)(h4:now≤9999)(h5:0≤a)(t1:(d1==0)=false)(t2:15<now-a)(t3:(d2==0)=false)
  (HA:Hid (∀w,U 169 #[aV f s p c,cF i pd a,now] w (Z (I d1) w)))
  (HB:Hid (∀w,U 169 #[aV f s p c,cF i pd a,a] w (Z (I d2) w))):
  U 171 #[aV f s p c,cF i pd a,now] w (Z (.bool false) w):=by
 go_enter func171,ntmps171;go_wp2_with fail;refine Ω (HA _) fun w1 b=>?_
 have g:(w:Nat)<w1:=aT1 (by simp;omega) b.sz;have h:w.heap.size+1<w1.heap.size:=aT1 (by simp) b.sz;have d:=b.cells.1;go_wp2;go_ret;exact⟨aQ (by first|rfl|(simp;omega)),by exact .trans (.alloc (.alloc (.refl _) _) _) b⟩
theorem aP8 (f s p c i pd a now d1 d2:Int)(w:World)(h0:0≤d1)(h2:0≤d2)(h3:a≤now)(h4:now≤9999)(h5:0≤a)(t1:(d1==0)=false)(t2:now-a≤15)(t3:(d2==0)=false)
  (HA:Hid (∀w,U 169 #[aV f s p c,cF i pd a,now] w (Z (I d1) w)))
  (HB:Hid (∀w,U 169 #[aV f s p c,cF i pd a,a] w (Z (I d2) w))):
  U 171 #[aV f s p c,cF i pd a,now] w (Z (.bool false) w):=by
 go_enter func171,ntmps171;go_wp2_with fail;refine Ω (HA _) fun w1 b=>?_
 have g:(w:Nat)<w1:=aT1 (by simp;omega) b.sz;have h:w.heap.size+1<w1.heap.size:=aT1 (by simp) b.sz;have j:=b.cells.1;go_wp2_with fail;refine Ω (HB _) fun w2 d=>?_
 have l:=aT1 g d.sz;have m:=aT1 h d.sz;have k:=d.cells.1;go_wp2;go_ret;exact⟨aQ (by first|rfl|(simp;omega)),by exact .trans (.trans (.alloc (.alloc (.refl _) _) _) b) d⟩
theorem aS8 (f s p c i pd a now:Int)(w:World)(h:bV f s p c=true)(h2:dP i pd a=true)(h3:a≤now)(h4:now≤9999):U 171 #[aV f s p c,cF i pd a,now] w (Z (.bool (nJ f s p c i pd a now)) w):=by
 obtain⟨b1,b2,b3,b4,b5,b6⟩:=iB h2;have e1:0≤cT f s p c i pd a now:=by unfold cT;rw[if_pos (by simp[h,h2,h3,h4])];omega
 have e2:0≤cT f s p c i pd a a:=by unfold cT;rw[if_pos (by simp[h,h2];omega)];omega
 have hr:nJ f s p c i pd a now=(decide (cT f s p c i pd a now=0) || (decide (now-a≤15)&&decide (cT f s p c i pd a a=0))):=by simp[nJ,e1]
 have hA:=fun w=>aJb f s p c i pd a now w h h2 h3 h4
 have hB:=fun w=>aJb f s p c i pd a a w h h2 (by omega) b6
 rw[hr];generalize cT f s p c i pd a now=d1 at*;generalize cT f s p c i pd a a=d2 at*;by_cases t1:d1=0
 ·rw[show(decide (d1=0) || (decide (now-a≤15)&&decide (d2=0)))=true by simp[t1]];exact aPc f s p c i pd a now d1 d2 w e1 e2 h3 h4 (by omega) (by simp[t1]) hA hB
 by_cases t2:now-a≤15
 ·by_cases t3:d2=0
  ·rw[show(decide (d1=0) || (decide (now-a≤15)&&decide (d2=0)))=true by simp[t2,t3]];exact aPa f s p c i pd a now d1 d2 w e1 e2 h3 h4 (by omega) (by simp[t1]) t2 (by simp[t3]) hA hB
  rw[show(decide (d1=0) || (decide (now-a≤15)&&decide (d2=0)))=false by simp[t1,t3]];exact aP8 f s p c i pd a now d1 d2 w e1 e2 h3 h4 (by omega) (by simp[t1]) t2 (by simp[t3]) hA hB
 by_cases t3:d2=0
 ·rw[show(decide (d1=0) || (decide (now-a≤15)&&decide (d2=0)))=false by simp[t1,t2]];exact aPb f s p c i pd a now d1 d2 w e1 e2 h3 h4 (by omega) (by simp[t1]) (by omega) (by simp[t3]) hA hB
 rw[show(decide (d1=0) || (decide (now-a≤15)&&decide (d2=0)))=false by simp[t1,t2]];exact aP9 f s p c i pd a now d1 d2 w e1 e2 h3 h4 (by omega) (by simp[t1]) (by omega) (by simp[t3]) hA hB
theorem aNu (f s p c i pd a now d1 d2:Int)(w:World)(h0:0≤d1)(h2:0≤d2)(h3:a≤now)(h4:now≤9999)(h5:0≤a)(t1:(d1==0)=true)
  (HA:Hid (∀w,U 182 #[aV f s p c,cF i pd a,now] w (Z (I d1) w)))
  (HB:Hid (∀w,U 182 #[aV f s p c,cF i pd a,a] w (Z (I d2) w))):
  U 143 #[aV f s p c,cF i pd a,now] w (Z (.bool true) w):=by
 go_enter func143,ntmps143;go_wp2_with fail;refine Ω (HA _) fun w1 b=>?_
 have g:(w:Nat)<w1:=aT1 (by simp;omega) b.sz;have h:w.heap.size+1<w1.heap.size:=aT1 (by simp) b.sz;have j:=b.cells.1;go_wp2_with fail;refine Ω (HA _) fun w2 d=>?_
 have l:=aT1 g d.sz;have m:=aT1 h d.sz;have k:=d.cells.1;go_wp2;go_ret;exact⟨aQ (by first|rfl|(simp;omega)),by exact .trans (.trans (.alloc (.alloc (.refl _) _) _) b) d⟩
theorem aNt (f s p c i pd a now d1 d2:Int)(w:World)(h0:0≤d1)(h2:0≤d2)(h3:a≤now)(h4:now≤9999)(h5:0≤a)(t1:(d1==0)=false)(t2:15<now-a)(t3:(d2==0)=true)
  (HA:Hid (∀w,U 182 #[aV f s p c,cF i pd a,now] w (Z (I d1) w)))
  (HB:Hid (∀w,U 182 #[aV f s p c,cF i pd a,a] w (Z (I d2) w))):
  U 143 #[aV f s p c,cF i pd a,now] w (Z (.bool false) w):=by
 go_enter func143,ntmps143;go_wp2_with fail;refine Ω (HA _) fun w1 b=>?_
 have h:(w:Nat)<w1:=aT1 (by simp;omega) b.sz;have j:w.heap.size+1<w1.heap.size:=aT1 (by simp) b.sz;have m:=b.cells.1;go_wp2_with fail;refine Ω (HA _) fun w2 d=>?_
 have k:=aT1 h d.sz;have l:=aT1 j d.sz;have n:=d.cells.1;go_wp2_with fail;refine Ω (HB _) fun w3 g=>?_
 have q:=aT1 k g.sz;have r:=aT1 l g.sz;have o:=g.cells.1;go_wp2;go_ret;exact⟨aQ (by first|rfl|(simp;omega)),by exact .trans (.trans (.trans (.alloc (.alloc (.refl _) _) _) b) d) g⟩
theorem aNs (f s p c i pd a now d1 d2:Int)(w:World)(h0:0≤d1)(h2:0≤d2)(h3:a≤now)(h4:now≤9999)(h5:0≤a)(t1:(d1==0)=false)(t2:now-a≤15)(t3:(d2==0)=true)
  (HA:Hid (∀w,U 182 #[aV f s p c,cF i pd a,now] w (Z (I d1) w)))
  (HB:Hid (∀w,U 182 #[aV f s p c,cF i pd a,a] w (Z (I d2) w))):
  U 143 #[aV f s p c,cF i pd a,now] w (Z (.bool true) w):=by
 go_enter func143,ntmps143;go_wp2_with fail;refine Ω (HA _) fun w1 b=>?_
 have h:(w:Nat)<w1:=aT1 (by simp;omega) b.sz;have j:w.heap.size+1<w1.heap.size:=aT1 (by simp) b.sz;have m:=b.cells.1;go_wp2_with fail;refine Ω (HA _) fun w2 d=>?_
 have k:=aT1 h d.sz;have l:=aT1 j d.sz;have n:=d.cells.1;go_wp2_with fail;refine Ω (HB _) fun w3 g=>?_
 have q:=aT1 k g.sz;have r:=aT1 l g.sz;have o:=g.cells.1;go_wp2;go_ret;exact⟨aQ (by first|rfl|(simp;omega)),by exact .trans (.trans (.trans (.alloc (.alloc (.refl _) _) _) b) d) g⟩
theorem aNr (f s p c i pd a now d1 d2:Int)(w:World)(h0:0≤d1)(h2:0≤d2)(h3:a≤now)(h4:now≤9999)(h5:0≤a)(t1:(d1==0)=false)(t2:15<now-a)(t3:(d2==0)=false)
  (HA:Hid (∀w,U 182 #[aV f s p c,cF i pd a,now] w (Z (I d1) w)))
  (HB:Hid (∀w,U 182 #[aV f s p c,cF i pd a,a] w (Z (I d2) w))):
  U 143 #[aV f s p c,cF i pd a,now] w (Z (.bool false) w):=by
 go_enter func143,ntmps143;go_wp2_with fail;refine Ω (HA _) fun w1 b=>?_
 have h:(w:Nat)<w1:=aT1 (by simp;omega) b.sz;have j:w.heap.size+1<w1.heap.size:=aT1 (by simp) b.sz;have m:=b.cells.1;go_wp2_with fail;refine Ω (HA _) fun w2 d=>?_
 have k:=aT1 h d.sz;have l:=aT1 j d.sz;have n:=d.cells.1;go_wp2_with fail;refine Ω (HB _) fun w3 g=>?_
 have q:=aT1 k g.sz;have r:=aT1 l g.sz;have o:=g.cells.1;go_wp2;go_ret;exact⟨aQ (by first|rfl|(simp;omega)),by exact .trans (.trans (.trans (.alloc (.alloc (.refl _) _) _) b) d) g⟩
theorem aNq (f s p c i pd a now d1 d2:Int)(w:World)(h0:0≤d1)(h2:0≤d2)(h3:a≤now)(h4:now≤9999)(h5:0≤a)(t1:(d1==0)=false)(t2:now-a≤15)(t3:(d2==0)=false)
  (HA:Hid (∀w,U 182 #[aV f s p c,cF i pd a,now] w (Z (I d1) w)))
  (HB:Hid (∀w,U 182 #[aV f s p c,cF i pd a,a] w (Z (I d2) w))):
  U 143 #[aV f s p c,cF i pd a,now] w (Z (.bool false) w):=by
 go_enter func143,ntmps143;go_wp2_with fail;refine Ω (HA _) fun w1 b=>?_
 have h:(w:Nat)<w1:=aT1 (by simp;omega) b.sz;have j:w.heap.size+1<w1.heap.size:=aT1 (by simp) b.sz;have m:=b.cells.1;go_wp2_with fail;refine Ω (HA _) fun w2 d=>?_
 have k:=aT1 h d.sz;have l:=aT1 j d.sz;have n:=d.cells.1;go_wp2_with fail;refine Ω (HB _) fun w3 g=>?_
 have q:=aT1 k g.sz;have r:=aT1 l g.sz;have o:=g.cells.1;go_wp2;go_ret;exact⟨aQ (by first|rfl|(simp;omega)),by exact .trans (.trans (.trans (.alloc (.alloc (.refl _) _) _) b) d) g⟩
theorem aRv (f s p c i pd a now:Int)(w:World)(h:bV f s p c=true)(h2:dP i pd a=true)(h3:a≤now)(h4:now≤9999):U 143 #[aV f s p c,cF i pd a,now] w (Z (.bool (nJ f s p c i pd a now)) w):=by
 obtain⟨b1,b2,b3,b4,b5,b6⟩:=iB h2;have e1:0≤cT f s p c i pd a now:=by unfold cT;rw[if_pos (by simp[h,h2,h3,h4])];omega
 have e2:0≤cT f s p c i pd a a:=by unfold cT;rw[if_pos (by simp[h,h2];omega)];omega
 have hr:nJ f s p c i pd a now=(decide (cT f s p c i pd a now=0) || (decide (now-a≤15)&&decide (cT f s p c i pd a a=0))):=by simp[nJ,e1]
 have hA:=fun w=>aI5 f s p c i pd a now w h h2 h3 h4
 have hB:=fun w=>aI5 f s p c i pd a a w h h2 (by omega) b6
 rw[hr];generalize cT f s p c i pd a now=d1 at*;generalize cT f s p c i pd a a=d2 at*;by_cases t1:d1=0
 ·rw[show(decide (d1=0) || (decide (now-a≤15)&&decide (d2=0)))=true by simp[t1]];exact aNu f s p c i pd a now d1 d2 w e1 e2 h3 h4 (by omega) (by simp[t1]) hA hB
 by_cases t2:now-a≤15
 ·by_cases t3:d2=0
  ·rw[show(decide (d1=0) || (decide (now-a≤15)&&decide (d2=0)))=true by simp[t2,t3]];exact aNs f s p c i pd a now d1 d2 w e1 e2 h3 h4 (by omega) (by simp[t1]) t2 (by simp[t3]) hA hB
  rw[show(decide (d1=0) || (decide (now-a≤15)&&decide (d2=0)))=false by simp[t1,t3]];exact aNq f s p c i pd a now d1 d2 w e1 e2 h3 h4 (by omega) (by simp[t1]) t2 (by simp[t3]) hA hB
 by_cases t3:d2=0
 ·rw[show(decide (d1=0) || (decide (now-a≤15)&&decide (d2=0)))=false by simp[t1,t2]];exact aNt f s p c i pd a now d1 d2 w e1 e2 h3 h4 (by omega) (by simp[t1]) (by omega) (by simp[t3]) hA hB
 rw[show(decide (d1=0) || (decide (now-a≤15)&&decide (d2=0)))=false by simp[t1,t2]];exact aNr f s p c i pd a now d1 d2 w e1 e2 h3 h4 (by omega) (by simp[t1]) (by omega) (by simp[t3]) hA hB
end
def nK (x:Int):List Int→List Int
 | []=> [x]
 |y::ys=>if y<x then y::nK x ys else x::y::ys
def gZ (xs:List Int):List Int:=xs.foldl (fun acc x=>nK x acc) []
def eG (xs:List Int):List Int:=xs.filter (fun x=>decide (0<x))
def iL (xs:List Int):List Int:=gZ (eG xs)
theorem oU (x:Int): ∀xs,List.Perm (nK x xs) (x::xs):=by
 intro xs;induction xs with
 |nil=>exact List.Perm.refl _
 |cons y ys ih=>
  unfold nK;split
  ·exact(List.Perm.cons y ih).trans (List.Perm.swap x y ys)
  exact List.Perm.refl _
theorem xV (x:Int): ∀xs,xs.Pairwise (·≤ ·)→(nK x xs).Pairwise (·≤ ·):=by
 intro xs;induction xs with
 |nil=>intro _;simp[nK]
 |cons y ys ih=>
  intro h;rw[List.pairwise_cons]at h;unfold nK;split
  ·rename_i hlt;rw[List.pairwise_cons];refine⟨fun z hz=> ?_,ih h.2⟩;rcases aTj.1 ((oU x ys).mem_iff.1 hz)with rfl|hz
   ·omega
   exact h.1 z hz
  rename_i hge;rw[List.pairwise_cons,List.pairwise_cons];refine⟨fun z hz=> ?_,h⟩;rcases aTj.1 hz with rfl|hz
  ·omega
  have:=h.1 z hz;omega
theorem zM (xs:List Int)(x:Int):gZ (xs++ [x])=nK x (gZ xs):=by simp[gZ,List.foldl_append]
theorem aG2 (xs:List Int):List.Perm (gZ xs) xs∧(gZ xs).Pairwise (·≤ ·):=by
 suffices h: ∀(n:Nat) (xs:List Int),xs.length=n→List.Perm (gZ xs) xs∧(gZ xs).Pairwise (·≤ ·)from h _ xs rfl
 intro n;induction n with
 |zero=>intro xs h;obtain rfl:=aTr h;simp[gZ]
 |succ n ih=>
  intro xs h;have a:xs≠ []:=by intro e;rw[e]at h;simp at h
  rw[←List.dropLast_concat_getLast a,zM];obtain⟨h1,h2⟩:=ih xs.dropLast (by simp[h]);refine⟨?_,xV _ _ h2⟩;exact(oU _ _).trans ((List.Perm.cons _ h1).trans (List.perm_append_singleton _ _).symm)
theorem kA (xs:List Int):List.Perm (gZ xs) xs:=(aG2 xs).1
theorem mP (xs:List Int):(gZ xs).Pairwise (·≤ ·):=(aG2 xs).2
theorem aC7 (xs:List Int):(gZ xs).length=xs.length:=(kA xs).length_eq
theorem nT (xs:List Int)(x:Int):eG (xs++ [x])=eG xs++(if 0<x then [x]else []):=by unfold eG;rw[aU5];congr 1;by_cases h:0<x<;>simp[h]
theorem sG (xs:List Int):(eG xs).length≤xs.length:=aUb _ _
theorem pZ (xs:List Int):(iL xs).length=(eG xs).length:=aC7 _
theorem pG {xs ys:List Int}(h:List.Perm ys xs)(hs:ys.Pairwise (·≤ ·)):ys=gZ xs:=
 List.Perm.eq_of_pairwise (fun a b _ _ h1 h2=>Int.le_antisymm h1 h2) hs (mP xs) (h.trans (kA xs).symm)
abbrev aU:=Int×Int×Int×Int
def aD (v:aU):List Value:= [.int .i64 v.1,.int .i64 v.2.1,.int .i64 v.2.2.1,.int .i64 v.2.2.2]
structure aS where
 aA:Int
 aB:Int
 cells:List Int
 free:Int
 step:Int
 aE:Int
 aF:Int
 aC:Int
 aG:Int
 vs:List aU
def gM (aC:Int)(v:aU):Bool:=dP v.2.1 v.2.2.1 v.2.2.2&&decide (v.2.2.2≤aC)
def cK (aC:Int):List Int→List aU→Bool
 | [],[]=>true
 |c::cs,v::vs=>decide (v.1=c)&&gM aC v&&cK aC cs vs
 |_,_=>false
def wQ (h:aS):Bool:=decide (0≤h.aC∧h.aC≤9999∧0≤h.aG∧h.aG≤99999)
def bJ (h:aS):Bool:=aO h.aA h.aB h.cells&&bV h.free h.step h.aE h.aF&&wQ h&&cK h.aC (iL h.cells) h.vs
def lR:aS:=⟨0,0,[],0,0,0,0,0,0,[]⟩
theorem xJ {aC:Int}{cs:List Int}{vs:List aU}{k:Nat}{c:Int}{v:aU}(hc:cs[k]? =some c) (hv:vs[k]? =some v):
  cK aC (cs.drop k) (vs.drop k)=(decide (v.1=c)&&gM aC v&&cK aC (cs.drop (k+1)) (vs.drop (k+1))):=by
 rw[sQ hc,sQ hv];rfl
theorem mO {aC:Int}: ∀ {cs:List Int} {vs:List aU},cK aC cs vs=true→vs.map (·.1)=cs∧ ∀v∈vs,gM aC v=true:=by
 intro cs;induction cs with
 |nil=>intro vs h;cases vs with
  |nil=>simp
  |cons v vs=>simp[cK]at h
 |cons c cs ih=>
  intro vs h;cases vs with
  |nil=>simp[cK]at h
  |cons v vs=>
   simp only[cK,aTd,decide_eq_true_eq]at h;obtain⟨⟨h1,h2⟩,h3⟩:=h;obtain⟨i1,i2⟩:=ih h3;refine⟨by simp[h1,i1],fun x hx=> ?_⟩;rcases aTj.1 hx with rfl|hx
   ·exact h2
   exact i2 x hx
theorem xI {aC:Int}{cs:List Int}{vs:List aU}(h:cs.length≠vs.length):cK aC cs vs=false:=by
 cases hh:cK aC cs vs with
 |false=>rfl
 |true=>have:=congrArg List.length (mO hh).1;simp at this;omega
def iA (id:Int)(vs:List aU):Option aU:=vs.find? (fun v=>v.1==id)
def gU (h:aS)(id:Int):Option (Int×Int×Int):=if bJ h then(iA id h.vs).map (·.2)else none
def fQ (h:aS)(id:Int):Bool:=match gU h id with
 |some s=>nJ h.free h.step h.aE h.aF s.1 s.2.1 s.2.2 h.aC
 |none=>false
end Go.Proofs.YtbgkcehffiogcabGreatDoor
