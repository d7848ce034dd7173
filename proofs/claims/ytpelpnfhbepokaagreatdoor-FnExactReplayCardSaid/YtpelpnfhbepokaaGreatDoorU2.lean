/-
  Texts of this proof, packed (@packed).
-/
import Derived.WalkLawsBesides
import Derived.Test.YtpelpnfhbepokaaGreatDoorU1
namespace Go.Proofs.YtpelpnfhbepokaaGreatDoor
open Go.RowKit
set_option linter.unusedVariables false
set_option maxHeartbeats 8000000
set_option maxRecDepth 100000
abbrev aH (aA aB:Int)(p:OA)(n cap:Nat):Value:= .agg #[aA,aB,.slice p n cap]
theorem aEv (aA aB:Int)(p:OA)(n cap:Nat)(w:World)(hn:n≤9223372036854775807)
  (h:aA<2∨2≤aA∧4<aA∨2≤aA∧aA≤4∧aB<2∨2≤aA∧aA≤4∧2≤aB∧3<aB∨2≤aA∧aA≤4∧2≤aB∧aB≤3∧0≤aA*aB∧aA*aB≤12∧((n:Int)!=aA*aB)=true):
  Calls Tryz.prog 53 #[aH aA aB p n cap] w fun e w'=>e= .returned (.bool false)∧Ext w w':=by
 rcases h with h|⟨h0,h⟩|⟨h0,h1,h⟩|⟨h0,h1,h2,h⟩|⟨h0,h1,h2,h3,h4,h5,h⟩
 all_goals
  go_enter Tryz.func53,Tryz.ntmps53;go_wp2;go_ret;exact⟨rfl,by exact .alloc (.refl _) _⟩
theorem aId:qA [] Tryz.zeroCells140:=⟨by kernel_rfl,by
 have e:Tryz.zeroCells140=Array.replicate 100 (.bool false):=by kernel_rfl
 rw[e];exact aB6.2⟩
theorem aCj (aA aB:Int)(p:OA)(n cap:Nat)(xs:List Int)(w:World)(h0:2≤aA)(h1:aA≤4)(h2:2≤aB)(h3:aB≤3)(h4:0≤aA*aB)(h5:aA*aB≤12)(h6:((n:Int)!=aA*aB)=false)(hn:n≤12)
  (HS:Hid (Sl w p n cap 1 (ivs xs))):
  Calls Tryz.prog 53 #[aH aA aB p n cap] w fun e w'=>e= .returned (.bool (dO [] xs))∧Ext w w':=by
 go_enter Tryz.func53,Tryz.ntmps53;go_wp2;clear h4 h5 h6;go_loopw [38] (fun i wr=> ∃(k:Nat) (cs:Array Value),k≤n∧i= .int .i64 k∧Blk wr (w.heap.size+1) 140 cs∧qA (xs.take k) cs∧dO [] xs=dO (xs.take k) (xs.drop k)∧Ext w wr) (fun i _=>n-(intOf i).toNat)
 case atStart=>exact⟨0,_,Nat.zero_le _,rfl,by have:=Blk.new (w.alloc (.cells #[aA,aB,.slice p n cap] 25)) 140 Tryz.zeroCells140;simpa using this,aId,rfl,by exact .alloc (.alloc (.refl _) _) _⟩
 case round=>
  obtain⟨k,cs,hk,rfl,hb,ht,d,hE⟩:=hrel;have HB:=xQ hb;have HT:=xQ ht;by_cases hlt:k<n
  ·obtain⟨b,s,x,rfl,hx,m,l⟩:=(HS.out.ext hE).int_at hlt;have a:=xQ (d.trans (vW hx));have HX:=xQ hx;clear d hx hb ht;by_cases hr:0≤x∧x≤99
   ·obtain⟨f,g⟩:=hr;have j:wr.cell? ⟨w.heap.size+1,x.toNat,none⟩=some (.bool (decide (0<x)&&(xs.take k).contains x)):=by
     rw[HB.out.cell,HT.out.2 x.toNat (by omega)];congr 2;rw[show((x.toNat:Nat):Int)=x by omega];congr 1;simp
    have q:wr.frozen? ⟨w.heap.size+1,x.toNat,none⟩=false:=HB.out.frozen _;have o:x<100:=by omega
    cases hs:(decide (0<x)&&(xs.take k).contains x)with
    |true=>rw[hs]at j;have c:=xQ hs;clear hs;go_wp2;go_ret;exact⟨aO (by rw[a.out,c.out];simp),hE⟩
    |false=>
     rw[hs]at j;have c:=xQ hs;clear hs;go_wp2;go_roundw
     case rel=>
      refine⟨k+1,_,by omega,by go_num,HB.out.set _ _,?_,?_,xE⟩
      ·rw[bI HX.out];refine aB5 HT x f g (fun h0=> ?_);have:=c.out;simpa[h0]using this
      rw[a.out,c.out];simp[f,g]
     case measure=>simp[intOf];omega
   have h:dO [] xs=false:=by rw[a.out];simp[hr]
   have HF:=xQ h;clear h;by_cases f:x<0
   ·go_wp2;go_ret;exact⟨aO HF.out.symm,hE⟩
   have g:99<x:=by omega
   have r:0≤x:=by omega
   go_wp2;go_ret;exact⟨aO HF.out.symm,hE⟩
  have a:=xQ (d.trans (tF (by have:=HS.out.ilen;omega)));clear d hb ht;go_wp2;go_ret;exact⟨aO a.out.symm,hE⟩
theorem fW (aA aB:Int)(p:OA)(n cap:Nat)(xs:List Int)(w:World)(hS:Sl w p n cap 1 (ivs xs)):
  Calls Tryz.prog 53 #[aH aA aB p n cap] w fun e w'=>e= .returned (.bool (aN aA aB xs))∧Ext w w':=by
 have hl:=hS.ilen;unfold aN;rw[hl];cases hs:jO aA aB n with
 |true=>obtain⟨h1,h2,h3,h4,h5,h6,h7⟩:=cG hs;rw[Bool.true_and];exact aCj aA aB p n cap xs w h1 h2 h3 h4 (by omega) (by omega) (by simp[h7]) h6 hS
 |false=>rw[Bool.false_and];exact aEv aA aB p n cap w hS.bd (xM hs)
theorem oJ {f:FuncId}{a:Array Value}{w:World}{n:Nat}{v:Value}(h:Calls Tryz.prog f a (w.drewN n) fun e w'=>e= .returned v∧w.drewN n=w'):
  Calls Tryz.prog f a (w.drewN n) fun e w'=>e= .returned v∧ ∃m,w'=w.drewN m:=h.mono fun _ _ ⟨he,hm⟩=>⟨he,n,hm.symm⟩
theorem mB (n lo hi:Int)(w:World)(h:lo≤n)(h2:n≤hi):Calls Tryz.prog 43 #[n,lo,hi] w fun e w'=>e= .returned (.bool true)∧w=w':=by go_enter Tryz.func43,Tryz.ntmps43;go_wp2;go_ret;exact⟨rfl,rfl⟩
theorem tS (n lo hi:Int)(w:World)(h:n<lo∨lo≤n∧hi<n):Calls Tryz.prog 43 #[n,lo,hi] w fun e w'=>e= .returned (.bool false)∧w=w':=by
 rcases h with h|⟨h,h2⟩
 all_goals
  go_enter Tryz.func43,Tryz.ntmps43;go_wp2;go_ret;exact⟨aO (by first|rfl|(simp;omega)),rfl⟩
theorem yC (p:OA)(n cap:Nat)(xs:List Int)(x:Int)(w:World)(hS:Sl w p n cap 1 (ivs xs)):
  Calls Tryz.prog 91 #[.slice p n cap,x] w fun e w'=>e= .returned (.bool (xs.contains x))∧w=w':=by
 have hn:=hS.bd;have hl:=xQ hS.ilen;have HS:=xQ hS;clear hS;go_enter Tryz.func91,Tryz.ntmps91;go_wp2;go_loop [5] (fun i=> ∃k:Nat,k≤n∧i= .int .i64 k∧(xs.take k).contains x=false) (fun i=>n-(intOf i).toNat)
 case atStart=>exact⟨0,Nat.zero_le _,rfl,by simp⟩
 case round=>
  obtain⟨k,hk,rfl,hc⟩:=hrel;have HC:=xQ hc;clear hc;by_cases hlt:k<n
  ·obtain⟨b,d,y,rfl,hx,hb,c⟩:=HS.out.int_at hlt;have HX:=xQ hx;clear hx;by_cases hy:y=x
   ·have t1:(y==x)=true:=by simp[hy]
    have a:Hid (xs.contains x=true):=by show _=_;rw[List.contains_eq_mem];simp;rw[←hy];exact List.mem_of_getElem? HX.out
    clear hy;go_wp2;go_ret;exact⟨aO (by simpa using a.out.symm),rfl⟩
   have t1:(y==x)=false:=by simp[hy]
   have a:Hid ((xs.take (k+1)).contains x=false):=by have:=HC.out;show _=_;rw[bI HX.out];simp only[List.contains_eq_mem,decide_eq_false_iff_not,List.mem_append,List.mem_singleton,not_or]at this⊢;exact⟨this,fun e=>hy e.symm⟩
   clear hy;go_wp2;go_round
   case rel=>exact⟨k+1,by omega,by go_num,a.out⟩
   case measure=>simp[intOf];omega
  have a:Hid (xs.contains x=false):=by have:=HC.out;rw[List.take_of_length_le (by rw[hl.out];omega)]at this;exact this
  go_wp2;go_ret;exact⟨aO (by simpa using a.out.symm),rfl⟩
theorem aDp (aA aB:Int)(p:OA)(n cap:Nat)(w:World)(hn:n≤9223372036854775807)
  (h:aA<2∨2≤aA∧4<aA∨2≤aA∧aA≤4∧aB<2∨2≤aA∧aA≤4∧2≤aB∧3<aB∨2≤aA∧aA≤4∧2≤aB∧aB≤3∧0≤aA*aB∧aA*aB≤12∧((n:Int)!=aA*aB)=true):
  Calls Tryz.prog 41 #[aH aA aB p n cap] w fun e w'=>e= .returned (.bool false)∧Ext w w':=by
 rcases h with h|⟨h0,h⟩|⟨h0,h1,h⟩|⟨h0,h1,h2,h⟩|⟨h0,h1,h2,h3,h4,h5,h⟩
 all_goals
  go_enter Tryz.func41,Tryz.ntmps41;go_wp2_with go_in;go_ret;exact⟨rfl,by exact .alloc (.refl _) _⟩
theorem aBd (aA aB:Int)(p:OA)(n cap:Nat)(xs:List Int)(w:World)(h0:2≤aA)(h1:aA≤4)(h2:2≤aB)(h3:aB≤3)(h4:0≤aA*aB)(h5:aA*aB≤12)(h6:((n:Int)!=aA*aB)=false)(hn:n≤12)
  (HS:Hid (Sl w p n cap 1 (ivs xs))):
  Calls Tryz.prog 41 #[aH aA aB p n cap] w fun e w'=>e= .returned (.bool (dO [] xs))∧Ext w w':=by
 have s:=HS.out.le;have h:=HS.out.mx;unfold maxLen at h;go_enter Tryz.func41,Tryz.ntmps41;go_wp2_with go_in;clear h4 h5 h6;go_loopw [3] (fun i wr=> ∃k:Nat,k≤n∧i= .int .i64 k∧dO [] xs=dO (xs.take k) (xs.drop k)∧Ext w wr∧w.heap.size<wr.heap.size∧wr.cell? ⟨w.heap.size,2,none⟩=some (.slice p n cap)) (fun i _=>n-(intOf i).toNat)
 case atStart=>exact⟨0,Nat.zero_le _,rfl,rfl,by exact .alloc (.refl _) _,by simp,by simp⟩
 case round=>
  obtain⟨k,hk,rfl,d,hE,j,g⟩:=hrel;by_cases hlt:k<n
  ·have q:=aLb (HS.out.ext hE) (m:=k) hk;obtain⟨b,f,x,rfl,hx,t,r⟩:=(HS.out.ext hE).int_at hlt;have a:=xQ (d.trans (vW hx));have i1:(0:Int)≤(k:Int):=by omega
   have i2:(k:Int)<(n:Int):=by omega
   have i3:(k:Int)≤(n:Int):=by omega
   have i4:(k:Int)≤(cap:Int):=by omega
   have HX:=xQ hx;have HK:=xQ q;clear d hx q;by_cases hr:0≤x∧x≤99
   ·obtain⟨l,o⟩:=hr;have HI:Hid (∀w,Calls Tryz.prog 43 #[x,(),.int .i64 99] w fun e w'=>e= .returned (.bool true)∧w=w'):=fun w=>mB x 0 99 w l o
    by_cases hp:0<x
    ·have hd:decide (0<x)=true:=by simp[hp]
     cases hs:(xs.take k).contains x with
     |true=>
      have HH:Hid (∀m,Calls Tryz.prog 91 #[.slice (some ⟨b,f,none⟩) k cap,x] (wr.drewN m) fun e w'=>e= .returned (.bool true)∧wr.drewN m=w'):=fun m=>by have:=yC (some ⟨b,f,none⟩) k cap (xs.take k) x (wr.drewN m) (HK.out.ext (Ext.drewN (Ext.refl _) _));rwa[hs]at this
      have c:Hid (dO [] xs=false):=by show _=_;rw[a.out,hs];simp[hp]
      clear hs;go_wp2;go_quiet ((first|(go_at_call 43;exact oJ (HI _))|(go_at_call 91;exact oJ (HH _))));go_wp2;go_ret;exact⟨aO c.out.symm,by exact .drewN hE _⟩
     |false=>
      have HH:Hid (∀m,Calls Tryz.prog 91 #[.slice (some ⟨b,f,none⟩) k cap,x] (wr.drewN m) fun e w'=>e= .returned (.bool false)∧wr.drewN m=w'):=fun m=>by have:=yC (some ⟨b,f,none⟩) k cap (xs.take k) x (wr.drewN m) (HK.out.ext (Ext.drewN (Ext.refl _) _));rwa[hs]at this
      have c:Hid (dO [] xs=dO (xs.take (k+1)) (xs.drop (k+1))):=by show _=_;rw[a.out,hs];simp[l,o]
      clear hs;go_wp2;go_quiet ((first|(go_at_call 43;exact oJ (HI _))|(go_at_call 91;exact oJ (HH _))));go_wp2;go_roundw
      case rel=>exact⟨k+1,by omega,by go_num,c.out,by exact .drewN hE _,j,g⟩
      case measure=>simp[intOf];omega
    have hd:decide (0<x)=false:=by simp[hp]
    have c:Hid (dO [] xs=dO (xs.take (k+1)) (xs.drop (k+1))):=by show _=_;rw[a.out];simp[l,o,hp]
    go_wp2;go_quiet ((go_at_call 43;exact oJ (HI _)));go_wp2;go_roundw
    case rel=>first|exact⟨k+1,by omega,by go_num,c.out,xE,j,g⟩|((repeat apply Exists.intro);exact⟨⟨k+1,by omega,by go_num,c.out,by exact .drewN hE _,j,g⟩,rfl⟩)
    case measure=>simp[intOf];omega
   have HI:Hid (∀w,Calls Tryz.prog 43 #[x,(),.int .i64 99] w fun e w'=>e= .returned (.bool false)∧w=w'):=fun w=>tS x 0 99 w (by omega)
   have c:Hid (dO [] xs=false):=by show _=_;rw[a.out];simp[hr]
   clear hr;go_wp2;go_quiet ((go_at_call 43;exact oJ (HI _)));go_wp2;go_ret;exact⟨aO c.out.symm,by exact .drewN hE _⟩
  have a:=xQ (d.trans (tF (by have:=HS.out.ilen;omega)));clear d;go_wp2;go_ret;exact⟨aO a.out.symm,by exact hE⟩
theorem gZ (aA aB:Int)(p:OA)(n cap:Nat)(xs:List Int)(w:World)(hS:Sl w p n cap 1 (ivs xs)):
  Calls Tryz.prog 41 #[aH aA aB p n cap] w fun e w'=>e= .returned (.bool (aN aA aB xs))∧Ext w w':=by
 have hl:=hS.ilen;unfold aN;rw[hl];cases hs:jO aA aB n with
 |true=>obtain⟨h1,h2,h3,h4,h5,h6,h7⟩:=cG hs;rw[Bool.true_and];exact aBd aA aB p n cap xs w h1 h2 h3 h4 (by omega) (by omega) (by simp[h7]) h6 hS
 |false=>rw[Bool.false_and];exact aDp aA aB p n cap w hS.bd (xM hs)
def bJ (f s p c:Int):Bool:=decide (0≤f∧f<1440∧1≤s∧s≤1440∧0≤p∧p≤99∧0≤c∧c≤99)
def cZ (i p a:Int):Bool:=decide (0≤i∧i≤9999∧0≤p∧p≤9999∧i≤a∧a≤9999)
def eS (f s m:Int):Int:=if m≤f then 0 else(m-f+s-1)/s
def mE (f s p c m:Int):Int:=m/1440*c+min (eS f s (m%1440)*p) c
def bX (f s p c i pd a now:Int):Int:=if bJ f s p c&&cZ i pd a&&decide (a≤now∧now≤9999)then max (mE f s p c (now-i)-pd) 0 else -1
def kX (f s p c i pd a now:Int):Bool:=
 decide (bX f s p c i pd a now=0) || (decide (0≤bX f s p c i pd a now)&&decide (now-a≤15)&&decide (bX f s p c i pd a a=0))
abbrev aR (f s p c:Int):Value:= .agg #[f,s,p,c]
abbrev bN (i p a:Int):Value:= .agg #[i,p,a]
theorem iV {f s p c:Int}(h:bJ f s p c=true):0≤f∧f<1440∧1≤s∧s≤1440∧0≤p∧p≤99∧0≤c∧c≤99:=by simpa[bJ]using h
theorem fT {i p a:Int}(h:cZ i p a=true):0≤i∧i≤9999∧0≤p∧p≤9999∧i≤a∧a≤9999:=by simpa[cZ]using h
theorem iQ {f s m:Int}(h0:0≤f)(h1:1≤s)(hm:m≤9999):0≤eS f s m∧eS f s m≤9999:=by
 unfold eS;split
 ·omega
 refine⟨Int.ediv_nonneg (by omega) (by omega),?_⟩;have:(m-f+s-1)/s≤m-f:=by
  apply Int.ediv_le_of_le_mul (by omega);have:(m-f)*s≥(m-f)*1:=Int.mul_le_mul_of_nonneg_left h1 (by omega);have h2:(m-f)*s=(m-f-1)*s+s:=by rw[Int.sub_mul (m-f) 1 s];omega
  have h3:(m-f-1)*s≥(m-f-1)*1:=Int.mul_le_mul_of_nonneg_left h1 (by omega);omega
 omega
theorem aAt {f s m:Int}(h1:1≤s):(max (m-f) 0+s-1)/s=eS f s m:=by
 unfold eS;split
 ·rw[show max (m-f) 0=0 by omega];exact Int.ediv_eq_zero_of_lt (by omega) (by omega)
 rw[show max (m-f) 0=m-f by omega]
theorem sI {x p:Int}(hx:0≤x)(a:x≤9999)(h0:0≤p)(h1:p≤99):0≤x*p∧x*p≤989901:=by refine⟨Int.mul_nonneg hx h0,?_⟩;have:=Int.mul_le_mul a h1 h0 (by omega);omega
theorem qW {f s p c m:Int}(h:bJ f s p c=true)(h0:0≤m)(h1:m≤9999):0≤mE f s p c m∧mE f s p c m≤693:=by obtain⟨a1,a2,a3,a4,a5,a6,a7,a8⟩:=iV h;obtain⟨b1,b2⟩:=iQ (m:=m%1440) a1 a3 (by omega);obtain⟨d1,d2⟩:=sI b1 b2 a5 a6;unfold mE;have e1:0≤m/1440*c:=Int.mul_nonneg (by omega) a7;have e2:m/1440*c≤6*99:=Int.mul_le_mul (by omega) a8 a7 (by omega);omega
theorem aA7 (f s p c:Int)(w:World):Calls Tryz.prog 51 #[aR f s p c] w fun e w'=>e= .returned (.bool (bJ f s p c))∧Ext w w':=by
 by_cases c1:0≤f
 ·by_cases c2:f<1440
  ·by_cases c3:1≤s
   ·by_cases c4:s≤1440
    ·by_cases c5:0≤p
     ·by_cases c6:p≤99
      ·by_cases c7:0≤c
       ·by_cases c8:c≤99
        ·go_enter Tryz.func51,Tryz.ntmps51;go_wp2;go_ret;exact⟨aO (by simp[bJ];omega),by exact .alloc (.refl _) _⟩
        go_enter Tryz.func51,Tryz.ntmps51;go_wp2;go_ret;exact⟨aO (by simp[bJ];omega),by exact .alloc (.refl _) _⟩
       go_enter Tryz.func51,Tryz.ntmps51;go_wp2;go_ret;exact⟨aO (by simp[bJ];omega),by exact .alloc (.refl _) _⟩
      go_enter Tryz.func51,Tryz.ntmps51;go_wp2;go_ret;exact⟨aO (by simp[bJ];omega),by exact .alloc (.refl _) _⟩
     go_enter Tryz.func51,Tryz.ntmps51;go_wp2;go_ret;exact⟨aO (by simp[bJ];omega),by exact .alloc (.refl _) _⟩
    go_enter Tryz.func51,Tryz.ntmps51;go_wp2;go_ret;exact⟨aO (by simp[bJ];omega),by exact .alloc (.refl _) _⟩
   go_enter Tryz.func51,Tryz.ntmps51;go_wp2;go_ret;exact⟨aO (by simp[bJ];omega),by exact .alloc (.refl _) _⟩
  go_enter Tryz.func51,Tryz.ntmps51;go_wp2;go_ret;exact⟨aO (by simp[bJ];omega),by exact .alloc (.refl _) _⟩
 go_enter Tryz.func51,Tryz.ntmps51;go_wp2;go_ret;exact⟨aO (by simp[bJ];omega),by exact .alloc (.refl _) _⟩
theorem zC (f s p c:Int)(w:World):Calls Tryz.prog 42 #[aR f s p c] w fun e w'=>e= .returned (.bool (bJ f s p c))∧Ext w w':=by
 by_cases c1:0≤f
 ·by_cases c2:f<1440
  ·by_cases c3:1≤s
   ·by_cases c4:s≤1440
    ·by_cases c5:0≤p
     ·by_cases c6:p≤99
      ·by_cases c7:0≤c
       ·by_cases c8:c≤99
        ·go_enter Tryz.func42,Tryz.ntmps42;go_wp2_with go_in;go_ret;exact⟨aO (by simp[bJ];omega),by exact .alloc (.refl _) _⟩
        go_enter Tryz.func42,Tryz.ntmps42;go_wp2_with go_in;go_ret;exact⟨aO (by simp[bJ];omega),by exact .alloc (.refl _) _⟩
       go_enter Tryz.func42,Tryz.ntmps42;go_wp2_with go_in;go_ret;exact⟨aO (by simp[bJ];omega),by exact .alloc (.refl _) _⟩
      go_enter Tryz.func42,Tryz.ntmps42;go_wp2_with go_in;go_ret;exact⟨aO (by simp[bJ];omega),by exact .alloc (.refl _) _⟩
     go_enter Tryz.func42,Tryz.ntmps42;go_wp2_with go_in;go_ret;exact⟨aO (by simp[bJ];omega),by exact .alloc (.refl _) _⟩
    go_enter Tryz.func42,Tryz.ntmps42;go_wp2_with go_in;go_ret;exact⟨aO (by simp[bJ];omega),by exact .alloc (.refl _) _⟩
   go_enter Tryz.func42,Tryz.ntmps42;go_wp2_with go_in;go_ret;exact⟨aO (by simp[bJ];omega),by exact .alloc (.refl _) _⟩
  go_enter Tryz.func42,Tryz.ntmps42;go_wp2_with go_in;go_ret;exact⟨aO (by simp[bJ];omega),by exact .alloc (.refl _) _⟩
 go_enter Tryz.func42,Tryz.ntmps42;go_wp2_with go_in;go_ret;exact⟨aO (by simp[bJ];omega),by exact .alloc (.refl _) _⟩
theorem aJw (i p a:Int)(w:World):Calls Tryz.prog 54 #[bN i p a] w fun e w'=>e= .returned (.bool (cZ i p a))∧Ext w w':=by
 by_cases c1:0≤i
 ·by_cases c2:i≤9999
  ·by_cases c3:0≤p
   ·by_cases c4:p≤9999
    ·by_cases c5:i≤a
     ·by_cases c6:a≤9999
      ·go_enter Tryz.func54,Tryz.ntmps54;go_wp2;go_ret;exact⟨aO (by simp[cZ];omega),by exact .alloc (.refl _) _⟩
      go_enter Tryz.func54,Tryz.ntmps54;go_wp2;go_ret;exact⟨aO (by simp[cZ];omega),by exact .alloc (.refl _) _⟩
     go_enter Tryz.func54,Tryz.ntmps54;go_wp2;go_ret;exact⟨aO (by simp[cZ];omega),by exact .alloc (.refl _) _⟩
    go_enter Tryz.func54,Tryz.ntmps54;go_wp2;go_ret;exact⟨aO (by simp[cZ];omega),by exact .alloc (.refl _) _⟩
   go_enter Tryz.func54,Tryz.ntmps54;go_wp2;go_ret;exact⟨aO (by simp[cZ];omega),by exact .alloc (.refl _) _⟩
  go_enter Tryz.func54,Tryz.ntmps54;go_wp2;go_ret;exact⟨aO (by simp[cZ];omega),by exact .alloc (.refl _) _⟩
 go_enter Tryz.func54,Tryz.ntmps54;go_wp2;go_ret;exact⟨aO (by simp[cZ];omega),by exact .alloc (.refl _) _⟩
theorem aIm (i p a:Int)(w:World):Calls Tryz.prog 44 #[bN i p a] w fun e w'=>e= .returned (.bool (cZ i p a))∧Ext w w':=by
 by_cases c1:0≤i
 ·by_cases c2:i≤9999
  ·by_cases c3:0≤p
   ·by_cases c4:p≤9999
    ·by_cases c5:i≤a
     ·by_cases c6:a≤9999
      ·go_enter Tryz.func44,Tryz.ntmps44;go_wp2_with go_in;go_ret;exact⟨aO (by simp[cZ];omega),by exact .alloc (.refl _) _⟩
      go_enter Tryz.func44,Tryz.ntmps44;go_wp2_with go_in;go_ret;exact⟨aO (by simp[cZ];omega),by exact .alloc (.refl _) _⟩
     go_enter Tryz.func44,Tryz.ntmps44;go_wp2_with go_in;go_ret;exact⟨aO (by simp[cZ];omega),by exact .alloc (.refl _) _⟩
    go_enter Tryz.func44,Tryz.ntmps44;go_wp2_with go_in;go_ret;exact⟨aO (by simp[cZ];omega),by exact .alloc (.refl _) _⟩
   go_enter Tryz.func44,Tryz.ntmps44;go_wp2_with go_in;go_ret;exact⟨aO (by simp[cZ];omega),by exact .alloc (.refl _) _⟩
  go_enter Tryz.func44,Tryz.ntmps44;go_wp2_with go_in;go_ret;exact⟨aO (by simp[cZ];omega),by exact .alloc (.refl _) _⟩
 go_enter Tryz.func44,Tryz.ntmps44;go_wp2_with go_in;go_ret;exact⟨aO (by simp[cZ];omega),by exact .alloc (.refl _) _⟩
theorem aK6 (f s p c m:Int)(w:World)(h:bJ f s p c=true)(h0:0≤m)(h1:m≤9999):Calls Tryz.prog 52 #[aR f s p c,m] w fun e w'=>e= .returned (.int .i64 (eS f s m))∧Ext w w':=by
 obtain⟨a1,a2,a3,a4,a5,a6,a7,a8⟩:=iV h;have HT:Hid (∀w,Calls Tryz.prog 51 #[aR f s p c] w fun e w'=>e= .returned (.bool true)∧Ext w w'):=fun w=>by rw[←h];exact aA7 f s p c w
 have HB:=xQ (iQ (m:=m) a1 a3 h1);clear h;by_cases hm:m≤f
 ·have hf:Hid (eS f s m=0):=if_pos hm;go_enter Tryz.func52,Tryz.ntmps52;go_wp2_with fail;refine(HT _).mono ?_;rintro e w1 ⟨rfl,a⟩;have b:=a.cells.1;go_wp2;go_ret;exact⟨dG hf.out.symm,by exact .trans (.alloc (.refl _) _) a⟩
 have hf:Hid (eS f s m=(m-f+s-1)/s):=if_neg hm;go_enter Tryz.func52,Tryz.ntmps52;go_wp2_with fail;refine(HT _).mono ?_;rintro e w1 ⟨rfl,a⟩;have b:=a.cells.1;go_wp2;go_ret;exact⟨dG hf.out.symm,by exact .trans (.alloc (.refl _) _) a⟩
theorem aJ0 (f s p c m:Int)(w:World)(h:bJ f s p c=true)(h0:0≤m)(h1:m≤9999):Calls Tryz.prog 219 #[aR f s p c,m] w fun e w'=>e= .returned (.int .i64 (eS f s m))∧Ext w w':=by
 obtain⟨a1,a2,a3,a4,a5,a6,a7,a8⟩:=iV h;have HT:Hid (∀w,Calls Tryz.prog 42 #[aR f s p c] w fun e w'=>e= .returned (.bool true)∧Ext w w'):=fun w=>by rw[←h];exact zC f s p c w
 have hf:=xQ (aAt (f:=f) (m:=m) a3);clear h;go_enter Tryz.func219,Tryz.ntmps219;go_wp2_with (first|(go_at_call 42;refine(HT _).mono ?_;rintro e w1 ⟨rfl,a⟩;have b:=a.cells.1)|go_in);all_goals go_ret
 all_goals exact⟨dG (by rw[←hf.out];congr 1;omega),by exact .trans (.alloc (.refl _) _) a⟩
theorem aMu (f s p c m:Int)(w:World)(h:bJ f s p c=true)(h0:0≤m)(h1:m≤9999):Calls Tryz.prog 17 #[aR f s p c,m] w fun e w'=>e= .returned (.int .i64 (mE f s p c m))∧Ext w w':=by
 obtain⟨a1,a2,a3,a4,a5,a6,a7,a8⟩:=iV h;have HT:Hid (∀w,Calls Tryz.prog 51 #[aR f s p c] w fun e w'=>e= .returned (.bool true)∧Ext w w'):=fun w=>by rw[←h];exact aA7 f s p c w
 obtain⟨q,hq⟩: ∃q,q=eS f s (m%1440):=⟨_,rfl⟩
 have g:0≤q∧q≤9999:=by rw[hq];exact iQ a1 a3 (by omega)
 obtain⟨q2,d⟩: ∃q,q=eS f s m:=⟨_,rfl⟩
 have j:0≤q2∧q2≤9999:=by rw[d];exact iQ a1 a3 (by omega)
 have HF:Hid (∀w,Calls Tryz.prog 52 #[aR f s p c,(m%1440:Int)] w fun e w'=>e= .returned (.int .i64 q)∧Ext w w'):=fun w=>by rw[hq];exact aK6 f s p c _ w h (by omega) (by omega)
 have k:Hid (∀w,Calls Tryz.prog 52 #[aR f s p c,m] w fun e w'=>e= .returned (.int .i64 q2)∧Ext w w'):=fun w=>by rw[d];exact aK6 f s p c _ w h (by omega) (by omega)
 have b:mE f s p c m=m/1440*c+min (q*p) c:=by rw[hq];rfl
 rw[b];obtain⟨b1,b2⟩:=sI g.1 g.2 a5 a6;have b3:0≤m/1440*c:=Int.mul_nonneg (by omega) a7;have b4:m/1440*c≤6*99:=Int.mul_le_mul (by omega) a8 a7 (by omega);clear hq d b h;go_enter Tryz.func17,Tryz.ntmps17;go_wp2_with fail;refine(HT _).mono ?_;rintro e w1 ⟨rfl,a⟩;have n:w.heap.size<w1.heap.size:=Nat.lt_of_lt_of_le (by simp) a.sz;have e0:w1.cell? ⟨w.heap.size,0,none⟩=some (.int .i64 f):=by rw[a.cells.1 _ _ (by simp)];simp
 have e1:w1.cell? ⟨w.heap.size,1,none⟩=some (.int .i64 s):=by rw[a.cells.1 _ _ (by simp)];simp
 have e2:w1.cell? ⟨w.heap.size,2,none⟩=some (.int .i64 p):=by rw[a.cells.1 _ _ (by simp)];simp
 have e3:w1.cell? ⟨w.heap.size,3,none⟩=some (.int .i64 c):=by rw[a.cells.1 _ _ (by simp)];simp
 go_wp2_with fail;have hq:=IntWalk.i64_quo m 1440 ⟨h0,by omega,by omega⟩;have hr:=IntWalk.rem_in m 1440 h0;have i:IntKind.i64.wrap (m%1440)=m%1440:=IntWalk.i64_in _ (by omega);have k1:IntKind.i64.wrap (q*p)=q*p:=IntWalk.i64_in _ (by omega);have k2:IntKind.i64.wrap (m/1440*c)=m/1440*c:=IntWalk.i64_in _ (by omega);have k3:IntKind.i64.wrap (m/1440*c+c)=m/1440*c+c:=IntWalk.i64_in _ (by omega);have k4:IntKind.i64.wrap (m/1440*c+q*p)=m/1440*c+q*p:=IntWalk.i64_in _ (by omega)
 go_region_held3 (fun w'=>w'.cell? ⟨w.heap.size,0,none⟩=some (.int .i64 f)∧w'.cell? ⟨w.heap.size,1,none⟩=some (.int .i64 s)∧w'.cell? ⟨w.heap.size,2,none⟩=some (.int .i64 p)∧w'.cell? ⟨w.heap.size,3,none⟩=some (.int .i64 c)) (go_keep)
  ((go_at_call 52;refine(HF _).mono ?_;rintro e w2 ⟨rfl,h2⟩;(try replace h2:=h2.of_drew);have l:=h2.cells.1;have o:w.heap.size<w2.heap.size:=Nat.lt_of_lt_of_le (by assumption) h2.sz))
 all_goals clear hq hr i k1 k2 k3 k4
 all_goals go_wp2
 all_goals go_ret
 all_goals exact⟨dG (by first|omega|(rw[IntWalk.i64_in _ (by omega)];omega)),by exact .trans (.trans (.alloc (.refl _) _) a) h2⟩
theorem aMc (f s p c m:Int)(w:World)(h:bJ f s p c=true)(h0:0≤m)(h1:m≤9999):Calls Tryz.prog 192 #[aR f s p c,m] w fun e w'=>e= .returned (.int .i64 (mE f s p c m))∧Ext w w':=by
 obtain⟨a1,a2,a3,a4,a5,a6,a7,a8⟩:=iV h;have HT:Hid (∀w,Calls Tryz.prog 42 #[aR f s p c] w fun e w'=>e= .returned (.bool true)∧Ext w w'):=fun w=>by rw[←h];exact zC f s p c w
 obtain⟨q,hq⟩: ∃q,q=eS f s (m%1440):=⟨_,rfl⟩
 have g:0≤q∧q≤9999:=by rw[hq];exact iQ a1 a3 (by omega)
 obtain⟨q2,d⟩: ∃q,q=eS f s m:=⟨_,rfl⟩
 have k:0≤q2∧q2≤9999:=by rw[d];exact iQ a1 a3 (by omega)
 have HF:Hid (∀w,Calls Tryz.prog 219 #[aR f s p c,(m%1440:Int)] w fun e w'=>e= .returned (.int .i64 q)∧Ext w w'):=fun w=>by rw[hq];exact aJ0 f s p c _ w h (by omega) (by omega)
 have i:Hid (∀w,Calls Tryz.prog 219 #[aR f s p c,m] w fun e w'=>e= .returned (.int .i64 q2)∧Ext w w'):=fun w=>by rw[d];exact aJ0 f s p c _ w h (by omega) (by omega)
 have b:mE f s p c m=m/1440*c+min (q*p) c:=by rw[hq];rfl
 rw[b];obtain⟨b1,b2⟩:=sI g.1 g.2 a5 a6;have b3:0≤m/1440*c:=Int.mul_nonneg (by omega) a7;have b4:m/1440*c≤6*99:=Int.mul_le_mul (by omega) a8 a7 (by omega);clear hq d b h;go_enter Tryz.func192,Tryz.ntmps192;go_wp2_with fail;refine(i _).mono ?_;rintro e w1 ⟨rfl,a⟩;have n:w.heap.size<w1.heap.size:=Nat.lt_of_lt_of_le (by simp) a.sz;have e0:w1.cell? ⟨w.heap.size,0,none⟩=some (.int .i64 f):=by rw[a.cells.1 _ _ (by simp)];simp
 have e1:w1.cell? ⟨w.heap.size,1,none⟩=some (.int .i64 s):=by rw[a.cells.1 _ _ (by simp)];simp
 have e2:w1.cell? ⟨w.heap.size,2,none⟩=some (.int .i64 p):=by rw[a.cells.1 _ _ (by simp)];simp
 have e3:w1.cell? ⟨w.heap.size,3,none⟩=some (.int .i64 c):=by rw[a.cells.1 _ _ (by simp)];simp
 go_wp2_with fail;have hq:=IntWalk.i64_quo m 1440 ⟨h0,by omega,by omega⟩;have hr:=IntWalk.rem_in m 1440 h0;have j:IntKind.i64.wrap (m%1440)=m%1440:=IntWalk.i64_in _ (by omega);have k1:IntKind.i64.wrap (q*p)=q*p:=IntWalk.i64_in _ (by omega);have k2:IntKind.i64.wrap (m/1440*c)=m/1440*c:=IntWalk.i64_in _ (by omega);have k3:IntKind.i64.wrap (m/1440*c+c)=m/1440*c+c:=IntWalk.i64_in _ (by omega);have k4:IntKind.i64.wrap (m/1440*c+q*p)=m/1440*c+q*p:=IntWalk.i64_in _ (by omega)
 go_region_held3 (fun w'=>w'.cell? ⟨w.heap.size,0,none⟩=some (.int .i64 f)∧w'.cell? ⟨w.heap.size,1,none⟩=some (.int .i64 s)∧w'.cell? ⟨w.heap.size,2,none⟩=some (.int .i64 p)∧w'.cell? ⟨w.heap.size,3,none⟩=some (.int .i64 c)) (go_keep)
  ((go_at_call 219;refine(HF _).mono ?_;rintro e w2 ⟨rfl,h2⟩;(try replace h2:=h2.of_drew);have l:=h2.cells.1;have o:w.heap.size<w2.heap.size:=Nat.lt_of_lt_of_le (by assumption) h2.sz))
 all_goals clear hq hr j k1 k2 k3 k4
 all_goals go_wp2
 all_goals go_ret
 all_goals exact⟨dG (by first|omega|(rw[IntWalk.i64_in _ (by omega)];omega)),by exact .trans (.trans (.alloc (.refl _) _) a) h2⟩
end Go.Proofs.YtpelpnfhbepokaaGreatDoor
