/-
  Texts of this proof, packed (@packed).
-/
import Derived.WalkLawsBesides
import Derived.Test.YtahglfakiobbcaaGreatDoorK1
namespace Go.Proofs.YtahglfakiobbcaaGreatDoor
open Go.RowKit
set_option linter.unusedVariables false
abbrev aK (aA aB:Int)(p:Option Addr)(n cap:Nat):Value:= .agg #[.int .i64 aA,.int .i64 aB,.slice p n cap]
set_option maxRecDepth 100000 in
set_option maxHeartbeats 1000000 in
theorem zJ (aA aB:Int)(p:Option Addr)(n cap:Nat)(w:World)(hn:n≤9223372036854775807)
  (h:aA<2∨2≤aA∧4<aA∨2≤aA∧aA≤4∧aB<2∨2≤aA∧aA≤4∧2≤aB∧3<aB∨2≤aA∧aA≤4∧2≤aB∧aB≤3∧0≤aA*aB∧aA*aB≤12∧((n:Int)!=aA*aB)=true):
  Calls Tryz.prog 73 #[aK aA aB p n cap] w fun e w'=>e= .returned (.bool false)∧Ext w w':=by
 rcases h with h|⟨h0,h⟩|⟨h0,h1,h⟩|⟨h0,h1,h2,h⟩|⟨h0,h1,h2,h3,h4,h5,h⟩
 all_goals
  go_enter Tryz.func73,Tryz.ntmps73
  go_wp2
  go_ret
  exact⟨rfl,by exact .alloc (.refl _) _⟩
theorem aCn:mG [] Tryz.zeroCells130:=⟨by kernel_rfl,by
 have e:Tryz.zeroCells130=Array.replicate 100 (.bool false):=by kernel_rfl
 rw[e];exact uQ.2⟩
set_option maxRecDepth 100000 in
set_option maxHeartbeats 1000000 in
theorem wH (aA aB:Int)(p:Option Addr)(n cap:Nat)(xs:List Int)(w:World)(h0:2≤aA)(h1:aA≤4)(h2:2≤aB)(h3:aB≤3)(h4:0≤aA*aB)(h5:aA*aB≤12)(h6:((n:Int)!=aA*aB)=false)(hn:n≤12)
  (HS:Hid (Sl w p n cap 1 (ivs xs))):
  Calls Tryz.prog 73 #[aK aA aB p n cap] w fun e w'=>e= .returned (.bool (dA [] xs))∧Ext w w':=by
 go_enter Tryz.func73,Tryz.ntmps73
 go_wp2
 clear h4 h5 h6
 go_loopw [38] (fun i wr=> ∃(k:Nat) (cs:Array Value),k≤n∧i= .int .i64 k∧Blk wr (w.heap.size+1) 130 cs∧mG (xs.take k) cs∧dA [] xs=dA (xs.take k) (xs.drop k)∧Ext w wr) (fun i _=>n-(intOf i).toNat)
 case atStart=>exact⟨0,_,Nat.zero_le _,rfl,by have:=Blk.new (w.alloc (.cells #[.int .i64 aA,.int .i64 aB,.slice p n cap] 33)) 130 Tryz.zeroCells130;simpa using this,aCn,rfl,by exact .alloc (.alloc (.refl _) _) _⟩
 case round=>
  obtain⟨k,cs,hk,rfl,hb,ht,hok,hE⟩:=hrel
  have HB:=xQ hb
  have HT:=xQ ht
  by_cases hlt:k<n
  ·obtain⟨b,off,x,rfl,hx,hbs,hcell⟩:=(HS.out.ext hE).int_at hlt
   have hfin:=xQ (hok.trans (qV hx))
   have HX:=xQ hx
   clear hok hx hb ht
   by_cases hr:0≤x∧x≤99
   ·obtain⟨hx0,hx1⟩:=hr
    have htc:wr.cell? ⟨w.heap.size+1,x.toNat,none⟩=some (.bool (decide (0<x)&&(xs.take k).contains x)):=by
     rw[HB.out.cell,HT.out.2 x.toNat (by omega)]
     congr 2
     rw[show((x.toNat:Nat):Int)=x by omega]
     congr 1
     simp
    have htf:wr.frozen? ⟨w.heap.size+1,x.toNat,none⟩=false:=HB.out.frozen _
    have hix:x<100:=by omega
    cases hs:(decide (0<x)&&(xs.take k).contains x)with
    |true=>
     rw[hs]at htc
     have HS2:=xQ hs
     clear hs
     go_wp2
     go_ret
     exact⟨aT (by rw[hfin.out,HS2.out];simp),hE⟩
    |false=>
     rw[hs]at htc
     have HS2:=xQ hs
     clear hs
     go_wp2
     go_roundw
     case rel=>
      refine⟨k+1,_,by omega,by go_num,HB.out.set _ _,?_,?_,xE⟩
      ·rw[bH HX.out]
       refine uP HT.out x hx0 hx1 (fun h0=> ?_)
       have:=HS2.out
       simpa[h0]using this
      ·rw[hfin.out,HS2.out]
       simp[hx0,hx1]
     case measure=>simp[intOf];omega
   ·have hfx:dA [] xs=false:=by rw[hfin.out];simp[hr]
    have HF:=xQ hfx
    clear hfx
    by_cases hx0:x<0
    ·go_wp2
     go_ret
     exact⟨aT HF.out.symm,hE⟩
    ·have hx1:99<x:=by omega
     have hx2:0≤x:=by omega
     go_wp2
     go_ret
     exact⟨aT HF.out.symm,hE⟩
  ·have hfin:=xQ (hok.trans (oS (by have:=HS.out.ilen;omega)))
   clear hok hb ht
   go_wp2
   go_ret
   exact⟨aT hfin.out.symm,hE⟩
theorem eR (aA aB:Int)(p:Option Addr)(n cap:Nat)(xs:List Int)(w:World)(hS:Sl w p n cap 1 (ivs xs)):
  Calls Tryz.prog 73 #[aK aA aB p n cap] w fun e w'=>e= .returned (.bool (aP aA aB xs))∧Ext w w':=by
 have hl:=hS.ilen
 unfold aP
 rw[hl]
 cases hs:gY aA aB n with
 |true=>
  obtain⟨h1,h2,h3,h4,h5,h6,h7⟩:=bU hs
  rw[Bool.true_and]
  exact wH aA aB p n cap xs w h1 h2 h3 h4 (by omega) (by omega) (by simp[h7]) h6 hS
 |false=>
  rw[Bool.false_and]
  exact zJ aA aB p n cap w hS.bd (rV hs)
theorem lF {f:FuncId}{args:Array Value}{w:World}{n:Nat}{v:Value}(h:Calls Tryz.prog f args (w.drewN n) fun e w'=>e= .returned v∧w.drewN n=w'):
  Calls Tryz.prog f args (w.drewN n) fun e w'=>e= .returned v∧ ∃m,w'=w.drewN m:=h.mono fun _ _ ⟨he,hm⟩=>⟨he,n,hm.symm⟩
set_option maxRecDepth 100000 in
set_option maxHeartbeats 1000000 in
theorem jN (n lo hi:Int)(w:World)(h:lo≤n)(h2:n≤hi):Calls Tryz.prog 35 #[.int .i64 n,.int .i64 lo,.int .i64 hi] w fun e w'=>e= .returned (.bool true)∧w=w':=by
 go_enter Tryz.func35,Tryz.ntmps35
 go_wp2
 go_ret
 exact⟨rfl,rfl⟩
set_option maxRecDepth 100000 in
set_option maxHeartbeats 1000000 in
theorem pH (n lo hi:Int)(w:World)(h:n<lo∨lo≤n∧hi<n):Calls Tryz.prog 35 #[.int .i64 n,.int .i64 lo,.int .i64 hi] w fun e w'=>e= .returned (.bool false)∧w=w':=by
 rcases h with h|⟨h,h2⟩
 all_goals
  go_enter Tryz.func35,Tryz.ntmps35
  go_wp2
  go_ret
  exact⟨aT (by first|rfl|(simp;omega)),rfl⟩
set_option maxRecDepth 100000 in
set_option maxHeartbeats 1000000 in
theorem sH (p:Option Addr)(n cap:Nat)(xs:List Int)(x:Int)(w:World)(hS:Sl w p n cap 1 (ivs xs)):
  Calls Tryz.prog 97 #[.slice p n cap,.int .i64 x] w fun e w'=>e= .returned (.bool (xs.contains x))∧w=w':=by
 have hn:=hS.bd
 have hl:=xQ hS.ilen
 have HS:=xQ hS
 clear hS
 go_enter Tryz.func97,Tryz.ntmps97
 go_wp2
 go_loop [5] (fun i=> ∃k:Nat,k≤n∧i= .int .i64 k∧(xs.take k).contains x=false) (fun i=>n-(intOf i).toNat)
 case atStart=>exact⟨0,Nat.zero_le _,rfl,by simp⟩
 case round=>
  obtain⟨k,hk,rfl,hc⟩:=hrel
  have HC:=xQ hc
  clear hc
  by_cases hlt:k<n
  ·obtain⟨b,off,y,rfl,hx,hb,hcell⟩:=HS.out.int_at hlt
   have HX:=xQ hx
   clear hx
   by_cases hy:y=x
   ·have t1:(y==x)=true:=by simp[hy]
    have hfin:Hid (xs.contains x=true):=by show _=_;rw[List.contains_eq_mem];simp;rw[←hy];exact List.mem_of_getElem? HX.out
    clear hy
    go_wp2
    go_ret
    exact⟨aT (by simpa using hfin.out.symm),rfl⟩
   ·have t1:(y==x)=false:=by simp[hy]
    have hfin:Hid ((xs.take (k+1)).contains x=false):=by
     have:=HC.out
     show _=_
     rw[bH HX.out]
     simp only[List.contains_eq_mem,decide_eq_false_iff_not,List.mem_append,List.mem_singleton,not_or]at this⊢
     exact⟨this,fun e=>hy e.symm⟩
    clear hy
    go_wp2
    go_round
    case rel=>exact⟨k+1,by omega,by go_num,hfin.out⟩
    case measure=>simp[intOf];omega
  ·have hfin:Hid (xs.contains x=false):=by
    have:=HC.out
    rw[List.take_of_length_le (by rw[hl.out];omega)]at this
    exact this
   go_wp2
   go_ret
   exact⟨aT (by simpa using hfin.out.symm),rfl⟩
set_option maxRecDepth 100000 in
set_option maxHeartbeats 1000000 in
theorem yA (aA aB:Int)(p:Option Addr)(n cap:Nat)(w:World)(hn:n≤9223372036854775807)
  (h:aA<2∨2≤aA∧4<aA∨2≤aA∧aA≤4∧aB<2∨2≤aA∧aA≤4∧2≤aB∧3<aB∨2≤aA∧aA≤4∧2≤aB∧aB≤3∧0≤aA*aB∧aA*aB≤12∧((n:Int)!=aA*aB)=true):
  Calls Tryz.prog 58 #[aK aA aB p n cap] w fun e w'=>e= .returned (.bool false)∧Ext w w':=by
 rcases h with h|⟨h0,h⟩|⟨h0,h1,h⟩|⟨h0,h1,h2,h⟩|⟨h0,h1,h2,h3,h4,h5,h⟩
 all_goals
  go_enter Tryz.func58,Tryz.ntmps58
  go_wp2_with go_in
  go_ret
  exact⟨rfl,by exact .alloc (.refl _) _⟩
set_option maxRecDepth 100000 in
set_option maxHeartbeats 1000000 in
theorem uW (aA aB:Int)(p:Option Addr)(n cap:Nat)(xs:List Int)(w:World)(h0:2≤aA)(h1:aA≤4)(h2:2≤aB)(h3:aB≤3)(h4:0≤aA*aB)(h5:aA*aB≤12)(h6:((n:Int)!=aA*aB)=false)(hn:n≤12)
  (HS:Hid (Sl w p n cap 1 (ivs xs))):
  Calls Tryz.prog 58 #[aK aA aB p n cap] w fun e w'=>e= .returned (.bool (dA [] xs))∧Ext w w':=by
 have hncap:=HS.out.le
 have hcapm:=HS.out.mx
 unfold maxLen at hcapm
 go_enter Tryz.func58,Tryz.ntmps58
 go_wp2_with go_in
 clear h4 h5 h6
 go_loopw [3] (fun i wr=> ∃k:Nat,k≤n∧i= .int .i64 k∧dA [] xs=dA (xs.take k) (xs.drop k)∧Ext w wr∧w.heap.size<wr.heap.size∧wr.cell? ⟨w.heap.size,2,none⟩=some (.slice p n cap)) (fun i _=>n-(intOf i).toNat)
 case atStart=>exact⟨0,Nat.zero_le _,rfl,rfl,by exact .alloc (.refl _) _,by simp,by simp⟩
 case round=>
  obtain⟨k,hk,rfl,hok,hE,hsz,hc2⟩:=hrel
  by_cases hlt:k<n
  ·have hSk:=aFa (HS.out.ext hE) (m:=k) hk
   obtain⟨b,off,x,rfl,hx,hbs,hcell⟩:=(HS.out.ext hE).int_at hlt
   have hfin:=xQ (hok.trans (qV hx))
   have i1:(0:Int)≤(k:Int):=by omega
   have i2:(k:Int)<(n:Int):=by omega
   have i3:(k:Int)≤(n:Int):=by omega
   have i4:(k:Int)≤(cap:Int):=by omega
   have HX:=xQ hx
   have HK:=xQ hSk
   clear hok hx hSk
   by_cases hr:0≤x∧x≤99
   ·obtain⟨hx0,hx1⟩:=hr
    have HI:Hid (∀w,Calls Tryz.prog 35 #[.int .i64 x,.int .i64 0,.int .i64 99] w fun e w'=>e= .returned (.bool true)∧w=w'):=fun w=>jN x 0 99 w hx0 hx1
    by_cases hp:0<x
    ·have hd:decide (0<x)=true:=by simp[hp]
     cases hs:(xs.take k).contains x with
     |true=>
      have HH:Hid (∀m,Calls Tryz.prog 97 #[.slice (some ⟨b,off,none⟩) k cap,.int .i64 x] (wr.drewN m) fun e w'=>e= .returned (.bool true)∧wr.drewN m=w'):=fun m=>by
       have:=sH (some ⟨b,off,none⟩) k cap (xs.take k) x (wr.drewN m) (HK.out.ext (Ext.drewN (Ext.refl _) _));rwa[hs]at this
      have hf2:Hid (dA [] xs=false):=by show _=_;rw[hfin.out,hs];simp[hp]
      clear hs
      go_wp2
      go_quiet ((first|(go_at_call 35;exact lF (HI.out _))|(go_at_call 97;exact lF (HH.out _))))
      go_wp2
      go_ret
      exact⟨aT hf2.out.symm,by exact .drewN hE _⟩
     |false=>
      have HH:Hid (∀m,Calls Tryz.prog 97 #[.slice (some ⟨b,off,none⟩) k cap,.int .i64 x] (wr.drewN m) fun e w'=>e= .returned (.bool false)∧wr.drewN m=w'):=fun m=>by
       have:=sH (some ⟨b,off,none⟩) k cap (xs.take k) x (wr.drewN m) (HK.out.ext (Ext.drewN (Ext.refl _) _));rwa[hs]at this
      have hf2:Hid (dA [] xs=dA (xs.take (k+1)) (xs.drop (k+1))):=by show _=_;rw[hfin.out,hs];simp[hx0,hx1]
      clear hs
      go_wp2
      go_quiet ((first|(go_at_call 35;exact lF (HI.out _))|(go_at_call 97;exact lF (HH.out _))))
      go_wp2
      go_roundw
      case rel=>exact⟨k+1,by omega,by go_num,hf2.out,by exact .drewN hE _,hsz,hc2⟩
      case measure=>simp[intOf];omega
    ·have hd:decide (0<x)=false:=by simp[hp]
     have hf2:Hid (dA [] xs=dA (xs.take (k+1)) (xs.drop (k+1))):=by show _=_;rw[hfin.out];simp[hx0,hx1,hp]
     go_wp2
     go_quiet ((go_at_call 35;exact lF (HI.out _)))
     go_wp2
     go_roundw
     case rel=>first|exact⟨k+1,by omega,by go_num,hf2.out,xE,hsz,hc2⟩|((repeat apply Exists.intro);exact⟨⟨k+1,by omega,by go_num,hf2.out,by exact .drewN hE _,hsz,hc2⟩,rfl⟩)
     case measure=>simp[intOf];omega
   ·have HI:Hid (∀w,Calls Tryz.prog 35 #[.int .i64 x,.int .i64 0,.int .i64 99] w fun e w'=>e= .returned (.bool false)∧w=w'):=fun w=>pH x 0 99 w (by omega)
    have hf2:Hid (dA [] xs=false):=by show _=_;rw[hfin.out];simp[hr]
    clear hr
    go_wp2
    go_quiet ((go_at_call 35;exact lF (HI.out _)))
    go_wp2
    go_ret
    exact⟨aT hf2.out.symm,by exact .drewN hE _⟩
  ·have hfin:=xQ (hok.trans (oS (by have:=HS.out.ilen;omega)))
   clear hok
   go_wp2
   go_ret
   exact⟨aT hfin.out.symm,by exact hE⟩
theorem fI (aA aB:Int)(p:Option Addr)(n cap:Nat)(xs:List Int)(w:World)(hS:Sl w p n cap 1 (ivs xs)):
  Calls Tryz.prog 58 #[aK aA aB p n cap] w fun e w'=>e= .returned (.bool (aP aA aB xs))∧Ext w w':=by
 have hl:=hS.ilen
 unfold aP
 rw[hl]
 cases hs:gY aA aB n with
 |true=>
  obtain⟨h1,h2,h3,h4,h5,h6,h7⟩:=bU hs
  rw[Bool.true_and]
  exact uW aA aB p n cap xs w h1 h2 h3 h4 (by omega) (by omega) (by simp[h7]) h6 hS
 |false=>
  rw[Bool.false_and]
  exact yA aA aB p n cap w hS.bd (rV hs)
def bD (f s p c:Int):Bool:=decide (0≤f∧f<1440∧1≤s∧s≤1440∧0≤p∧p≤99∧0≤c∧c≤99)
def cI (i p a:Int):Bool:=decide (0≤i∧i≤9999∧0≤p∧p≤9999∧i≤a∧a≤9999)
def dX (f s m:Int):Int:=if m≤f then 0 else(m-f+s-1)/s
def jR (f s p c m:Int):Int:=m/1440*c+min (dX f s (m%1440)*p) c
def bS (f s p c i pd a now:Int):Int:=if bD f s p c&&cI i pd a&&decide (a≤now∧now≤9999)then max (jR f s p c (now-i)-pd) 0 else -1
def iQ (f s p c i pd a now:Int):Bool:=
 decide (bS f s p c i pd a now=0) || (decide (0≤bS f s p c i pd a now)&&decide (now-a≤15)&&decide (bS f s p c i pd a a=0))
abbrev aS (f s p c:Int):Value:= .agg #[.int .i64 f,.int .i64 s,.int .i64 p,.int .i64 c]
abbrev bK (i p a:Int):Value:= .agg #[.int .i64 i,.int .i64 p,.int .i64 a]
theorem fY {f s p c:Int}(h:bD f s p c=true):0≤f∧f<1440∧1≤s∧s≤1440∧0≤p∧p≤99∧0≤c∧c≤99:=by simpa[bD]using h
theorem eO {i p a:Int}(h:cI i p a=true):0≤i∧i≤9999∧0≤p∧p≤9999∧i≤a∧a≤9999:=by simpa[cI]using h
theorem fU {f s m:Int}(h0:0≤f)(h1:1≤s)(hm:m≤9999):0≤dX f s m∧dX f s m≤9999:=by
 unfold dX
 split
 ·omega
 ·refine⟨Int.ediv_nonneg (by omega) (by omega),?_⟩
  have:(m-f+s-1)/s≤m-f:=by
   apply Int.ediv_le_of_le_mul (by omega)
   have:(m-f)*s≥(m-f)*1:=Int.mul_le_mul_of_nonneg_left h1 (by omega)
   have h2:(m-f)*s=(m-f-1)*s+s:=by rw[Int.sub_mul (m-f) 1 s];omega
   have h3:(m-f-1)*s≥(m-f-1)*1:=Int.mul_le_mul_of_nonneg_left h1 (by omega)
   omega
  omega
theorem uG {f s m:Int}(h1:1≤s):(max (m-f) 0+s-1)/s=dX f s m:=by
 unfold dX
 split
 ·rw[show max (m-f) 0=0 by omega]
  exact Int.ediv_eq_zero_of_lt (by omega) (by omega)
 ·rw[show max (m-f) 0=m-f by omega]
theorem oB {x p:Int}(hx:0≤x)(hx2:x≤9999)(h0:0≤p)(h1:p≤99):0≤x*p∧x*p≤989901:=by
 refine⟨Int.mul_nonneg hx h0,?_⟩
 have:=Int.mul_le_mul hx2 h1 h0 (by omega)
 omega
theorem mY {f s p c m:Int}(h:bD f s p c=true)(h0:0≤m)(h1:m≤9999):0≤jR f s p c m∧jR f s p c m≤693:=by
 obtain⟨a1,a2,a3,a4,a5,a6,a7,a8⟩:=fY h
 obtain⟨b1,b2⟩:=fU (m:=m%1440) a1 a3 (by omega)
 obtain⟨d1,d2⟩:=oB b1 b2 a5 a6
 unfold jR
 have e1:0≤m/1440*c:=Int.mul_nonneg (by omega) a7
 have e2:m/1440*c≤6*99:=Int.mul_le_mul (by omega) a8 a7 (by omega)
 omega
set_option maxRecDepth 100000 in
set_option maxHeartbeats 1000000 in
theorem tV (f s p c:Int)(w:World):Calls Tryz.prog 74 #[aS f s p c] w fun e w'=>e= .returned (.bool (bD f s p c))∧Ext w w':=by
 by_cases c1:0≤f
 ·by_cases c2:f<1440
  ·by_cases c3:1≤s
   ·by_cases c4:s≤1440
    ·by_cases c5:0≤p
     ·by_cases c6:p≤99
      ·by_cases c7:0≤c
       ·by_cases c8:c≤99
        ·go_enter Tryz.func74,Tryz.ntmps74
         go_wp2
         go_ret
         exact⟨aT (by simp[bD];omega),by exact .alloc (.refl _) _⟩
        ·go_enter Tryz.func74,Tryz.ntmps74
         go_wp2
         go_ret
         exact⟨aT (by simp[bD];omega),by exact .alloc (.refl _) _⟩
       ·go_enter Tryz.func74,Tryz.ntmps74
        go_wp2
        go_ret
        exact⟨aT (by simp[bD];omega),by exact .alloc (.refl _) _⟩
      ·go_enter Tryz.func74,Tryz.ntmps74
       go_wp2
       go_ret
       exact⟨aT (by simp[bD];omega),by exact .alloc (.refl _) _⟩
     ·go_enter Tryz.func74,Tryz.ntmps74
      go_wp2
      go_ret
      exact⟨aT (by simp[bD];omega),by exact .alloc (.refl _) _⟩
    ·go_enter Tryz.func74,Tryz.ntmps74
     go_wp2
     go_ret
     exact⟨aT (by simp[bD];omega),by exact .alloc (.refl _) _⟩
   ·go_enter Tryz.func74,Tryz.ntmps74
    go_wp2
    go_ret
    exact⟨aT (by simp[bD];omega),by exact .alloc (.refl _) _⟩
  ·go_enter Tryz.func74,Tryz.ntmps74
   go_wp2
   go_ret
   exact⟨aT (by simp[bD];omega),by exact .alloc (.refl _) _⟩
 ·go_enter Tryz.func74,Tryz.ntmps74
  go_wp2
  go_ret
  exact⟨aT (by simp[bD];omega),by exact .alloc (.refl _) _⟩
set_option maxRecDepth 100000 in
set_option maxHeartbeats 1000000 in
theorem tG (f s p c:Int)(w:World):Calls Tryz.prog 59 #[aS f s p c] w fun e w'=>e= .returned (.bool (bD f s p c))∧Ext w w':=by
 by_cases c1:0≤f
 ·by_cases c2:f<1440
  ·by_cases c3:1≤s
   ·by_cases c4:s≤1440
    ·by_cases c5:0≤p
     ·by_cases c6:p≤99
      ·by_cases c7:0≤c
       ·by_cases c8:c≤99
        ·go_enter Tryz.func59,Tryz.ntmps59
         go_wp2_with go_in
         go_ret
         exact⟨aT (by simp[bD];omega),by exact .alloc (.refl _) _⟩
        ·go_enter Tryz.func59,Tryz.ntmps59
         go_wp2_with go_in
         go_ret
         exact⟨aT (by simp[bD];omega),by exact .alloc (.refl _) _⟩
       ·go_enter Tryz.func59,Tryz.ntmps59
        go_wp2_with go_in
        go_ret
        exact⟨aT (by simp[bD];omega),by exact .alloc (.refl _) _⟩
      ·go_enter Tryz.func59,Tryz.ntmps59
       go_wp2_with go_in
       go_ret
       exact⟨aT (by simp[bD];omega),by exact .alloc (.refl _) _⟩
     ·go_enter Tryz.func59,Tryz.ntmps59
      go_wp2_with go_in
      go_ret
      exact⟨aT (by simp[bD];omega),by exact .alloc (.refl _) _⟩
    ·go_enter Tryz.func59,Tryz.ntmps59
     go_wp2_with go_in
     go_ret
     exact⟨aT (by simp[bD];omega),by exact .alloc (.refl _) _⟩
   ·go_enter Tryz.func59,Tryz.ntmps59
    go_wp2_with go_in
    go_ret
    exact⟨aT (by simp[bD];omega),by exact .alloc (.refl _) _⟩
  ·go_enter Tryz.func59,Tryz.ntmps59
   go_wp2_with go_in
   go_ret
   exact⟨aT (by simp[bD];omega),by exact .alloc (.refl _) _⟩
 ·go_enter Tryz.func59,Tryz.ntmps59
  go_wp2_with go_in
  go_ret
  exact⟨aT (by simp[bD];omega),by exact .alloc (.refl _) _⟩
set_option maxRecDepth 100000 in
set_option maxHeartbeats 1000000 in
theorem aDz (i p a:Int)(w:World):Calls Tryz.prog 76 #[bK i p a] w fun e w'=>e= .returned (.bool (cI i p a))∧Ext w w':=by
 by_cases c1:0≤i
 ·by_cases c2:i≤9999
  ·by_cases c3:0≤p
   ·by_cases c4:p≤9999
    ·by_cases c5:i≤a
     ·by_cases c6:a≤9999
      ·go_enter Tryz.func76,Tryz.ntmps76
       go_wp2
       go_ret
       exact⟨aT (by simp[cI];omega),by exact .alloc (.refl _) _⟩
      ·go_enter Tryz.func76,Tryz.ntmps76
       go_wp2
       go_ret
       exact⟨aT (by simp[cI];omega),by exact .alloc (.refl _) _⟩
     ·go_enter Tryz.func76,Tryz.ntmps76
      go_wp2
      go_ret
      exact⟨aT (by simp[cI];omega),by exact .alloc (.refl _) _⟩
    ·go_enter Tryz.func76,Tryz.ntmps76
     go_wp2
     go_ret
     exact⟨aT (by simp[cI];omega),by exact .alloc (.refl _) _⟩
   ·go_enter Tryz.func76,Tryz.ntmps76
    go_wp2
    go_ret
    exact⟨aT (by simp[cI];omega),by exact .alloc (.refl _) _⟩
  ·go_enter Tryz.func76,Tryz.ntmps76
   go_wp2
   go_ret
   exact⟨aT (by simp[cI];omega),by exact .alloc (.refl _) _⟩
 ·go_enter Tryz.func76,Tryz.ntmps76
  go_wp2
  go_ret
  exact⟨aT (by simp[cI];omega),by exact .alloc (.refl _) _⟩
set_option maxRecDepth 100000 in
set_option maxHeartbeats 1000000 in
theorem aCw (i p a:Int)(w:World):Calls Tryz.prog 60 #[bK i p a] w fun e w'=>e= .returned (.bool (cI i p a))∧Ext w w':=by
 by_cases c1:0≤i
 ·by_cases c2:i≤9999
  ·by_cases c3:0≤p
   ·by_cases c4:p≤9999
    ·by_cases c5:i≤a
     ·by_cases c6:a≤9999
      ·go_enter Tryz.func60,Tryz.ntmps60
       go_wp2_with go_in
       go_ret
       exact⟨aT (by simp[cI];omega),by exact .alloc (.refl _) _⟩
      ·go_enter Tryz.func60,Tryz.ntmps60
       go_wp2_with go_in
       go_ret
       exact⟨aT (by simp[cI];omega),by exact .alloc (.refl _) _⟩
     ·go_enter Tryz.func60,Tryz.ntmps60
      go_wp2_with go_in
      go_ret
      exact⟨aT (by simp[cI];omega),by exact .alloc (.refl _) _⟩
    ·go_enter Tryz.func60,Tryz.ntmps60
     go_wp2_with go_in
     go_ret
     exact⟨aT (by simp[cI];omega),by exact .alloc (.refl _) _⟩
   ·go_enter Tryz.func60,Tryz.ntmps60
    go_wp2_with go_in
    go_ret
    exact⟨aT (by simp[cI];omega),by exact .alloc (.refl _) _⟩
  ·go_enter Tryz.func60,Tryz.ntmps60
   go_wp2_with go_in
   go_ret
   exact⟨aT (by simp[cI];omega),by exact .alloc (.refl _) _⟩
 ·go_enter Tryz.func60,Tryz.ntmps60
  go_wp2_with go_in
  go_ret
  exact⟨aT (by simp[cI];omega),by exact .alloc (.refl _) _⟩
set_option maxRecDepth 100000 in
set_option maxHeartbeats 1000000 in
theorem aE8 (f s p c m:Int)(w:World)(h:bD f s p c=true)(h0:0≤m)(h1:m≤9999):Calls Tryz.prog 158 #[aS f s p c,.int .i64 m] w fun e w'=>e= .returned (.int .i64 (dX f s m))∧Ext w w':=by
 obtain⟨a1,a2,a3,a4,a5,a6,a7,a8⟩:=fY h
 have HT:Hid (∀w,Calls Tryz.prog 74 #[aS f s p c] w fun e w'=>e= .returned (.bool true)∧Ext w w'):=fun w=>by rw[←h];exact tV f s p c w
 have HB:=xQ (fU (m:=m) a1 a3 h1)
 clear h
 by_cases hm:m≤f
 ·have hf:Hid (dX f s m=0):=if_pos hm
  go_enter Tryz.func158,Tryz.ntmps158
  go_wp2_with fail
  refine(HT.out _).mono ?_
  rintro e w1 ⟨rfl,h1'⟩
  have hce:=h1'.cells.1
  go_wp2
  go_ret
  exact⟨dR hf.out.symm,by exact .trans (.alloc (.refl _) _) h1'⟩
 ·have hf:Hid (dX f s m=(m-f+s-1)/s):=if_neg hm
  go_enter Tryz.func158,Tryz.ntmps158
  go_wp2_with fail
  refine(HT.out _).mono ?_
  rintro e w1 ⟨rfl,h1'⟩
  have hce:=h1'.cells.1
  go_wp2
  go_ret
  exact⟨dR hf.out.symm,by exact .trans (.alloc (.refl _) _) h1'⟩
set_option maxRecDepth 100000 in
set_option maxHeartbeats 1000000 in
theorem aD9 (f s p c m:Int)(w:World)(h:bD f s p c=true)(h0:0≤m)(h1:m≤9999):Calls Tryz.prog 141 #[aS f s p c,.int .i64 m] w fun e w'=>e= .returned (.int .i64 (dX f s m))∧Ext w w':=by
 obtain⟨a1,a2,a3,a4,a5,a6,a7,a8⟩:=fY h
 have HT:Hid (∀w,Calls Tryz.prog 59 #[aS f s p c] w fun e w'=>e= .returned (.bool true)∧Ext w w'):=fun w=>by rw[←h];exact tG f s p c w
 have hf:=xQ (uG (f:=f) (m:=m) a3)
 clear h
 go_enter Tryz.func141,Tryz.ntmps141
 go_wp2_with (first|(go_at_call 59;refine(HT.out _).mono ?_;rintro e w1 ⟨rfl,h1'⟩;have hce:=h1'.cells.1)|go_in)
 all_goals go_ret
 all_goals exact⟨dR (by rw[←hf.out];congr 1;omega),by exact .trans (.alloc (.refl _) _) h1'⟩
set_option maxRecDepth 100000 in
set_option maxHeartbeats 1000000 in
theorem aGf (f s p c m:Int)(w:World)(h:bD f s p c=true)(h0:0≤m)(h1:m≤9999):Calls Tryz.prog 136 #[aS f s p c,.int .i64 m] w fun e w'=>e= .returned (.int .i64 (jR f s p c m))∧Ext w w':=by
 obtain⟨a1,a2,a3,a4,a5,a6,a7,a8⟩:=fY h
 have HT:Hid (∀w,Calls Tryz.prog 74 #[aS f s p c] w fun e w'=>e= .returned (.bool true)∧Ext w w'):=fun w=>by rw[←h];exact tV f s p c w
 obtain⟨q,hq⟩: ∃q,q=dX f s (m%1440):=⟨_,rfl⟩
 have hqb:0≤q∧q≤9999:=by rw[hq];exact fU a1 a3 (by omega)
 obtain⟨q2,hq2⟩: ∃q,q=dX f s m:=⟨_,rfl⟩
 have hqb2:0≤q2∧q2≤9999:=by rw[hq2];exact fU a1 a3 (by omega)
 have HF:Hid (∀w,Calls Tryz.prog 158 #[aS f s p c,.int .i64 (m%1440)] w fun e w'=>e= .returned (.int .i64 q)∧Ext w w'):=fun w=>by rw[hq];exact aE8 f s p c _ w h (by omega) (by omega)
 have HF2:Hid (∀w,Calls Tryz.prog 158 #[aS f s p c,.int .i64 m] w fun e w'=>e= .returned (.int .i64 q2)∧Ext w w'):=fun w=>by rw[hq2];exact aE8 f s p c _ w h (by omega) (by omega)
 have hres:jR f s p c m=m/1440*c+min (q*p) c:=by rw[hq];rfl
 rw[hres]
 obtain⟨b1,b2⟩:=oB hqb.1 hqb.2 a5 a6
 have b3:0≤m/1440*c:=Int.mul_nonneg (by omega) a7
 have b4:m/1440*c≤6*99:=Int.mul_le_mul (by omega) a8 a7 (by omega)
 clear hq hq2 hres h
 go_enter Tryz.func136,Tryz.ntmps136
 go_wp2_with fail
 refine(HT.out _).mono ?_
 rintro e w1 ⟨rfl,h1'⟩
 have hz1:w.heap.size<w1.heap.size:=Nat.lt_of_lt_of_le (by simp) h1'.sz
 have e0:w1.cell? ⟨w.heap.size,0,none⟩=some (.int .i64 f):=by rw[h1'.cells.1 _ _ (by simp)];simp
 have e1:w1.cell? ⟨w.heap.size,1,none⟩=some (.int .i64 s):=by rw[h1'.cells.1 _ _ (by simp)];simp
 have e2:w1.cell? ⟨w.heap.size,2,none⟩=some (.int .i64 p):=by rw[h1'.cells.1 _ _ (by simp)];simp
 have e3:w1.cell? ⟨w.heap.size,3,none⟩=some (.int .i64 c):=by rw[h1'.cells.1 _ _ (by simp)];simp
 go_wp2_with fail
 have hq:=IntWalk.i64_quo m 1440 ⟨h0,by omega,by omega⟩
 have hr:=IntWalk.rem_in m 1440 h0
 have hr1:IntKind.i64.wrap (m%1440)=m%1440:=IntWalk.i64_in _ (by omega)
 have k1:IntKind.i64.wrap (q*p)=q*p:=IntWalk.i64_in _ (by omega)
 have k2:IntKind.i64.wrap (m/1440*c)=m/1440*c:=IntWalk.i64_in _ (by omega)
 have k3:IntKind.i64.wrap (m/1440*c+c)=m/1440*c+c:=IntWalk.i64_in _ (by omega)
 have k4:IntKind.i64.wrap (m/1440*c+q*p)=m/1440*c+q*p:=IntWalk.i64_in _ (by omega)
 go_region_held3 (fun w'=>w'.cell? ⟨w.heap.size,0,none⟩=some (.int .i64 f)∧w'.cell? ⟨w.heap.size,1,none⟩=some (.int .i64 s)∧w'.cell? ⟨w.heap.size,2,none⟩=some (.int .i64 p)∧w'.cell? ⟨w.heap.size,3,none⟩=some (.int .i64 c)) (go_keep)
  ((go_at_call 158;refine(HF.out _).mono ?_;rintro e w2 ⟨rfl,h2⟩;(try replace h2:=h2.of_drew);have hce:=h2.cells.1;have hze:w.heap.size<w2.heap.size:=Nat.lt_of_lt_of_le (by assumption) h2.sz))
 all_goals clear hq hr hr1 k1 k2 k3 k4
 all_goals go_wp2
 all_goals go_ret
 all_goals exact⟨dR (by first|omega|(rw[IntWalk.i64_in _ (by omega)];omega)),by exact .trans (.trans (.alloc (.refl _) _) h1') h2⟩
set_option maxRecDepth 100000 in
set_option maxHeartbeats 1000000 in
theorem aG0 (f s p c m:Int)(w:World)(h:bD f s p c=true)(h0:0≤m)(h1:m≤9999):Calls Tryz.prog 126 #[aS f s p c,.int .i64 m] w fun e w'=>e= .returned (.int .i64 (jR f s p c m))∧Ext w w':=by
 obtain⟨a1,a2,a3,a4,a5,a6,a7,a8⟩:=fY h
 have HT:Hid (∀w,Calls Tryz.prog 59 #[aS f s p c] w fun e w'=>e= .returned (.bool true)∧Ext w w'):=fun w=>by rw[←h];exact tG f s p c w
 obtain⟨q,hq⟩: ∃q,q=dX f s (m%1440):=⟨_,rfl⟩
 have hqb:0≤q∧q≤9999:=by rw[hq];exact fU a1 a3 (by omega)
 obtain⟨q2,hq2⟩: ∃q,q=dX f s m:=⟨_,rfl⟩
 have hqb2:0≤q2∧q2≤9999:=by rw[hq2];exact fU a1 a3 (by omega)
 have HF:Hid (∀w,Calls Tryz.prog 141 #[aS f s p c,.int .i64 (m%1440)] w fun e w'=>e= .returned (.int .i64 q)∧Ext w w'):=fun w=>by rw[hq];exact aD9 f s p c _ w h (by omega) (by omega)
 have HF2:Hid (∀w,Calls Tryz.prog 141 #[aS f s p c,.int .i64 m] w fun e w'=>e= .returned (.int .i64 q2)∧Ext w w'):=fun w=>by rw[hq2];exact aD9 f s p c _ w h (by omega) (by omega)
 have hres:jR f s p c m=m/1440*c+min (q*p) c:=by rw[hq];rfl
 rw[hres]
 obtain⟨b1,b2⟩:=oB hqb.1 hqb.2 a5 a6
 have b3:0≤m/1440*c:=Int.mul_nonneg (by omega) a7
 have b4:m/1440*c≤6*99:=Int.mul_le_mul (by omega) a8 a7 (by omega)
 clear hq hq2 hres h
 go_enter Tryz.func126,Tryz.ntmps126
 go_wp2_with fail
 refine(HF2.out _).mono ?_
 rintro e w1 ⟨rfl,h1'⟩
 have hz1:w.heap.size<w1.heap.size:=Nat.lt_of_lt_of_le (by simp) h1'.sz
 have e0:w1.cell? ⟨w.heap.size,0,none⟩=some (.int .i64 f):=by rw[h1'.cells.1 _ _ (by simp)];simp
 have e1:w1.cell? ⟨w.heap.size,1,none⟩=some (.int .i64 s):=by rw[h1'.cells.1 _ _ (by simp)];simp
 have e2:w1.cell? ⟨w.heap.size,2,none⟩=some (.int .i64 p):=by rw[h1'.cells.1 _ _ (by simp)];simp
 have e3:w1.cell? ⟨w.heap.size,3,none⟩=some (.int .i64 c):=by rw[h1'.cells.1 _ _ (by simp)];simp
 go_wp2_with fail
 have hq:=IntWalk.i64_quo m 1440 ⟨h0,by omega,by omega⟩
 have hr:=IntWalk.rem_in m 1440 h0
 have hr1:IntKind.i64.wrap (m%1440)=m%1440:=IntWalk.i64_in _ (by omega)
 have k1:IntKind.i64.wrap (q*p)=q*p:=IntWalk.i64_in _ (by omega)
 have k2:IntKind.i64.wrap (m/1440*c)=m/1440*c:=IntWalk.i64_in _ (by omega)
 have k3:IntKind.i64.wrap (m/1440*c+c)=m/1440*c+c:=IntWalk.i64_in _ (by omega)
 have k4:IntKind.i64.wrap (m/1440*c+q*p)=m/1440*c+q*p:=IntWalk.i64_in _ (by omega)
 go_region_held3 (fun w'=>w'.cell? ⟨w.heap.size,0,none⟩=some (.int .i64 f)∧w'.cell? ⟨w.heap.size,1,none⟩=some (.int .i64 s)∧w'.cell? ⟨w.heap.size,2,none⟩=some (.int .i64 p)∧w'.cell? ⟨w.heap.size,3,none⟩=some (.int .i64 c)) (go_keep)
  ((go_at_call 141;refine(HF.out _).mono ?_;rintro e w2 ⟨rfl,h2⟩;(try replace h2:=h2.of_drew);have hce:=h2.cells.1;have hze:w.heap.size<w2.heap.size:=Nat.lt_of_lt_of_le (by assumption) h2.sz))
 all_goals clear hq hr hr1 k1 k2 k3 k4
 all_goals go_wp2
 all_goals go_ret
 all_goals exact⟨dR (by first|omega|(rw[IntWalk.i64_in _ (by omega)];omega)),by exact .trans (.trans (.alloc (.refl _) _) h1') h2⟩
end Go.Proofs.YtahglfakiobbcaaGreatDoor
