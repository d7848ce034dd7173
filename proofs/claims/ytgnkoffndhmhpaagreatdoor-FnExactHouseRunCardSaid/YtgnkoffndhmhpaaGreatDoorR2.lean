/-
  Texts of this proof, packed (@packed).
-/
import Derived.WalkLawsBesides
import Derived.Test.YtgnkoffndhmhpaaGreatDoorR1
namespace Go.Proofs.YtgnkoffndhmhpaaGreatDoor
open Go.RowKit
set_option linter.unusedVariables false
set_option maxHeartbeats 8000000
set_option maxRecDepth 100000
abbrev aI (aA aB:Int)(p:OA)(n cap:Nat):Value:= .agg #[aA,aB,.slice p n cap]
theorem aBg (aA aB:Int)(p:OA)(n cap:Nat)(w:World)(hn:n≤9223372036854775807)
  (h:aA<2∨2≤aA∧4<aA∨2≤aA∧aA≤4∧aB<2∨2≤aA∧aA≤4∧2≤aB∧3<aB∨2≤aA∧aA≤4∧2≤aB∧aB≤3∧0≤aA*aB∧aA*aB≤12∧((n:Int)!=aA*aB)=true):
  Calls Tryz.prog 80 #[aI aA aB p n cap] w fun e w'=>e= .returned (.bool false)∧Ext w w':=by
 rcases h with h|⟨h0,h⟩|⟨h0,h1,h⟩|⟨h0,h1,h2,h⟩|⟨h0,h1,h2,h3,h4,h5,h⟩
 all_goals
  go_enter Tryz.func80,Tryz.ntmps80
  go_wp2
  go_ret
  exact⟨rfl,by exact .alloc (.refl _) _⟩
theorem aEv:nT [] Tryz.zeroCells145:=⟨by kernel_rfl,by
 have e:Tryz.zeroCells145=Array.replicate 100 (.bool false):=by kernel_rfl
 rw[e];exact wT.2⟩
theorem yS (aA aB:Int)(p:OA)(n cap:Nat)(xs:List Int)(w:World)(h0:2≤aA)(h1:aA≤4)(h2:2≤aB)(h3:aB≤3)(h4:0≤aA*aB)(h5:aA*aB≤12)(h6:((n:Int)!=aA*aB)=false)(hn:n≤12)
  (HS:Hid (Sl w p n cap 1 (ivs xs))):
  Calls Tryz.prog 80 #[aI aA aB p n cap] w fun e w'=>e= .returned (.bool (dJ [] xs))∧Ext w w':=by
 go_enter Tryz.func80,Tryz.ntmps80
 go_wp2
 clear h4 h5 h6
 go_loopw [38] (fun i wr=> ∃(k:Nat) (cs:Array Value),k≤n∧i= .int .i64 k∧Blk wr (w.heap.size+1) 145 cs∧nT (xs.take k) cs∧dJ [] xs=dJ (xs.take k) (xs.drop k)∧Ext w wr) (fun i _=>n-(intOf i).toNat)
 case atStart=>exact⟨0,_,Nat.zero_le _,rfl,by have:=Blk.new (w.alloc (.cells #[aA,aB,.slice p n cap] 31)) 145 Tryz.zeroCells145;simpa using this,aEv,rfl,by exact .alloc (.alloc (.refl _) _) _⟩
 case round=>
  obtain⟨k,cs,hk,rfl,hb,ht,hok,hE⟩:=hrel
  have HB:=xQ hb
  have HT:=xQ ht
  by_cases hlt:k<n
  ·obtain⟨b,off,x,rfl,hx,hbs,hcell⟩:=(HS.out.ext hE).int_at hlt
   have hfin:=xQ (hok.trans (sN hx))
   have HX:=xQ hx
   clear hok hx hb ht
   by_cases hr:0≤x∧x≤99
   ·obtain⟨hx0,hx1⟩:=hr
    have htc:wr.cell? ⟨w.heap.size+1,x.toNat,none⟩=some (.bool (decide (0<x)&&(xs.take k).contains x)):=by
     rw[HB.out.cell,HT.out.2 x.toNat (by omega)]
     congr 2
     rw[show((x.toNat:Nat):Int)=x by omega]
     congr 1
     simp
    have htf:wr.frozen? ⟨w.heap.size+1,x.toNat,none⟩=false:=HB.out.frozen _
    have hix:x<100:=by omega
    cases hs:(decide (0<x)&&(xs.take k).contains x)with
    |true=>
     rw[hs]at htc
     have HS2:=xQ hs
     clear hs
     go_wp2
     go_ret
     exact⟨aV (by rw[hfin.out,HS2.out];simp),hE⟩
    |false=>
     rw[hs]at htc
     have HS2:=xQ hs
     clear hs
     go_wp2
     go_roundw
     case rel=>
      refine⟨k+1,_,by omega,by go_num,HB.out.set _ _,?_,?_,xE⟩
      ·rw[bF HX.out]
       refine wS HT.out x hx0 hx1 (fun h0=> ?_)
       have:=HS2.out
       simpa[h0]using this
      ·rw[hfin.out,HS2.out]
       simp[hx0,hx1]
     case measure=>simp[intOf];omega
   ·have hfx:dJ [] xs=false:=by rw[hfin.out];simp[hr]
    have HF:=xQ hfx
    clear hfx
    by_cases hx0:x<0
    ·go_wp2
     go_ret
     exact⟨aV HF.out.symm,hE⟩
    ·have hx1:99<x:=by omega
     have hx2:0≤x:=by omega
     go_wp2
     go_ret
     exact⟨aV HF.out.symm,hE⟩
  ·have hfin:=xQ (hok.trans (qJ (by have:=HS.out.ilen;omega)))
   clear hok hb ht
   go_wp2
   go_ret
   exact⟨aV hfin.out.symm,hE⟩
theorem fJ (aA aB:Int)(p:OA)(n cap:Nat)(xs:List Int)(w:World)(hS:Sl w p n cap 1 (ivs xs)):
  Calls Tryz.prog 80 #[aI aA aB p n cap] w fun e w'=>e= .returned (.bool (aP aA aB xs))∧Ext w w':=by
 have hl:=hS.ilen
 unfold aP
 rw[hl]
 cases hs:iN aA aB n with
 |true=>
  obtain⟨h1,h2,h3,h4,h5,h6,h7⟩:=bR hs
  rw[Bool.true_and]
  exact yS aA aB p n cap xs w h1 h2 h3 h4 (by omega) (by omega) (by simp[h7]) h6 hS
 |false=>
  rw[Bool.false_and]
  exact aBg aA aB p n cap w hS.bd (tO hs)
theorem mL {f:FuncId}{args:Array Value}{w:World}{n:Nat}{v:Value}(h:Calls Tryz.prog f args (w.drewN n) fun e w'=>e= .returned v∧w.drewN n=w'):
  Calls Tryz.prog f args (w.drewN n) fun e w'=>e= .returned v∧ ∃m,w'=w.drewN m:=h.mono fun _ _ ⟨he,hm⟩=>⟨he,n,hm.symm⟩
theorem kO (n lo hi:Int)(w:World)(h:lo≤n)(h2:n≤hi):Calls Tryz.prog 77 #[n,lo,hi] w fun e w'=>e= .returned (.bool true)∧w=w':=by
 go_enter Tryz.func77,Tryz.ntmps77
 go_wp2
 go_ret
 exact⟨rfl,rfl⟩
theorem qU (n lo hi:Int)(w:World)(h:n<lo∨lo≤n∧hi<n):Calls Tryz.prog 77 #[n,lo,hi] w fun e w'=>e= .returned (.bool false)∧w=w':=by
 rcases h with h|⟨h,h2⟩
 all_goals
  go_enter Tryz.func77,Tryz.ntmps77
  go_wp2
  go_ret
  exact⟨aV (by first|rfl|(simp;omega)),rfl⟩
theorem mO (p:OA)(n cap:Nat)(xs:List Int)(x:Int)(w:World)(hS:Sl w p n cap 1 (ivs xs)):
  Calls Tryz.prog 135 #[.slice p n cap,x] w fun e w'=>e= .returned (.bool (xs.contains x))∧w=w':=by
 have hn:=hS.bd
 have hl:=xQ hS.ilen
 have HS:=xQ hS
 clear hS
 go_enter Tryz.func135,Tryz.ntmps135
 go_wp2
 go_loop [5] (fun i=> ∃k:Nat,k≤n∧i= .int .i64 k∧(xs.take k).contains x=false) (fun i=>n-(intOf i).toNat)
 case atStart=>exact⟨0,Nat.zero_le _,rfl,by simp⟩
 case round=>
  obtain⟨k,hk,rfl,hc⟩:=hrel
  have HC:=xQ hc
  clear hc
  by_cases hlt:k<n
  ·obtain⟨b,off,y,rfl,hx,hb,hcell⟩:=HS.out.int_at hlt
   have HX:=xQ hx
   clear hx
   by_cases hy:y=x
   ·have t1:(y==x)=true:=by simp[hy]
    have hfin:Hid (xs.contains x=true):=by show _=_;rw[List.contains_eq_mem];simp;rw[←hy];exact List.mem_of_getElem? HX.out
    clear hy
    go_wp2
    go_ret
    exact⟨aV (by simpa using hfin.out.symm),rfl⟩
   ·have t1:(y==x)=false:=by simp[hy]
    have hfin:Hid ((xs.take (k+1)).contains x=false):=by
     have:=HC.out
     show _=_
     rw[bF HX.out]
     simp only[List.contains_eq_mem,decide_eq_false_iff_not,List.mem_append,List.mem_singleton,not_or]at this⊢
     exact⟨this,fun e=>hy e.symm⟩
    clear hy
    go_wp2
    go_round
    case rel=>exact⟨k+1,by omega,by go_num,hfin.out⟩
    case measure=>simp[intOf];omega
  ·have hfin:Hid (xs.contains x=false):=by
    have:=HC.out
    rw[List.take_of_length_le (by rw[hl.out];omega)]at this
    exact this
   go_wp2
   go_ret
   exact⟨aV (by simpa using hfin.out.symm),rfl⟩
theorem aAf (aA aB:Int)(p:OA)(n cap:Nat)(w:World)(hn:n≤9223372036854775807)
  (h:aA<2∨2≤aA∧4<aA∨2≤aA∧aA≤4∧aB<2∨2≤aA∧aA≤4∧2≤aB∧3<aB∨2≤aA∧aA≤4∧2≤aB∧aB≤3∧0≤aA*aB∧aA*aB≤12∧((n:Int)!=aA*aB)=true):
  Calls Tryz.prog 90 #[aI aA aB p n cap] w fun e w'=>e= .returned (.bool false)∧Ext w w':=by
 rcases h with h|⟨h0,h⟩|⟨h0,h1,h⟩|⟨h0,h1,h2,h⟩|⟨h0,h1,h2,h3,h4,h5,h⟩
 all_goals
  go_enter Tryz.func90,Tryz.ntmps90
  go_wp2_with go_in
  go_ret
  exact⟨rfl,by exact .alloc (.refl _) _⟩
theorem wZ (aA aB:Int)(p:OA)(n cap:Nat)(xs:List Int)(w:World)(h0:2≤aA)(h1:aA≤4)(h2:2≤aB)(h3:aB≤3)(h4:0≤aA*aB)(h5:aA*aB≤12)(h6:((n:Int)!=aA*aB)=false)(hn:n≤12)
  (HS:Hid (Sl w p n cap 1 (ivs xs))):
  Calls Tryz.prog 90 #[aI aA aB p n cap] w fun e w'=>e= .returned (.bool (dJ [] xs))∧Ext w w':=by
 have hncap:=HS.out.le
 have hcapm:=HS.out.mx
 unfold maxLen at hcapm
 go_enter Tryz.func90,Tryz.ntmps90
 go_wp2_with go_in
 clear h4 h5 h6
 go_loopw [3] (fun i wr=> ∃k:Nat,k≤n∧i= .int .i64 k∧dJ [] xs=dJ (xs.take k) (xs.drop k)∧Ext w wr∧w.heap.size<wr.heap.size∧wr.cell? ⟨w.heap.size,2,none⟩=some (.slice p n cap)) (fun i _=>n-(intOf i).toNat)
 case atStart=>exact⟨0,Nat.zero_le _,rfl,rfl,by exact .alloc (.refl _) _,by simp,by simp⟩
 case round=>
  obtain⟨k,hk,rfl,hok,hE,hsz,hc2⟩:=hrel
  by_cases hlt:k<n
  ·have hSk:=aHr (HS.out.ext hE) (m:=k) hk
   obtain⟨b,off,x,rfl,hx,hbs,hcell⟩:=(HS.out.ext hE).int_at hlt
   have hfin:=xQ (hok.trans (sN hx))
   have i1:(0:Int)≤(k:Int):=by omega
   have i2:(k:Int)<(n:Int):=by omega
   have i3:(k:Int)≤(n:Int):=by omega
   have i4:(k:Int)≤(cap:Int):=by omega
   have HX:=xQ hx
   have HK:=xQ hSk
   clear hok hx hSk
   by_cases hr:0≤x∧x≤99
   ·obtain⟨hx0,hx1⟩:=hr
    have HI:Hid (∀w,Calls Tryz.prog 77 #[x,(),.int .i64 99] w fun e w'=>e= .returned (.bool true)∧w=w'):=fun w=>kO x 0 99 w hx0 hx1
    by_cases hp:0<x
    ·have hd:decide (0<x)=true:=by simp[hp]
     cases hs:(xs.take k).contains x with
     |true=>
      have HH:Hid (∀m,Calls Tryz.prog 135 #[.slice (some ⟨b,off,none⟩) k cap,x] (wr.drewN m) fun e w'=>e= .returned (.bool true)∧wr.drewN m=w'):=fun m=>by
       have:=mO (some ⟨b,off,none⟩) k cap (xs.take k) x (wr.drewN m) (HK.out.ext (Ext.drewN (Ext.refl _) _));rwa[hs]at this
      have hf2:Hid (dJ [] xs=false):=by show _=_;rw[hfin.out,hs];simp[hp]
      clear hs
      go_wp2
      go_quiet ((first|(go_at_call 77;exact mL (HI.out _))|(go_at_call 135;exact mL (HH.out _))))
      go_wp2
      go_ret
      exact⟨aV hf2.out.symm,by exact .drewN hE _⟩
     |false=>
      have HH:Hid (∀m,Calls Tryz.prog 135 #[.slice (some ⟨b,off,none⟩) k cap,x] (wr.drewN m) fun e w'=>e= .returned (.bool false)∧wr.drewN m=w'):=fun m=>by
       have:=mO (some ⟨b,off,none⟩) k cap (xs.take k) x (wr.drewN m) (HK.out.ext (Ext.drewN (Ext.refl _) _));rwa[hs]at this
      have hf2:Hid (dJ [] xs=dJ (xs.take (k+1)) (xs.drop (k+1))):=by show _=_;rw[hfin.out,hs];simp[hx0,hx1]
      clear hs
      go_wp2
      go_quiet ((first|(go_at_call 77;exact mL (HI.out _))|(go_at_call 135;exact mL (HH.out _))))
      go_wp2
      go_roundw
      case rel=>exact⟨k+1,by omega,by go_num,hf2.out,by exact .drewN hE _,hsz,hc2⟩
      case measure=>simp[intOf];omega
    ·have hd:decide (0<x)=false:=by simp[hp]
     have hf2:Hid (dJ [] xs=dJ (xs.take (k+1)) (xs.drop (k+1))):=by show _=_;rw[hfin.out];simp[hx0,hx1,hp]
     go_wp2
     go_quiet ((go_at_call 77;exact mL (HI.out _)))
     go_wp2
     go_roundw
     case rel=>first|exact⟨k+1,by omega,by go_num,hf2.out,xE,hsz,hc2⟩|((repeat apply Exists.intro);exact⟨⟨k+1,by omega,by go_num,hf2.out,by exact .drewN hE _,hsz,hc2⟩,rfl⟩)
     case measure=>simp[intOf];omega
   ·have HI:Hid (∀w,Calls Tryz.prog 77 #[x,(),.int .i64 99] w fun e w'=>e= .returned (.bool false)∧w=w'):=fun w=>qU x 0 99 w (by omega)
    have hf2:Hid (dJ [] xs=false):=by show _=_;rw[hfin.out];simp[hr]
    clear hr
    go_wp2
    go_quiet ((go_at_call 77;exact mL (HI.out _)))
    go_wp2
    go_ret
    exact⟨aV hf2.out.symm,by exact .drewN hE _⟩
  ·have hfin:=xQ (hok.trans (qJ (by have:=HS.out.ilen;omega)))
   clear hok
   go_wp2
   go_ret
   exact⟨aV hfin.out.symm,by exact hE⟩
theorem fV (aA aB:Int)(p:OA)(n cap:Nat)(xs:List Int)(w:World)(hS:Sl w p n cap 1 (ivs xs)):
  Calls Tryz.prog 90 #[aI aA aB p n cap] w fun e w'=>e= .returned (.bool (aP aA aB xs))∧Ext w w':=by
 have hl:=hS.ilen
 unfold aP
 rw[hl]
 cases hs:iN aA aB n with
 |true=>
  obtain⟨h1,h2,h3,h4,h5,h6,h7⟩:=bR hs
  rw[Bool.true_and]
  exact wZ aA aB p n cap xs w h1 h2 h3 h4 (by omega) (by omega) (by simp[h7]) h6 hS
 |false=>
  rw[Bool.false_and]
  exact aAf aA aB p n cap w hS.bd (tO hs)
def bH (f s p c:Int):Bool:=decide (0≤f∧f<1440∧1≤s∧s≤1440∧0≤p∧p≤99∧0≤c∧c≤99)
def cP (i p a:Int):Bool:=decide (0≤i∧i≤9999∧0≤p∧p≤9999∧i≤a∧a≤9999)
def eH (f s m:Int):Int:=if m≤f then 0 else(m-f+s-1)/s
def kQ (f s p c m:Int):Int:=m/1440*c+min (eH f s (m%1440)*p) c
def bT (f s p c i pd a now:Int):Int:=if bH f s p c&&cP i pd a&&decide (a≤now∧now≤9999)then max (kQ f s p c (now-i)-pd) 0 else -1
def jK (f s p c i pd a now:Int):Bool:=
 decide (bT f s p c i pd a now=0) || (decide (0≤bT f s p c i pd a now)&&decide (now-a≤15)&&decide (bT f s p c i pd a a=0))
abbrev aR (f s p c:Int):Value:= .agg #[f,s,p,c]
abbrev bL (i p a:Int):Value:= .agg #[i,p,a]
theorem gY {f s p c:Int}(h:bH f s p c=true):0≤f∧f<1440∧1≤s∧s≤1440∧0≤p∧p≤99∧0≤c∧c≤99:=by simpa[bH]using h
theorem eS {i p a:Int}(h:cP i p a=true):0≤i∧i≤9999∧0≤p∧p≤9999∧i≤a∧a≤9999:=by simpa[cP]using h
theorem gO {f s m:Int}(h0:0≤f)(h1:1≤s)(hm:m≤9999):0≤eH f s m∧eH f s m≤9999:=by
 unfold eH
 split
 ·omega
 ·refine⟨Int.ediv_nonneg (by omega) (by omega),?_⟩
  have:(m-f+s-1)/s≤m-f:=by
   apply Int.ediv_le_of_le_mul (by omega)
   have:(m-f)*s≥(m-f)*1:=Int.mul_le_mul_of_nonneg_left h1 (by omega)
   have h2:(m-f)*s=(m-f-1)*s+s:=by rw[Int.sub_mul (m-f) 1 s];omega
   have h3:(m-f-1)*s≥(m-f-1)*1:=Int.mul_le_mul_of_nonneg_left h1 (by omega)
   omega
  omega
theorem wJ {f s m:Int}(h1:1≤s):(max (m-f) 0+s-1)/s=eH f s m:=by
 unfold eH
 split
 ·rw[show max (m-f) 0=0 by omega]
  exact Int.ediv_eq_zero_of_lt (by omega) (by omega)
 ·rw[show max (m-f) 0=m-f by omega]
theorem pP {x p:Int}(hx:0≤x)(hx2:x≤9999)(h0:0≤p)(h1:p≤99):0≤x*p∧x*p≤989901:=by
 refine⟨Int.mul_nonneg hx h0,?_⟩
 have:=Int.mul_le_mul hx2 h1 h0 (by omega)
 omega
theorem lY {f s p c m:Int}(h:bH f s p c=true)(h0:0≤m)(h1:m≤9999):0≤kQ f s p c m∧kQ f s p c m≤693:=by
 obtain⟨a1,a2,a3,a4,a5,a6,a7,a8⟩:=gY h
 obtain⟨b1,b2⟩:=gO (m:=m%1440) a1 a3 (by omega)
 obtain⟨d1,d2⟩:=pP b1 b2 a5 a6
 unfold kQ
 have e1:0≤m/1440*c:=Int.mul_nonneg (by omega) a7
 have e2:m/1440*c≤6*99:=Int.mul_le_mul (by omega) a8 a7 (by omega)
 omega
theorem vR (f s p c:Int)(w:World):Calls Tryz.prog 81 #[aR f s p c] w fun e w'=>e= .returned (.bool (bH f s p c))∧Ext w w':=by
 by_cases c1:0≤f
 ·by_cases c2:f<1440
  ·by_cases c3:1≤s
   ·by_cases c4:s≤1440
    ·by_cases c5:0≤p
     ·by_cases c6:p≤99
      ·by_cases c7:0≤c
       ·by_cases c8:c≤99
        ·go_enter Tryz.func81,Tryz.ntmps81
         go_wp2
         go_ret
         exact⟨aV (by simp[bH];omega),by exact .alloc (.refl _) _⟩
        ·go_enter Tryz.func81,Tryz.ntmps81
         go_wp2
         go_ret
         exact⟨aV (by simp[bH];omega),by exact .alloc (.refl _) _⟩
       ·go_enter Tryz.func81,Tryz.ntmps81
        go_wp2
        go_ret
        exact⟨aV (by simp[bH];omega),by exact .alloc (.refl _) _⟩
      ·go_enter Tryz.func81,Tryz.ntmps81
       go_wp2
       go_ret
       exact⟨aV (by simp[bH];omega),by exact .alloc (.refl _) _⟩
     ·go_enter Tryz.func81,Tryz.ntmps81
      go_wp2
      go_ret
      exact⟨aV (by simp[bH];omega),by exact .alloc (.refl _) _⟩
    ·go_enter Tryz.func81,Tryz.ntmps81
     go_wp2
     go_ret
     exact⟨aV (by simp[bH];omega),by exact .alloc (.refl _) _⟩
   ·go_enter Tryz.func81,Tryz.ntmps81
    go_wp2
    go_ret
    exact⟨aV (by simp[bH];omega),by exact .alloc (.refl _) _⟩
  ·go_enter Tryz.func81,Tryz.ntmps81
   go_wp2
   go_ret
   exact⟨aV (by simp[bH];omega),by exact .alloc (.refl _) _⟩
 ·go_enter Tryz.func81,Tryz.ntmps81
  go_wp2
  go_ret
  exact⟨aV (by simp[bH];omega),by exact .alloc (.refl _) _⟩
theorem uW (f s p c:Int)(w:World):Calls Tryz.prog 91 #[aR f s p c] w fun e w'=>e= .returned (.bool (bH f s p c))∧Ext w w':=by
 by_cases c1:0≤f
 ·by_cases c2:f<1440
  ·by_cases c3:1≤s
   ·by_cases c4:s≤1440
    ·by_cases c5:0≤p
     ·by_cases c6:p≤99
      ·by_cases c7:0≤c
       ·by_cases c8:c≤99
        ·go_enter Tryz.func91,Tryz.ntmps91
         go_wp2_with go_in
         go_ret
         exact⟨aV (by simp[bH];omega),by exact .alloc (.refl _) _⟩
        ·go_enter Tryz.func91,Tryz.ntmps91
         go_wp2_with go_in
         go_ret
         exact⟨aV (by simp[bH];omega),by exact .alloc (.refl _) _⟩
       ·go_enter Tryz.func91,Tryz.ntmps91
        go_wp2_with go_in
        go_ret
        exact⟨aV (by simp[bH];omega),by exact .alloc (.refl _) _⟩
      ·go_enter Tryz.func91,Tryz.ntmps91
       go_wp2_with go_in
       go_ret
       exact⟨aV (by simp[bH];omega),by exact .alloc (.refl _) _⟩
     ·go_enter Tryz.func91,Tryz.ntmps91
      go_wp2_with go_in
      go_ret
      exact⟨aV (by simp[bH];omega),by exact .alloc (.refl _) _⟩
    ·go_enter Tryz.func91,Tryz.ntmps91
     go_wp2_with go_in
     go_ret
     exact⟨aV (by simp[bH];omega),by exact .alloc (.refl _) _⟩
   ·go_enter Tryz.func91,Tryz.ntmps91
    go_wp2_with go_in
    go_ret
    exact⟨aV (by simp[bH];omega),by exact .alloc (.refl _) _⟩
  ·go_enter Tryz.func91,Tryz.ntmps91
   go_wp2_with go_in
   go_ret
   exact⟨aV (by simp[bH];omega),by exact .alloc (.refl _) _⟩
 ·go_enter Tryz.func91,Tryz.ntmps91
  go_wp2_with go_in
  go_ret
  exact⟨aV (by simp[bH];omega),by exact .alloc (.refl _) _⟩
theorem aGb (i p a:Int)(w:World):Calls Tryz.prog 82 #[bL i p a] w fun e w'=>e= .returned (.bool (cP i p a))∧Ext w w':=by
 by_cases c1:0≤i
 ·by_cases c2:i≤9999
  ·by_cases c3:0≤p
   ·by_cases c4:p≤9999
    ·by_cases c5:i≤a
     ·by_cases c6:a≤9999
      ·go_enter Tryz.func82,Tryz.ntmps82
       go_wp2
       go_ret
       exact⟨aV (by simp[cP];omega),by exact .alloc (.refl _) _⟩
      ·go_enter Tryz.func82,Tryz.ntmps82
       go_wp2
       go_ret
       exact⟨aV (by simp[cP];omega),by exact .alloc (.refl _) _⟩
     ·go_enter Tryz.func82,Tryz.ntmps82
      go_wp2
      go_ret
      exact⟨aV (by simp[cP];omega),by exact .alloc (.refl _) _⟩
    ·go_enter Tryz.func82,Tryz.ntmps82
     go_wp2
     go_ret
     exact⟨aV (by simp[cP];omega),by exact .alloc (.refl _) _⟩
   ·go_enter Tryz.func82,Tryz.ntmps82
    go_wp2
    go_ret
    exact⟨aV (by simp[cP];omega),by exact .alloc (.refl _) _⟩
  ·go_enter Tryz.func82,Tryz.ntmps82
   go_wp2
   go_ret
   exact⟨aV (by simp[cP];omega),by exact .alloc (.refl _) _⟩
 ·go_enter Tryz.func82,Tryz.ntmps82
  go_wp2
  go_ret
  exact⟨aV (by simp[cP];omega),by exact .alloc (.refl _) _⟩
theorem aF5 (i p a:Int)(w:World):Calls Tryz.prog 92 #[bL i p a] w fun e w'=>e= .returned (.bool (cP i p a))∧Ext w w':=by
 by_cases c1:0≤i
 ·by_cases c2:i≤9999
  ·by_cases c3:0≤p
   ·by_cases c4:p≤9999
    ·by_cases c5:i≤a
     ·by_cases c6:a≤9999
      ·go_enter Tryz.func92,Tryz.ntmps92
       go_wp2_with go_in
       go_ret
       exact⟨aV (by simp[cP];omega),by exact .alloc (.refl _) _⟩
      ·go_enter Tryz.func92,Tryz.ntmps92
       go_wp2_with go_in
       go_ret
       exact⟨aV (by simp[cP];omega),by exact .alloc (.refl _) _⟩
     ·go_enter Tryz.func92,Tryz.ntmps92
      go_wp2_with go_in
      go_ret
      exact⟨aV (by simp[cP];omega),by exact .alloc (.refl _) _⟩
    ·go_enter Tryz.func92,Tryz.ntmps92
     go_wp2_with go_in
     go_ret
     exact⟨aV (by simp[cP];omega),by exact .alloc (.refl _) _⟩
   ·go_enter Tryz.func92,Tryz.ntmps92
    go_wp2_with go_in
    go_ret
    exact⟨aV (by simp[cP];omega),by exact .alloc (.refl _) _⟩
  ·go_enter Tryz.func92,Tryz.ntmps92
   go_wp2_with go_in
   go_ret
   exact⟨aV (by simp[cP];omega),by exact .alloc (.refl _) _⟩
 ·go_enter Tryz.func92,Tryz.ntmps92
  go_wp2_with go_in
  go_ret
  exact⟨aV (by simp[cP];omega),by exact .alloc (.refl _) _⟩
theorem aGl (f s p c m:Int)(w:World)(h:bH f s p c=true)(h0:0≤m)(h1:m≤9999):Calls Tryz.prog 95 #[aR f s p c,m] w fun e w'=>e= .returned (.int .i64 (eH f s m))∧Ext w w':=by
 obtain⟨a1,a2,a3,a4,a5,a6,a7,a8⟩:=gY h
 have HT:Hid (∀w,Calls Tryz.prog 81 #[aR f s p c] w fun e w'=>e= .returned (.bool true)∧Ext w w'):=fun w=>by rw[←h];exact vR f s p c w
 have HB:=xQ (gO (m:=m) a1 a3 h1)
 clear h
 by_cases hm:m≤f
 ·have hf:Hid (eH f s m=0):=if_pos hm
  go_enter Tryz.func95,Tryz.ntmps95
  go_wp2_with fail
  refine(HT.out _).mono ?_
  rintro e w1 ⟨rfl,h1'⟩
  have hce:=h1'.cells.1
  go_wp2
  go_ret
  exact⟨dL hf.out.symm,by exact .trans (.alloc (.refl _) _) h1'⟩
 ·have hf:Hid (eH f s m=(m-f+s-1)/s):=if_neg hm
  go_enter Tryz.func95,Tryz.ntmps95
  go_wp2_with fail
  refine(HT.out _).mono ?_
  rintro e w1 ⟨rfl,h1'⟩
  have hce:=h1'.cells.1
  go_wp2
  go_ret
  exact⟨dL hf.out.symm,by exact .trans (.alloc (.refl _) _) h1'⟩
theorem aFh (f s p c m:Int)(w:World)(h:bH f s p c=true)(h0:0≤m)(h1:m≤9999):Calls Tryz.prog 187 #[aR f s p c,m] w fun e w'=>e= .returned (.int .i64 (eH f s m))∧Ext w w':=by
 obtain⟨a1,a2,a3,a4,a5,a6,a7,a8⟩:=gY h
 have HT:Hid (∀w,Calls Tryz.prog 91 #[aR f s p c] w fun e w'=>e= .returned (.bool true)∧Ext w w'):=fun w=>by rw[←h];exact uW f s p c w
 have hf:=xQ (wJ (f:=f) (m:=m) a3)
 clear h
 go_enter Tryz.func187,Tryz.ntmps187
 go_wp2_with (first|(go_at_call 91;refine(HT.out _).mono ?_;rintro e w1 ⟨rfl,h1'⟩;have hce:=h1'.cells.1)|go_in)
 all_goals go_ret
 all_goals exact⟨dL (by rw[←hf.out];congr 1;omega),by exact .trans (.alloc (.refl _) _) h1'⟩
theorem aJ0 (f s p c m:Int)(w:World)(h:bH f s p c=true)(h0:0≤m)(h1:m≤9999):Calls Tryz.prog 45 #[aR f s p c,m] w fun e w'=>e= .returned (.int .i64 (kQ f s p c m))∧Ext w w':=by
 obtain⟨a1,a2,a3,a4,a5,a6,a7,a8⟩:=gY h
 have HT:Hid (∀w,Calls Tryz.prog 81 #[aR f s p c] w fun e w'=>e= .returned (.bool true)∧Ext w w'):=fun w=>by rw[←h];exact vR f s p c w
 obtain⟨q,hq⟩: ∃q,q=eH f s (m%1440):=⟨_,rfl⟩
 have hqb:0≤q∧q≤9999:=by rw[hq];exact gO a1 a3 (by omega)
 obtain⟨q2,hq2⟩: ∃q,q=eH f s m:=⟨_,rfl⟩
 have hqb2:0≤q2∧q2≤9999:=by rw[hq2];exact gO a1 a3 (by omega)
 have HF:Hid (∀w,Calls Tryz.prog 95 #[aR f s p c,(m%1440:Int)] w fun e w'=>e= .returned (.int .i64 q)∧Ext w w'):=fun w=>by rw[hq];exact aGl f s p c _ w h (by omega) (by omega)
 have HF2:Hid (∀w,Calls Tryz.prog 95 #[aR f s p c,m] w fun e w'=>e= .returned (.int .i64 q2)∧Ext w w'):=fun w=>by rw[hq2];exact aGl f s p c _ w h (by omega) (by omega)
 have hres:kQ f s p c m=m/1440*c+min (q*p) c:=by rw[hq];rfl
 rw[hres]
 obtain⟨b1,b2⟩:=pP hqb.1 hqb.2 a5 a6
 have b3:0≤m/1440*c:=Int.mul_nonneg (by omega) a7
 have b4:m/1440*c≤6*99:=Int.mul_le_mul (by omega) a8 a7 (by omega)
 clear hq hq2 hres h
 go_enter Tryz.func45,Tryz.ntmps45
 go_wp2_with fail
 refine(HT.out _).mono ?_
 rintro e w1 ⟨rfl,h1'⟩
 have hz1:w.heap.size<w1.heap.size:=Nat.lt_of_lt_of_le (by simp) h1'.sz
 have e0:w1.cell? ⟨w.heap.size,0,none⟩=some (.int .i64 f):=by rw[h1'.cells.1 _ _ (by simp)];simp
 have e1:w1.cell? ⟨w.heap.size,1,none⟩=some (.int .i64 s):=by rw[h1'.cells.1 _ _ (by simp)];simp
 have e2:w1.cell? ⟨w.heap.size,2,none⟩=some (.int .i64 p):=by rw[h1'.cells.1 _ _ (by simp)];simp
 have e3:w1.cell? ⟨w.heap.size,3,none⟩=some (.int .i64 c):=by rw[h1'.cells.1 _ _ (by simp)];simp
 go_wp2_with fail
 have hq:=IntWalk.i64_quo m 1440 ⟨h0,by omega,by omega⟩
 have hr:=IntWalk.rem_in m 1440 h0
 have hr1:IntKind.i64.wrap (m%1440)=m%1440:=IntWalk.i64_in _ (by omega)
 have k1:IntKind.i64.wrap (q*p)=q*p:=IntWalk.i64_in _ (by omega)
 have k2:IntKind.i64.wrap (m/1440*c)=m/1440*c:=IntWalk.i64_in _ (by omega)
 have k3:IntKind.i64.wrap (m/1440*c+c)=m/1440*c+c:=IntWalk.i64_in _ (by omega)
 have k4:IntKind.i64.wrap (m/1440*c+q*p)=m/1440*c+q*p:=IntWalk.i64_in _ (by omega)
 go_region_held3 (fun w'=>w'.cell? ⟨w.heap.size,0,none⟩=some (.int .i64 f)∧w'.cell? ⟨w.heap.size,1,none⟩=some (.int .i64 s)∧w'.cell? ⟨w.heap.size,2,none⟩=some (.int .i64 p)∧w'.cell? ⟨w.heap.size,3,none⟩=some (.int .i64 c)) (go_keep)
  ((go_at_call 95;refine(HF.out _).mono ?_;rintro e w2 ⟨rfl,h2⟩;(try replace h2:=h2.of_drew);have hce:=h2.cells.1;have hze:w.heap.size<w2.heap.size:=Nat.lt_of_lt_of_le (by assumption) h2.sz))
 all_goals clear hq hr hr1 k1 k2 k3 k4
 all_goals go_wp2
 all_goals go_ret
 all_goals exact⟨dL (by first|omega|(rw[IntWalk.i64_in _ (by omega)];omega)),by exact .trans (.trans (.alloc (.refl _) _) h1') h2⟩
theorem aIm (f s p c m:Int)(w:World)(h:bH f s p c=true)(h0:0≤m)(h1:m≤9999):Calls Tryz.prog 162 #[aR f s p c,m] w fun e w'=>e= .returned (.int .i64 (kQ f s p c m))∧Ext w w':=by
 obtain⟨a1,a2,a3,a4,a5,a6,a7,a8⟩:=gY h
 have HT:Hid (∀w,Calls Tryz.prog 91 #[aR f s p c] w fun e w'=>e= .returned (.bool true)∧Ext w w'):=fun w=>by rw[←h];exact uW f s p c w
 obtain⟨q,hq⟩: ∃q,q=eH f s (m%1440):=⟨_,rfl⟩
 have hqb:0≤q∧q≤9999:=by rw[hq];exact gO a1 a3 (by omega)
 obtain⟨q2,hq2⟩: ∃q,q=eH f s m:=⟨_,rfl⟩
 have hqb2:0≤q2∧q2≤9999:=by rw[hq2];exact gO a1 a3 (by omega)
 have HF:Hid (∀w,Calls Tryz.prog 187 #[aR f s p c,(m%1440:Int)] w fun e w'=>e= .returned (.int .i64 q)∧Ext w w'):=fun w=>by rw[hq];exact aFh f s p c _ w h (by omega) (by omega)
 have HF2:Hid (∀w,Calls Tryz.prog 187 #[aR f s p c,m] w fun e w'=>e= .returned (.int .i64 q2)∧Ext w w'):=fun w=>by rw[hq2];exact aFh f s p c _ w h (by omega) (by omega)
 have hres:kQ f s p c m=m/1440*c+min (q*p) c:=by rw[hq];rfl
 rw[hres]
 obtain⟨b1,b2⟩:=pP hqb.1 hqb.2 a5 a6
 have b3:0≤m/1440*c:=Int.mul_nonneg (by omega) a7
 have b4:m/1440*c≤6*99:=Int.mul_le_mul (by omega) a8 a7 (by omega)
 clear hq hq2 hres h
 go_enter Tryz.func162,Tryz.ntmps162
 go_wp2_with fail
 refine(HF2.out _).mono ?_
 rintro e w1 ⟨rfl,h1'⟩
 have hz1:w.heap.size<w1.heap.size:=Nat.lt_of_lt_of_le (by simp) h1'.sz
 have e0:w1.cell? ⟨w.heap.size,0,none⟩=some (.int .i64 f):=by rw[h1'.cells.1 _ _ (by simp)];simp
 have e1:w1.cell? ⟨w.heap.size,1,none⟩=some (.int .i64 s):=by rw[h1'.cells.1 _ _ (by simp)];simp
 have e2:w1.cell? ⟨w.heap.size,2,none⟩=some (.int .i64 p):=by rw[h1'.cells.1 _ _ (by simp)];simp
 have e3:w1.cell? ⟨w.heap.size,3,none⟩=some (.int .i64 c):=by rw[h1'.cells.1 _ _ (by simp)];simp
 go_wp2_with fail
 have hq:=IntWalk.i64_quo m 1440 ⟨h0,by omega,by omega⟩
 have hr:=IntWalk.rem_in m 1440 h0
 have hr1:IntKind.i64.wrap (m%1440)=m%1440:=IntWalk.i64_in _ (by omega)
 have k1:IntKind.i64.wrap (q*p)=q*p:=IntWalk.i64_in _ (by omega)
 have k2:IntKind.i64.wrap (m/1440*c)=m/1440*c:=IntWalk.i64_in _ (by omega)
 have k3:IntKind.i64.wrap (m/1440*c+c)=m/1440*c+c:=IntWalk.i64_in _ (by omega)
 have k4:IntKind.i64.wrap (m/1440*c+q*p)=m/1440*c+q*p:=IntWalk.i64_in _ (by omega)
 go_region_held3 (fun w'=>w'.cell? ⟨w.heap.size,0,none⟩=some (.int .i64 f)∧w'.cell? ⟨w.heap.size,1,none⟩=some (.int .i64 s)∧w'.cell? ⟨w.heap.size,2,none⟩=some (.int .i64 p)∧w'.cell? ⟨w.heap.size,3,none⟩=some (.int .i64 c)) (go_keep)
  ((go_at_call 187;refine(HF.out _).mono ?_;rintro e w2 ⟨rfl,h2⟩;(try replace h2:=h2.of_drew);have hce:=h2.cells.1;have hze:w.heap.size<w2.heap.size:=Nat.lt_of_lt_of_le (by assumption) h2.sz))
 all_goals clear hq hr hr1 k1 k2 k3 k4
 all_goals go_wp2
 all_goals go_ret
 all_goals exact⟨dL (by first|omega|(rw[IntWalk.i64_in _ (by omega)];omega)),by exact .trans (.trans (.alloc (.refl _) _) h1') h2⟩
end Go.Proofs.YtgnkoffndhmhpaaGreatDoor
