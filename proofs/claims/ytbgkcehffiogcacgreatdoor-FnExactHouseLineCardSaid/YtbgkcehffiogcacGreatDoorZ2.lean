/-
  Texts of this proof, packed (@packed).
-/
import Derived.WalkLawsBesides
import Derived.Test.YtbgkcehffiogcacGreatDoorZ1
namespace Go.Proofs.YtbgkcehffiogcacGreatDoor
open Go.RowKit
set_option linter.unusedSimpArgs false
set_option linter.unusedVariables false
set_option maxHeartbeats 8000000
set_option maxRecDepth 100000
def eA:List Int→List Int→Bool
 |_,[]=>true
 |seen,x::xs=>decide (0≤x∧x≤99)&& !(decide (0<x)&&seen.contains x)&&eA (seen++ [x]) xs
def kF (aA aB:Int)(n:Nat):Bool:=decide (2≤aA∧aA≤4∧2≤aB∧aB≤3∧(n:Int)=aA*aB)
def aO (aA aB:Int)(xs:List Int):Bool:=kF aA aB xs.length&&eA [] xs
theorem sQ (a:List Int)(x:Int)(xs:List Int):eA a (x::xs)=(decide (0≤x∧x≤99)&& !(decide (0<x)&&a.contains x)&&eA (a++ [x]) xs):=rfl
theorem xV {xs:List Int}{k:Nat}{x:Int}(h:xs[k]? =some x):eA (xs.take k) (xs.drop k)=(decide (0≤x∧x≤99)&& !(decide (0<x)&&(xs.take k).contains x)&&eA (xs.take (k+1)) (xs.drop (k+1))):=by rw[qC h,bC h,sQ]
theorem uW {xs:List Int}{k:Nat}(h:xs.length≤k):eA (xs.take k) (xs.drop k)=true:=by rw[aS4 h];rfl
theorem fG: ∀(xs seen:List Int),eA seen xs=true↔(∀x∈xs,0≤x∧x≤99)∧(∀x∈xs,0<x→x∉seen)∧(xs.filter (fun x=>decide (0<x))).Nodup:=by
 intro xs;induction xs with
 |nil=>intro seen;simp[eA]
 |cons x xs ih=>
  intro seen;rw[sQ,aQv,aQv,ih];simp only[decide_eq_true_eq,Bool.not_eq_true',Bool.and_eq_false_iff,decide_eq_false_iff_not,List.contains_eq_mem,aR5,aR7,List.not_mem_nil,or_false];constructor
  ·rintro⟨⟨h1,h2⟩,h3,h4,h5⟩;refine⟨?_,?_,?_⟩
   ·rintro y (rfl|hy)
    ·exact h1
    exact h3 y hy
   ·rintro y (rfl|hy) h0
    ·rcases h2 with h2|h2
     ·omega
     exact h2
    exact fun h=>h4 y hy h0 (.inl h)
   by_cases h0:0<x
   ·rw[aSr (by simpa using h0),List.nodup_cons];refine⟨fun hm=> ?_,h5⟩;have:=aRf.1 hm;exact h4 x this.1 h0 (.inr rfl)
   rw[aSs (by simpa using h0)];exact h5
  rintro⟨h1,h2,h3⟩;refine⟨⟨h1 x (.inl rfl),?_⟩,fun y hy=>h1 y (.inr hy),?_,?_⟩
  ·by_cases h0:0<x
   ·exact .inr (h2 x (.inl rfl) h0)
   exact .inl h0
  ·intro y hy h0 h;rcases h with h|rfl
   ·exact h2 y (.inr hy) h0 h
   rw[aSr (by simpa using h0),List.nodup_cons]at h3;exact h3.1 (aRf.2 ⟨hy,by simpa using h0⟩)
  by_cases h0:0<x
  ·rw[aSr (by simpa using h0),List.nodup_cons]at h3;exact h3.2
  rw[aSs (by simpa using h0)]at h3;exact h3
theorem cC {aA aB:Int}{n:Nat}(h:kF aA aB n=true):2≤aA∧aA≤4∧2≤aB∧aB≤3∧4≤n∧n≤12∧(n:Int)=aA*aB:=by
 simp only[kF,decide_eq_true_eq]at h;obtain⟨h1,h2,h3,h4,h5⟩:=h;have hw:aA=2∨aA=3∨aA=4:=by omega
 have hd:aB=2∨aB=3:=by omega
 refine⟨h1,h2,h3,h4,?_,?_,h5⟩
 ·rcases hw with rfl|rfl|rfl<;>rcases hd with rfl|rfl<;>omega
 rcases hw with rfl|rfl|rfl<;>rcases hd with rfl|rfl<;>omega
theorem zH {aA aB:Int}{n:Nat}(hs:kF aA aB n=false):aA<2∨2≤aA∧4<aA∨2≤aA∧aA≤4∧aB<2∨2≤aA∧aA≤4∧2≤aB∧3<aB∨2≤aA∧aA≤4∧2≤aB∧aB≤3∧0≤aA*aB∧aA*aB≤12∧((n:Int)!=aA*aB)=true:=by
 simp only[kF,decide_eq_false_iff_not]at hs;by_cases a1:2≤aA
 ·by_cases a2:aA≤4
  ·by_cases a3:2≤aB
   ·by_cases a4:aB≤3
    ·refine .inr (.inr (.inr (.inr ⟨a1,a2,a3,a4,?_,?_,?_⟩)))
     ·exact Int.mul_nonneg (by omega) (by omega)
     ·have:=Int.mul_le_mul a2 a4 (by omega) (by omega);omega
     simp only[bne_iff_ne,ne_eq];exact fun e=>hs ⟨a1,a2,a3,a4,e⟩
    exact .inr (.inr (.inr (.inl ⟨a1,a2,a3,by omega⟩)))
   exact .inr (.inr (.inl ⟨a1,a2,by omega⟩))
  exact .inr (.inl ⟨a1,by omega⟩)
 exact .inl (by omega)
def rE (xs:List Int)(cs:Array Value):Prop:=cs.size=100∧ ∀j:Nat,j<100→cs[j]? =some (.bool (decide (0<j)&&xs.contains (j:Int)))
theorem aCj:rE [] (Array.replicate 100 (.bool false)):=⟨by simp,fun j hj=>by rw[Array.getElem?_replicate,if_pos hj];simp⟩
theorem aCi {xs:List Int}{cs:Array Value}(h:rE xs cs)(x:Int)(h0:0≤x)(h1:x≤99)(hx:0<x→xs.contains x=false):rE (xs++ [x]) (cs.setIfInBounds x.toNat (.bool (decide (0<x)))):=by
 refine⟨by simpa using h.1,fun j hj=> ?_⟩;rw[Array.getElem?_setIfInBounds];by_cases e:x.toNat=j
 ·subst e;rw[if_pos rfl,if_pos (by rw[h.1];exact hj)];have:((x.toNat:Nat):Int)=x:=by omega
  rw[this];simp
 rw[if_neg e,h.2 j hj];have a:((j:Int)==x)=false:=by rw[beq_eq_false_iff_ne];omega
 rw[beq_eq_false_iff_ne]at a;simp[List.contains_eq_mem,aR7,a]
section
open Go.Proofs.Tryz
abbrev aH (aA aB:Int)(p:OA)(n cap:Nat):Value:= .agg #[aA,aB,.slice p n cap]
theorem aGl (aA aB:Int)(p:OA)(n cap:Nat)(w:World)(hn:n≤9223372036854775807)
  (h:aA<2∨2≤aA∧4<aA∨2≤aA∧aA≤4∧aB<2∨2≤aA∧aA≤4∧2≤aB∧3<aB∨2≤aA∧aA≤4∧2≤aB∧aB≤3∧0≤aA*aB∧aA*aB≤12∧((n:Int)!=aA*aB)=true):
  U 72 #[aH aA aB p n cap] w (O (.bool false) w):=by
 rcases h with h|⟨h0,h⟩|⟨h0,h1,h⟩|⟨h0,h1,h2,h⟩|⟨h0,h1,h2,h3,h4,h5,h⟩
 all_goals
  go_enter func72,ntmps72;go_wp2;go_ret;exact⟨rfl,by exact .alloc (.refl _) _⟩
theorem aKs:rE [] Tryz.zeroCells137:=⟨by kernel_rfl,by
 have e:Tryz.zeroCells137=Array.replicate 100 (.bool false):=by kernel_rfl
 rw[e];exact aCj.2⟩
theorem aE2 (aA aB:Int)(p:OA)(n cap:Nat)(xs:List Int)(w:World)(h0:2≤aA)(h1:aA≤4)(h2:2≤aB)(h3:aB≤3)(h4:0≤aA*aB)(h5:aA*aB≤12)(h6:((n:Int)!=aA*aB)=false)(hn:n≤12)
  (HS:Hid (Sl w p n cap 1 (ivs xs))):
  U 72 #[aH aA aB p n cap] w (O (.bool (eA [] xs)) w):=by
 go_enter func72,ntmps72;go_wp2;clear h4 h5 h6;go_loopw [38] (fun i wr=> ∃(k:Nat) (cs:Array Value),k≤n∧i=I k∧Blk wr (w.heap.size+1) 137 cs∧rE (xs.take k) cs∧eA [] xs=eA (xs.take k) (xs.drop k)∧Ext w wr) (fun i _=>n-(intOf i).toNat)
 case atStart=>exact⟨0,_,aQt _,rfl,by have:=Blk.new (w.alloc (.cells #[aA,aB,.slice p n cap] 31)) 137 Tryz.zeroCells137;simpa using this,aKs,rfl,by exact .alloc (.alloc (.refl _) _) _⟩
 case round=>
  obtain⟨k,cs,hk,rfl,hb,ht,d,hE⟩:=hrel;have HB:=xQ hb;have HT:=xQ ht;by_cases hlt:k<n
  ·obtain⟨b,s,x,rfl,hx,m,l⟩:=(HS.out.ext hE).int_at hlt;have a:=xQ (d.trans (xV hx));have HX:=xQ hx;clear d hx hb ht;by_cases hr:0≤x∧x≤99
   ·obtain⟨f,g⟩:=hr;have j:wr.cell? ⟨w.heap.size+1,x.toNat,none⟩=some (.bool (decide (0<x)&&(xs.take k).contains x)):=by
     rw[HB.out.cell,HT.out.2 x.toNat (by omega)];congr 2;rw[show((x.toNat:Nat):Int)=x by omega];congr 1;simp
    have q:wr.frozen? ⟨w.heap.size+1,x.toNat,none⟩=false:=HB.out.frozen _;have o:x<100:=by omega
    cases hs:(decide (0<x)&&(xs.take k).contains x)with
    |true=>rw[hs]at j;have c:=xQ hs;clear hs;go_wp2;go_ret;exact⟨aQ (by rw[a.out,c.out];simp),hE⟩
    |false=>
     rw[hs]at j;have c:=xQ hs;clear hs;go_wp2;go_roundw
     case rel=>
      refine⟨k+1,_,by omega,by go_num,HB.out.set _ _,?_,?_,xE⟩
      ·rw[bC HX.out];refine aCi HT x f g (fun h0=> ?_);have:=c.out;simpa[h0]using this
      rw[a.out,c.out];simp[f,g]
     case measure=>simp[intOf];omega
   have h:eA [] xs=false:=by rw[a.out];simp[hr]
   have HF:=xQ h;clear h;by_cases f:x<0
   ·go_wp2;go_ret;exact⟨aQ HF.out.symm,hE⟩
   have g:99<x:=by omega
   have r:0≤x:=by omega
   go_wp2;go_ret;exact⟨aQ HF.out.symm,hE⟩
  have a:=xQ (d.trans (uW (by have:=HS.out.ilen;omega)));clear d hb ht;go_wp2;go_ret;exact⟨aQ a.out.symm,hE⟩
theorem fT (aA aB:Int)(p:OA)(n cap:Nat)(xs:List Int)(w:World)(hS:Sl w p n cap 1 (ivs xs)):
  U 72 #[aH aA aB p n cap] w (O (.bool (aO aA aB xs)) w):=by
 have hl:=hS.ilen;unfold aO;rw[hl];cases hs:kF aA aB n with
 |true=>obtain⟨h1,h2,h3,h4,h5,h6,h7⟩:=cC hs;rw[Bool.true_and];exact aE2 aA aB p n cap xs w h1 h2 h3 h4 (by omega) (by omega) (by simp[h7]) h6 hS
 |false=>rw[Bool.false_and];exact aGl aA aB p n cap w hS.bd (zH hs)
theorem pR {f:FuncId}{a:Array Value}{w:World}{n:Nat}{v:Value}(h:U f a (w.drewN n) fun e w'=>e= .returned v∧w.drewN n=w'):
  U f a (w.drewN n) fun e w'=>e= .returned v∧ ∃m,w'=w.drewN m:=h.mono fun _ _ ⟨he,hm⟩=>⟨he,n,hm.symm⟩
theorem mX (n lo hi:Int)(w:World)(h:lo≤n)(h2:n≤hi):U 50 #[n,lo,hi] w fun e w'=>e= .returned (.bool true)∧w=w':=by go_enter func50,ntmps50;go_wp2;go_ret;exact⟨rfl,rfl⟩
theorem vO (n lo hi:Int)(w:World)(h:n<lo∨lo≤n∧hi<n):U 50 #[n,lo,hi] w fun e w'=>e= .returned (.bool false)∧w=w':=by
 rcases h with h|⟨h,h2⟩
 all_goals
  go_enter func50,ntmps50;go_wp2;go_ret;exact⟨aQ (by first|rfl|(simp;omega)),rfl⟩
theorem pX (p:OA)(n cap:Nat)(xs:List Int)(x:Int)(w:World)(hS:Sl w p n cap 1 (ivs xs)):
  U 99 #[.slice p n cap,x] w fun e w'=>e= .returned (.bool (xs.contains x))∧w=w':=by
 have hn:=hS.bd;have hl:=xQ hS.ilen;have HS:=xQ hS;clear hS;go_enter func99,ntmps99;go_wp2;go_loop [5] (fun i=> ∃k:Nat,k≤n∧i=I k∧(xs.take k).contains x=false) (fun i=>n-(intOf i).toNat)
 case atStart=>exact⟨0,aQt _,rfl,by simp⟩
 case round=>
  obtain⟨k,hk,rfl,hc⟩:=hrel;have HC:=xQ hc;clear hc;by_cases hlt:k<n
  ·obtain⟨b,d,y,rfl,hx,hb,c⟩:=HS.out.int_at hlt;have HX:=xQ hx;clear hx;by_cases hy:y=x
   ·have t1:(y==x)=true:=by simp[hy]
    have a:Hid (xs.contains x=true):=by show _=_;rw[List.contains_eq_mem];simp;rw[←hy];exact aQq HX.out
    clear hy;go_wp2;go_ret;exact⟨aQ (by simpa using a.out.symm),rfl⟩
   have t1:(y==x)=false:=by simp[hy]
   have a:Hid ((xs.take (k+1)).contains x=false):=by have:=HC.out;show _=_;rw[bC HX.out];simp only[List.contains_eq_mem,decide_eq_false_iff_not,aR7,aRd,not_or]at this⊢;exact⟨this,fun e=>hy e.symm⟩
   clear hy;go_wp2;go_round
   case rel=>exact⟨k+1,by omega,by go_num,a.out⟩
   case measure=>simp[intOf];omega
  have a:Hid (xs.contains x=false):=by have:=HC.out;rw[aQu (by rw[hl.out];omega)]at this;exact this
  go_wp2;go_ret;exact⟨aQ (by simpa using a.out.symm),rfl⟩
theorem aFc (aA aB:Int)(p:OA)(n cap:Nat)(w:World)(hn:n≤9223372036854775807)
  (h:aA<2∨2≤aA∧4<aA∨2≤aA∧aA≤4∧aB<2∨2≤aA∧aA≤4∧2≤aB∧3<aB∨2≤aA∧aA≤4∧2≤aB∧aB≤3∧0≤aA*aB∧aA*aB≤12∧((n:Int)!=aA*aB)=true):
  U 48 #[aH aA aB p n cap] w (O (.bool false) w):=by
 rcases h with h|⟨h0,h⟩|⟨h0,h1,h⟩|⟨h0,h1,h2,h⟩|⟨h0,h1,h2,h3,h4,h5,h⟩
 all_goals
  go_enter func48,ntmps48;go_wp2_with go_in;go_ret;exact⟨rfl,by exact .alloc (.refl _) _⟩
theorem aCs (aA aB:Int)(p:OA)(n cap:Nat)(xs:List Int)(w:World)(h0:2≤aA)(h1:aA≤4)(h2:2≤aB)(h3:aB≤3)(h4:0≤aA*aB)(h5:aA*aB≤12)(h6:((n:Int)!=aA*aB)=false)(hn:n≤12)
  (HS:Hid (Sl w p n cap 1 (ivs xs))):
  U 48 #[aH aA aB p n cap] w (O (.bool (eA [] xs)) w):=by
 have s:=HS.out.le;have h:=HS.out.mx;unfold maxLen at h;go_enter func48,ntmps48;go_wp2_with go_in;clear h4 h5 h6;go_loopw [3] (fun i wr=> ∃k:Nat,k≤n∧i=I k∧eA [] xs=eA (xs.take k) (xs.drop k)∧Ext w wr∧w.heap.size<wr.heap.size∧wr.cell? ⟨w,2,none⟩=some (.slice p n cap)) (fun i _=>n-(intOf i).toNat)
 case atStart=>exact⟨0,aQt _,rfl,rfl,by exact .alloc (.refl _) _,by simp,by simp⟩
 case round=>
  obtain⟨k,hk,rfl,d,hE,j,g⟩:=hrel;by_cases hlt:k<n
  ·have q:=aO4 (HS.out.ext hE) (m:=k) hk;obtain⟨b,f,x,rfl,hx,t,r⟩:=(HS.out.ext hE).int_at hlt;have a:=xQ (d.trans (xV hx));have i1:(0:Int)≤(k:Int):=by omega
   have i2:(k:Int)<(n:Int):=by omega
   have i3:(k:Int)≤(n:Int):=by omega
   have i4:(k:Int)≤(cap:Int):=by omega
   have HX:=xQ hx;have HK:=xQ q;clear d hx q;by_cases hr:0≤x∧x≤99
   ·obtain⟨l,o⟩:=hr;have HI:Hid (∀w,U 50 #[x,(),I 99] w fun e w'=>e= .returned (.bool true)∧w=w'):=fun w=>mX x 0 99 w l o
    by_cases hp:0<x
    ·have hd:decide (0<x)=true:=by simp[hp]
     cases hs:(xs.take k).contains x with
     |true=>
      have HH:Hid (∀m,U 99 #[.slice (some ⟨b,f,none⟩) k cap,x] (wr.drewN m) fun e w'=>e= .returned (.bool true)∧wr.drewN m=w'):=fun m=>by have:=pX (some ⟨b,f,none⟩) k cap (xs.take k) x (wr.drewN m) (HK.out.ext (Ext.drewN (Ext.refl _) _));rwa[hs]at this
      have c:Hid (eA [] xs=false):=by show _=_;rw[a.out,hs];simp[hp]
      clear hs;go_wp2;go_quiet ((first|(go_at_call 50;exact pR (HI _))|(go_at_call 99;exact pR (HH _))));go_wp2;go_ret;exact⟨aQ c.out.symm,by exact .drewN hE _⟩
     |false=>
      have HH:Hid (∀m,U 99 #[.slice (some ⟨b,f,none⟩) k cap,x] (wr.drewN m) fun e w'=>e= .returned (.bool false)∧wr.drewN m=w'):=fun m=>by have:=pX (some ⟨b,f,none⟩) k cap (xs.take k) x (wr.drewN m) (HK.out.ext (Ext.drewN (Ext.refl _) _));rwa[hs]at this
      have c:Hid (eA [] xs=eA (xs.take (k+1)) (xs.drop (k+1))):=by show _=_;rw[a.out,hs];simp[l,o]
      clear hs;go_wp2;go_quiet ((first|(go_at_call 50;exact pR (HI _))|(go_at_call 99;exact pR (HH _))));go_wp2;go_roundw
      case rel=>exact⟨k+1,by omega,by go_num,c.out,by exact .drewN hE _,j,g⟩
      case measure=>simp[intOf];omega
    have hd:decide (0<x)=false:=by simp[hp]
    have c:Hid (eA [] xs=eA (xs.take (k+1)) (xs.drop (k+1))):=by show _=_;rw[a.out];simp[l,o,hp]
    go_wp2;go_quiet ((go_at_call 50;exact pR (HI _)));go_wp2;go_roundw
    case rel=>first|exact⟨k+1,by omega,by go_num,c.out,xE,j,g⟩|((repeat apply Exists.intro);exact⟨⟨k+1,by omega,by go_num,c.out,by exact .drewN hE _,j,g⟩,rfl⟩)
    case measure=>simp[intOf];omega
   have HI:Hid (∀w,U 50 #[x,(),I 99] w fun e w'=>e= .returned (.bool false)∧w=w'):=fun w=>vO x 0 99 w (by omega)
   have c:Hid (eA [] xs=false):=by show _=_;rw[a.out];simp[hr]
   clear hr;go_wp2;go_quiet ((go_at_call 50;exact pR (HI _)));go_wp2;go_ret;exact⟨aQ c.out.symm,by exact .drewN hE _⟩
  have a:=xQ (d.trans (uW (by have:=HS.out.ilen;omega)));clear d;go_wp2;go_ret;exact⟨aQ a.out.symm,by exact hE⟩
theorem gE (aA aB:Int)(p:OA)(n cap:Nat)(xs:List Int)(w:World)(hS:Sl w p n cap 1 (ivs xs)):
  U 48 #[aH aA aB p n cap] w (O (.bool (aO aA aB xs)) w):=by
 have hl:=hS.ilen;unfold aO;rw[hl];cases hs:kF aA aB n with
 |true=>obtain⟨h1,h2,h3,h4,h5,h6,h7⟩:=cC hs;rw[Bool.true_and];exact aCs aA aB p n cap xs w h1 h2 h3 h4 (by omega) (by omega) (by simp[h7]) h6 hS
 |false=>rw[Bool.false_and];exact aFc aA aB p n cap w hS.bd (zH hs)
def bN (f s p c:Int):Bool:=decide (0≤f∧f<1440∧1≤s∧s≤1440∧0≤p∧p≤99∧0≤c∧c≤99)
def dB (i p a:Int):Bool:=decide (0≤i∧i≤9999∧0≤p∧p≤9999∧i≤a∧a≤9999)
def fE (f s m:Int):Int:=if m≤f then 0 else(m-f+s-1)/s
def nA (f s p c m:Int):Int:=m/1440*c+min (fE f s (m%1440)*p) c
def cA (f s p c i pd a now:Int):Int:=if bN f s p c&&dB i pd a&&decide (a≤now∧now≤9999)then max (nA f s p c (now-i)-pd) 0 else -1
def lN (f s p c i pd a now:Int):Bool:=
 decide (cA f s p c i pd a now=0) || (decide (0≤cA f s p c i pd a now)&&decide (now-a≤15)&&decide (cA f s p c i pd a a=0))
abbrev aS (f s p c:Int):Value:= .agg #[f,s,p,c]
abbrev bS (i p a:Int):Value:= .agg #[i,p,a]
theorem gZ {f s p c:Int}(h:bN f s p c=true):0≤f∧f<1440∧1≤s∧s≤1440∧0≤p∧p≤99∧0≤c∧c≤99:=by simpa[bN]using h
theorem fI {i p a:Int}(h:dB i p a=true):0≤i∧i≤9999∧0≤p∧p≤9999∧i≤a∧a≤9999:=by simpa[dB]using h
theorem jC {f s m:Int}(h0:0≤f)(h1:1≤s)(hm:m≤9999):0≤fE f s m∧fE f s m≤9999:=by
 unfold fE;split
 ·omega
 refine⟨Int.ediv_nonneg (by omega) (by omega),?_⟩;have:(m-f+s-1)/s≤m-f:=by
  apply Int.ediv_le_of_le_mul (by omega);have:(m-f)*s≥(m-f)*1:=Int.mul_le_mul_of_nonneg_left h1 (by omega);have h2:(m-f)*s=(m-f-1)*s+s:=by rw[Int.sub_mul (m-f) 1 s];omega
  have h3:(m-f-1)*s≥(m-f-1)*1:=Int.mul_le_mul_of_nonneg_left h1 (by omega);omega
 omega
theorem aC3 {f s m:Int}(h1:1≤s):(max (m-f) 0+s-1)/s=fE f s m:=by
 unfold fE;split
 ·rw[show max (m-f) 0=0 by omega];exact Int.ediv_eq_zero_of_lt (by omega) (by omega)
 rw[show max (m-f) 0=m-f by omega]
theorem tU {x p:Int}(hx:0≤x)(a:x≤9999)(h0:0≤p)(h1:p≤99):0≤x*p∧x*p≤989901:=by refine⟨Int.mul_nonneg hx h0,?_⟩;have:=Int.mul_le_mul a h1 h0 (by omega);omega
theorem pA {f s p c m:Int}(h:bN f s p c=true)(h0:0≤m)(h1:m≤9999):0≤nA f s p c m∧nA f s p c m≤693:=by obtain⟨a1,a2,a3,a4,a5,a6,a7,a8⟩:=gZ h;obtain⟨b1,b2⟩:=jC (m:=m%1440) a1 a3 (by omega);obtain⟨d1,d2⟩:=tU b1 b2 a5 a6;unfold nA;have e1:0≤m/1440*c:=Int.mul_nonneg (by omega) a7;have e2:m/1440*c≤6*99:=Int.mul_le_mul (by omega) a8 a7 (by omega);omega
theorem aBi (f s p c:Int)(w:World):U 73 #[aS f s p c] w (O (.bool (bN f s p c)) w):=by
 by_cases c1:0≤f
 ·by_cases c2:f<1440
  ·by_cases c3:1≤s
   ·by_cases c4:s≤1440
    ·by_cases c5:0≤p
     ·by_cases c6:p≤99
      ·by_cases c7:0≤c
       ·by_cases c8:c≤99
        ·go_enter func73,ntmps73;go_wp2;go_ret;exact⟨aQ (by simp[bN];omega),by exact .alloc (.refl _) _⟩
        go_enter func73,ntmps73;go_wp2;go_ret;exact⟨aQ (by simp[bN];omega),by exact .alloc (.refl _) _⟩
       go_enter func73,ntmps73;go_wp2;go_ret;exact⟨aQ (by simp[bN];omega),by exact .alloc (.refl _) _⟩
      go_enter func73,ntmps73;go_wp2;go_ret;exact⟨aQ (by simp[bN];omega),by exact .alloc (.refl _) _⟩
     go_enter func73,ntmps73;go_wp2;go_ret;exact⟨aQ (by simp[bN];omega),by exact .alloc (.refl _) _⟩
    go_enter func73,ntmps73;go_wp2;go_ret;exact⟨aQ (by simp[bN];omega),by exact .alloc (.refl _) _⟩
   go_enter func73,ntmps73;go_wp2;go_ret;exact⟨aQ (by simp[bN];omega),by exact .alloc (.refl _) _⟩
  go_enter func73,ntmps73;go_wp2;go_ret;exact⟨aQ (by simp[bN];omega),by exact .alloc (.refl _) _⟩
 go_enter func73,ntmps73;go_wp2;go_ret;exact⟨aQ (by simp[bN];omega),by exact .alloc (.refl _) _⟩
theorem aAn (f s p c:Int)(w:World):U 49 #[aS f s p c] w (O (.bool (bN f s p c)) w):=by
 by_cases c1:0≤f
 ·by_cases c2:f<1440
  ·by_cases c3:1≤s
   ·by_cases c4:s≤1440
    ·by_cases c5:0≤p
     ·by_cases c6:p≤99
      ·by_cases c7:0≤c
       ·by_cases c8:c≤99
        ·go_enter func49,ntmps49;go_wp2_with go_in;go_ret;exact⟨aQ (by simp[bN];omega),by exact .alloc (.refl _) _⟩
        go_enter func49,ntmps49;go_wp2_with go_in;go_ret;exact⟨aQ (by simp[bN];omega),by exact .alloc (.refl _) _⟩
       go_enter func49,ntmps49;go_wp2_with go_in;go_ret;exact⟨aQ (by simp[bN];omega),by exact .alloc (.refl _) _⟩
      go_enter func49,ntmps49;go_wp2_with go_in;go_ret;exact⟨aQ (by simp[bN];omega),by exact .alloc (.refl _) _⟩
     go_enter func49,ntmps49;go_wp2_with go_in;go_ret;exact⟨aQ (by simp[bN];omega),by exact .alloc (.refl _) _⟩
    go_enter func49,ntmps49;go_wp2_with go_in;go_ret;exact⟨aQ (by simp[bN];omega),by exact .alloc (.refl _) _⟩
   go_enter func49,ntmps49;go_wp2_with go_in;go_ret;exact⟨aQ (by simp[bN];omega),by exact .alloc (.refl _) _⟩
  go_enter func49,ntmps49;go_wp2_with go_in;go_ret;exact⟨aQ (by simp[bN];omega),by exact .alloc (.refl _) _⟩
 go_enter func49,ntmps49;go_wp2_with go_in;go_ret;exact⟨aQ (by simp[bN];omega),by exact .alloc (.refl _) _⟩
theorem aMf (i p a:Int)(w:World):U 75 #[bS i p a] w (O (.bool (dB i p a)) w):=by
 by_cases c1:0≤i
 ·by_cases c2:i≤9999
  ·by_cases c3:0≤p
   ·by_cases c4:p≤9999
    ·by_cases c5:i≤a
     ·by_cases c6:a≤9999
      ·go_enter func75,ntmps75;go_wp2;go_ret;exact⟨aQ (by simp[dB];omega),by exact .alloc (.refl _) _⟩
      go_enter func75,ntmps75;go_wp2;go_ret;exact⟨aQ (by simp[dB];omega),by exact .alloc (.refl _) _⟩
     go_enter func75,ntmps75;go_wp2;go_ret;exact⟨aQ (by simp[dB];omega),by exact .alloc (.refl _) _⟩
    go_enter func75,ntmps75;go_wp2;go_ret;exact⟨aQ (by simp[dB];omega),by exact .alloc (.refl _) _⟩
   go_enter func75,ntmps75;go_wp2;go_ret;exact⟨aQ (by simp[dB];omega),by exact .alloc (.refl _) _⟩
  go_enter func75,ntmps75;go_wp2;go_ret;exact⟨aQ (by simp[dB];omega),by exact .alloc (.refl _) _⟩
 go_enter func75,ntmps75;go_wp2;go_ret;exact⟨aQ (by simp[dB];omega),by exact .alloc (.refl _) _⟩
theorem aL3 (i p a:Int)(w:World):U 51 #[bS i p a] w (O (.bool (dB i p a)) w):=by
 by_cases c1:0≤i
 ·by_cases c2:i≤9999
  ·by_cases c3:0≤p
   ·by_cases c4:p≤9999
    ·by_cases c5:i≤a
     ·by_cases c6:a≤9999
      ·go_enter func51,ntmps51;go_wp2_with go_in;go_ret;exact⟨aQ (by simp[dB];omega),by exact .alloc (.refl _) _⟩
      go_enter func51,ntmps51;go_wp2_with go_in;go_ret;exact⟨aQ (by simp[dB];omega),by exact .alloc (.refl _) _⟩
     go_enter func51,ntmps51;go_wp2_with go_in;go_ret;exact⟨aQ (by simp[dB];omega),by exact .alloc (.refl _) _⟩
    go_enter func51,ntmps51;go_wp2_with go_in;go_ret;exact⟨aQ (by simp[dB];omega),by exact .alloc (.refl _) _⟩
   go_enter func51,ntmps51;go_wp2_with go_in;go_ret;exact⟨aQ (by simp[dB];omega),by exact .alloc (.refl _) _⟩
  go_enter func51,ntmps51;go_wp2_with go_in;go_ret;exact⟨aQ (by simp[dB];omega),by exact .alloc (.refl _) _⟩
 go_enter func51,ntmps51;go_wp2_with go_in;go_ret;exact⟨aQ (by simp[dB];omega),by exact .alloc (.refl _) _⟩
theorem aMr (f s p c m:Int)(w:World)(h:bN f s p c=true)(h0:0≤m)(h1:m≤9999):U 200 #[aS f s p c,m] w (O (I (fE f s m)) w):=by
 obtain⟨a1,a2,a3,a4,a5,a6,a7,a8⟩:=gZ h;have HT:Hid (∀w,U 73 #[aS f s p c] w (O (.bool true) w)):=fun w=>by rw[←h];exact aBi f s p c w
 have HB:=xQ (jC (m:=m) a1 a3 h1);clear h;by_cases hm:m≤f
 ·have hf:Hid (fE f s m=0):=if_pos hm;go_enter func200,ntmps200;go_wp2_with fail;refine Z (HT _) fun w1 a=>?_
  have b:=a.cells.1;go_wp2;go_ret;exact⟨dO hf.out.symm,by exact .trans (.alloc (.refl _) _) a⟩
 have hf:Hid (fE f s m=(m-f+s-1)/s):=if_neg hm;go_enter func200,ntmps200;go_wp2_with fail;refine Z (HT _) fun w1 a=>?_
 have b:=a.cells.1;go_wp2;go_ret;exact⟨dO hf.out.symm,by exact .trans (.alloc (.refl _) _) a⟩
theorem aLh (f s p c m:Int)(w:World)(h:bN f s p c=true)(h0:0≤m)(h1:m≤9999):U 174 #[aS f s p c,m] w (O (I (fE f s m)) w):=by
 obtain⟨a1,a2,a3,a4,a5,a6,a7,a8⟩:=gZ h;have HT:Hid (∀w,U 49 #[aS f s p c] w (O (.bool true) w)):=fun w=>by rw[←h];exact aAn f s p c w
 have hf:=xQ (aC3 (f:=f) (m:=m) a3);clear h;go_enter func174,ntmps174;go_wp2_with (first|(go_at_call 49;refine Z (HT _) fun w1 a=>?_;have b:=a.cells.1)|go_in);all_goals go_ret
 all_goals exact⟨dO (by rw[←hf.out];congr 1;omega),by exact .trans (.alloc (.refl _) _) a⟩
theorem aPt (f s p c m:Int)(w:World)(h:bN f s p c=true)(h0:0≤m)(h1:m≤9999):U 166 #[aS f s p c,m] w (O (I (nA f s p c m)) w):=by
 obtain⟨a1,a2,a3,a4,a5,a6,a7,a8⟩:=gZ h;have HT:Hid (∀w,U 73 #[aS f s p c] w (O (.bool true) w)):=fun w=>by rw[←h];exact aBi f s p c w
 obtain⟨q,hq⟩: ∃q,q=fE f s (m%1440):=⟨_,rfl⟩
 have g:0≤q∧q≤9999:=by rw[hq];exact jC a1 a3 (by omega)
 obtain⟨q2,d⟩: ∃q,q=fE f s m:=⟨_,rfl⟩
 have j:0≤q2∧q2≤9999:=by rw[d];exact jC a1 a3 (by omega)
 have HF:Hid (∀w,U 200 #[aS f s p c,(m%1440:Int)] w (O (I q) w)):=fun w=>by rw[hq];exact aMr f s p c _ w h (by omega) (by omega)
 have k:Hid (∀w,U 200 #[aS f s p c,m] w (O (I q2) w)):=fun w=>by rw[d];exact aMr f s p c _ w h (by omega) (by omega)
 have b:nA f s p c m=m/1440*c+min (q*p) c:=by rw[hq];rfl
 rw[b];obtain⟨b1,b2⟩:=tU g.1 g.2 a5 a6;have b3:0≤m/1440*c:=Int.mul_nonneg (by omega) a7;have b4:m/1440*c≤6*99:=Int.mul_le_mul (by omega) a8 a7 (by omega);clear hq d b h;go_enter func166,ntmps166;go_wp2_with fail;refine Z (HT _) fun w1 a=>?_
 have n:(w:Nat)<w1:=aQm (by simp) a.sz;have e0:w1.cell? ⟨w,0,none⟩=some (I f):=by rw[a.cells.1 _ _ (by simp)];simp
 have e1:w1.cell? ⟨w,1,none⟩=some (I s):=by rw[a.cells.1 _ _ (by simp)];simp
 have e2:w1.cell? ⟨w,2,none⟩=some (I p):=by rw[a.cells.1 _ _ (by simp)];simp
 have e3:w1.cell? ⟨w,3,none⟩=some (I c):=by rw[a.cells.1 _ _ (by simp)];simp
 go_wp2_with fail;have hq:=aT2 m 1440 ⟨h0,by omega,by omega⟩;have hr:=IntWalk.rem_in m 1440 h0;have i:IntKind.i64.wrap (m%1440)=m%1440:=aQp _ (by omega);have k1:IntKind.i64.wrap (q*p)=q*p:=aQp _ (by omega);have k2:IntKind.i64.wrap (m/1440*c)=m/1440*c:=aQp _ (by omega);have k3:IntKind.i64.wrap (m/1440*c+c)=m/1440*c+c:=aQp _ (by omega);have k4:IntKind.i64.wrap (m/1440*c+q*p)=m/1440*c+q*p:=aQp _ (by omega)
 go_region_held3 (fun w'=>w'.cell? ⟨w,0,none⟩=some (I f)∧w'.cell? ⟨w,1,none⟩=some (I s)∧w'.cell? ⟨w,2,none⟩=some (I p)∧w'.cell? ⟨w,3,none⟩=some (I c)) (go_keep)
  ((go_at_call 200;refine Z (HF _) fun w2 h2=>?_;(try replace h2:=h2.of_drew);have l:=h2.cells.1;have o:(w:Nat)<w2:=aQm (by assumption) h2.sz))
 all_goals clear hq hr i k1 k2 k3 k4
 all_goals go_wp2
 all_goals go_ret
 all_goals exact⟨dO (by first|omega|(rw[aQp _ (by omega)];omega)),by exact .trans (.trans (.alloc (.refl _) _) a) h2⟩
theorem aPd (f s p c m:Int)(w:World)(h:bN f s p c=true)(h0:0≤m)(h1:m≤9999):U 145 #[aS f s p c,m] w (O (I (nA f s p c m)) w):=by
 obtain⟨a1,a2,a3,a4,a5,a6,a7,a8⟩:=gZ h;have HT:Hid (∀w,U 49 #[aS f s p c] w (O (.bool true) w)):=fun w=>by rw[←h];exact aAn f s p c w
 obtain⟨q,hq⟩: ∃q,q=fE f s (m%1440):=⟨_,rfl⟩
 have g:0≤q∧q≤9999:=by rw[hq];exact jC a1 a3 (by omega)
 obtain⟨q2,d⟩: ∃q,q=fE f s m:=⟨_,rfl⟩
 have k:0≤q2∧q2≤9999:=by rw[d];exact jC a1 a3 (by omega)
 have HF:Hid (∀w,U 174 #[aS f s p c,(m%1440:Int)] w (O (I q) w)):=fun w=>by rw[hq];exact aLh f s p c _ w h (by omega) (by omega)
 have i:Hid (∀w,U 174 #[aS f s p c,m] w (O (I q2) w)):=fun w=>by rw[d];exact aLh f s p c _ w h (by omega) (by omega)
 have b:nA f s p c m=m/1440*c+min (q*p) c:=by rw[hq];rfl
 rw[b];obtain⟨b1,b2⟩:=tU g.1 g.2 a5 a6;have b3:0≤m/1440*c:=Int.mul_nonneg (by omega) a7;have b4:m/1440*c≤6*99:=Int.mul_le_mul (by omega) a8 a7 (by omega);clear hq d b h;go_enter func145,ntmps145;go_wp2_with fail;refine Z (i _) fun w1 a=>?_
 have n:(w:Nat)<w1:=aQm (by simp) a.sz;have e0:w1.cell? ⟨w,0,none⟩=some (I f):=by rw[a.cells.1 _ _ (by simp)];simp
 have e1:w1.cell? ⟨w,1,none⟩=some (I s):=by rw[a.cells.1 _ _ (by simp)];simp
 have e2:w1.cell? ⟨w,2,none⟩=some (I p):=by rw[a.cells.1 _ _ (by simp)];simp
 have e3:w1.cell? ⟨w,3,none⟩=some (I c):=by rw[a.cells.1 _ _ (by simp)];simp
 go_wp2_with fail;have hq:=aT2 m 1440 ⟨h0,by omega,by omega⟩;have hr:=IntWalk.rem_in m 1440 h0;have j:IntKind.i64.wrap (m%1440)=m%1440:=aQp _ (by omega);have k1:IntKind.i64.wrap (q*p)=q*p:=aQp _ (by omega);have k2:IntKind.i64.wrap (m/1440*c)=m/1440*c:=aQp _ (by omega);have k3:IntKind.i64.wrap (m/1440*c+c)=m/1440*c+c:=aQp _ (by omega);have k4:IntKind.i64.wrap (m/1440*c+q*p)=m/1440*c+q*p:=aQp _ (by omega)
 go_region_held3 (fun w'=>w'.cell? ⟨w,0,none⟩=some (I f)∧w'.cell? ⟨w,1,none⟩=some (I s)∧w'.cell? ⟨w,2,none⟩=some (I p)∧w'.cell? ⟨w,3,none⟩=some (I c)) (go_keep)
  ((go_at_call 174;refine Z (HF _) fun w2 h2=>?_;(try replace h2:=h2.of_drew);have l:=h2.cells.1;have o:(w:Nat)<w2:=aQm (by assumption) h2.sz))
 all_goals clear hq hr j k1 k2 k3 k4
 all_goals go_wp2
 all_goals go_ret
 all_goals exact⟨dO (by first|omega|(rw[aQp _ (by omega)];omega)),by exact .trans (.trans (.alloc (.refl _) _) a) h2⟩
theorem wX (f s p c i pd a now:Int)(w:World)(h:bN f s p c=true)(h2:dB i pd a=true)(h3:a≤now)(h4:now≤9999):U 130 #[aS f s p c,bS i pd a,now] w (O (I (cA f s p c i pd a now)) w):=by
 obtain⟨b1,b2,b3,b4,b5,b6⟩:=fI h2;have HT:Hid (∀w,U 73 #[aS f s p c] w (O (.bool true) w)):=fun w=>by rw[←h];exact aBi f s p c w
 have HS:Hid (∀w,U 75 #[bS i pd a] w (O (.bool true) w)):=fun w=>by rw[←h2];exact aMf i pd a w
 obtain⟨q,hq⟩: ∃q,q=nA f s p c (now-i):=⟨_,rfl⟩
 have o:0≤q∧q≤693:=by rw[hq];exact pA h (by omega) (by omega)
 have HF:Hid (∀w,U 166 #[aS f s p c,(now-i:Int)] w (O (I q) w)):=fun w=>by rw[hq];exact aPt f s p c _ w h (by omega) (by omega)
 have j:cA f s p c i pd a now=max (q-pd) 0:=by rw[hq];simp[cA,h,h2,h3,h4]
 rw[j];clear hq j h h2;go_enter func130,ntmps130;go_wp2_with fail;refine Z (HT _) fun w1 b=>?_
 have k:(w:Nat)<w1:=aQm (by simp;omega) b.sz;have l:w.heap.size+1<w1.heap.size:=aQm (by simp) b.sz;have e0:w1.cell? ⟨w,0,none⟩=some (I f):=by rw[b.cells.1 _ _ (by simp;omega)];simp
 have e1:w1.cell? ⟨w,1,none⟩=some (I s):=by rw[b.cells.1 _ _ (by simp;omega)];simp
 have e2:w1.cell? ⟨w,2,none⟩=some (I p):=by rw[b.cells.1 _ _ (by simp;omega)];simp
 have e3:w1.cell? ⟨w,3,none⟩=some (I c):=by rw[b.cells.1 _ _ (by simp;omega)];simp
 have g0:w1.cell? ⟨w.heap.size+1,0,none⟩=some (I i):=by rw[b.cells.1 _ _ (by simp)];simp
 have g1:w1.cell? ⟨w.heap.size+1,1,none⟩=some (I pd):=by rw[b.cells.1 _ _ (by simp)];simp
 have g2:w1.cell? ⟨w.heap.size+1,2,none⟩=some (I a):=by rw[b.cells.1 _ _ (by simp)];simp
 go_wp2_with (first|(go_at_call 75;refine Z (HS _) fun w2 g=>?_;have m:=g.cells.1;have r:(w:Nat)<w2:=aQm k g.sz;have t:w.heap.size+1<w2.heap.size:=aQm l g.sz)|go_in);have k1:IntKind.i64.wrap (now-i)=now-i:=aQp _ (by omega);have k2:IntKind.i64.wrap (q-pd)=q-pd:=aQp _ (by omega)
 go_region_held3 (fun w'=>w'.cell? ⟨w,0,none⟩=some (I f)∧w'.cell? ⟨w,1,none⟩=some (I s)∧w'.cell? ⟨w,2,none⟩=some (I p)∧w'.cell? ⟨w,3,none⟩=some (I c)∧w'.cell? ⟨w.heap.size+1,0,none⟩=some (I i)∧w'.cell? ⟨w.heap.size+1,1,none⟩=some (I pd)) (go_keep)
  ((go_at_call 166;refine Z (HF _) fun w3 d=>?_;(try replace d:=d.of_drew);have n:=d.cells.1;have u:(w:Nat)<w3:=aQm (by assumption) d.sz;have v:w.heap.size+1<w3.heap.size:=aQm (by assumption) d.sz))
 all_goals clear k1 k2
 all_goals go_wp2
 all_goals go_ret
 all_goals exact⟨dO (by omega),by exact .trans (.trans (.trans (.alloc (.alloc (.refl _) _) _) b) g) d⟩
theorem aAp (f s p c i pd a now:Int)(w:World)(h:bN f s p c=true)(h2:dB i pd a=true)(h3:a≤now)(h4:now≤9999):U 113 #[aS f s p c,bS i pd a,now] w (O (I (cA f s p c i pd a now)) w):=by
 obtain⟨b1,b2,b3,b4,b5,b6⟩:=fI h2;have HT:Hid (∀w,U 49 #[aS f s p c] w (O (.bool true) w)):=fun w=>by rw[←h];exact aAn f s p c w
 have HS:Hid (∀w,U 51 #[bS i pd a] w (O (.bool true) w)):=fun w=>by rw[←h2];exact aL3 i pd a w
 obtain⟨q,hq⟩: ∃q,q=nA f s p c (now-i):=⟨_,rfl⟩
 have o:0≤q∧q≤693:=by rw[hq];exact pA h (by omega) (by omega)
 have HF:Hid (∀w,U 145 #[aS f s p c,(now-i:Int)] w (O (I q) w)):=fun w=>by rw[hq];exact aPd f s p c _ w h (by omega) (by omega)
 have j:cA f s p c i pd a now=max (q-pd) 0:=by rw[hq];simp[cA,h,h2,h3,h4]
 rw[j];clear hq j h h2;go_enter func113,ntmps113;go_wp2_with fail;refine Z (HT _) fun w1 b=>?_
 have k:(w:Nat)<w1:=aQm (by simp;omega) b.sz;have l:w.heap.size+1<w1.heap.size:=aQm (by simp) b.sz;have e0:w1.cell? ⟨w,0,none⟩=some (I f):=by rw[b.cells.1 _ _ (by simp;omega)];simp
 have e1:w1.cell? ⟨w,1,none⟩=some (I s):=by rw[b.cells.1 _ _ (by simp;omega)];simp
 have e2:w1.cell? ⟨w,2,none⟩=some (I p):=by rw[b.cells.1 _ _ (by simp;omega)];simp
 have e3:w1.cell? ⟨w,3,none⟩=some (I c):=by rw[b.cells.1 _ _ (by simp;omega)];simp
 have g0:w1.cell? ⟨w.heap.size+1,0,none⟩=some (I i):=by rw[b.cells.1 _ _ (by simp)];simp
 have g1:w1.cell? ⟨w.heap.size+1,1,none⟩=some (I pd):=by rw[b.cells.1 _ _ (by simp)];simp
 have g2:w1.cell? ⟨w.heap.size+1,2,none⟩=some (I a):=by rw[b.cells.1 _ _ (by simp)];simp
 go_wp2_with (first|(go_at_call 51;refine Z (HS _) fun w2 g=>?_;have m:=g.cells.1;have r:(w:Nat)<w2:=aQm k g.sz;have t:w.heap.size+1<w2.heap.size:=aQm l g.sz)|go_in);have k1:IntKind.i64.wrap (now-i)=now-i:=aQp _ (by omega);have k2:IntKind.i64.wrap (q-pd)=q-pd:=aQp _ (by omega)
 go_region_held3 (fun w'=>w'.cell? ⟨w,0,none⟩=some (I f)∧w'.cell? ⟨w,1,none⟩=some (I s)∧w'.cell? ⟨w,2,none⟩=some (I p)∧w'.cell? ⟨w,3,none⟩=some (I c)∧w'.cell? ⟨w.heap.size+1,0,none⟩=some (I i)∧w'.cell? ⟨w.heap.size+1,1,none⟩=some (I pd)) (go_keep)
  ((go_at_call 145;refine Z (HF _) fun w3 d=>?_;(try replace d:=d.of_drew);have n:=d.cells.1;have u:(w:Nat)<w3:=aQm (by assumption) d.sz;have v:w.heap.size+1<w3.heap.size:=aQm (by assumption) d.sz))
 all_goals clear k1 k2
 all_goals go_wp2
 all_goals go_ret
 all_goals exact⟨dO (by omega),by exact .trans (.trans (.trans (.alloc (.alloc (.refl _) _) _) b) g) d⟩
theorem aMm (f s p c i pd a now d1 d2:Int)(w:World)(h0:0≤d1)(h2:0≤d2)(h3:a≤now)(h4:now≤9999)(h5:0≤a)(t1:(d1==0)=true)
  (HA:Hid (∀w,U 130 #[aS f s p c,bS i pd a,now] w (O (I d1) w)))
  (HB:Hid (∀w,U 130 #[aS f s p c,bS i pd a,a] w (O (I d2) w))):
  U 135 #[aS f s p c,bS i pd a,now] w (O (.bool true) w):=by
 go_enter func135,ntmps135;go_wp2_with fail;refine Z (HA _) fun w1 b=>?_
 have g:(w:Nat)<w1:=aQm (by simp;omega) b.sz;have h:w.heap.size+1<w1.heap.size:=aQm (by simp) b.sz;have d:=b.cells.1;go_wp2;go_ret;exact⟨aQ (by first|rfl|(simp;omega)),by exact .trans (.alloc (.alloc (.refl _) _) _) b⟩
theorem aMl (f s p c i pd a now d1 d2:Int)(w:World)(h0:0≤d1)(h2:0≤d2)(h3:a≤now)(h4:now≤9999)(h5:0≤a)(t1:(d1==0)=false)(t2:15<now-a)(t3:(d2==0)=true)
  (HA:Hid (∀w,U 130 #[aS f s p c,bS i pd a,now] w (O (I d1) w)))
  (HB:Hid (∀w,U 130 #[aS f s p c,bS i pd a,a] w (O (I d2) w))):
  U 135 #[aS f s p c,bS i pd a,now] w (O (.bool false) w):=by
 go_enter func135,ntmps135;go_wp2_with fail;refine Z (HA _) fun w1 b=>?_
 have g:(w:Nat)<w1:=aQm (by simp;omega) b.sz;have h:w.heap.size+1<w1.heap.size:=aQm (by simp) b.sz;have d:=b.cells.1;go_wp2;go_ret;exact⟨aQ (by first|rfl|(simp;omega)),by exact .trans (.alloc (.alloc (.refl _) _) _) b⟩
theorem aMk (f s p c i pd a now d1 d2:Int)(w:World)(h0:0≤d1)(h2:0≤d2)(h3:a≤now)(h4:now≤9999)(h5:0≤a)(t1:(d1==0)=false)(t2:now-a≤15)(t3:(d2==0)=true)
  (HA:Hid (∀w,U 130 #[aS f s p c,bS i pd a,now] w (O (I d1) w)))
  (HB:Hid (∀w,U 130 #[aS f s p c,bS i pd a,a] w (O (I d2) w))):
  U 135 #[aS f s p c,bS i pd a,now] w (O (.bool true) w):=by
 go_enter func135,ntmps135;go_wp2_with fail;refine Z (HA _) fun w1 b=>?_
 have g:(w:Nat)<w1:=aQm (by simp;omega) b.sz;have h:w.heap.size+1<w1.heap.size:=aQm (by simp) b.sz;have j:=b.cells.1;go_wp2_with fail;refine Z (HB _) fun w2 d=>?_
 have l:=aQm g d.sz;have m:=aQm h d.sz;have k:=d.cells.1;go_wp2;go_ret;exact⟨aQ (by first|rfl|(simp;omega)),by exact .trans (.trans (.alloc (.alloc (.refl _) _) _) b) d⟩
theorem aMj (f s p c i pd a now d1 d2:Int)(w:World)(h0:0≤d1)(h2:0≤d2)(h3:a≤now)(h4:now≤9999)(h5:0≤a)(t1:(d1==0)=false)(t2:15<now-a)(t3:(d2==0)=false)
  (HA:Hid (∀w,U 130 #[aS f s p c,bS i pd a,now] w (O (I d1) w)))
  (HB:Hid (∀w,U 130 #[aS f s p c,bS i pd a,a] w (O (I d2) w))):
  U 135 #[aS f s p c,bS i pd a,now] w (O (.bool false) w):=by
 go_enter func135,ntmps135;go_wp2_with fail;refine Z (HA _) fun w1 b=>?_
 have g:(w:Nat)<w1:=aQm (by simp;omega) b.sz;have h:w.heap.size+1<w1.heap.size:=aQm (by simp) b.sz;have d:=b.cells.1;go_wp2;go_ret;exact⟨aQ (by first|rfl|(simp;omega)),by exact .trans (.alloc (.alloc (.refl _) _) _) b⟩
theorem aMi (f s p c i pd a now d1 d2:Int)(w:World)(h0:0≤d1)(h2:0≤d2)(h3:a≤now)(h4:now≤9999)(h5:0≤a)(t1:(d1==0)=false)(t2:now-a≤15)(t3:(d2==0)=false)
  (HA:Hid (∀w,U 130 #[aS f s p c,bS i pd a,now] w (O (I d1) w)))
  (HB:Hid (∀w,U 130 #[aS f s p c,bS i pd a,a] w (O (I d2) w))):
  U 135 #[aS f s p c,bS i pd a,now] w (O (.bool false) w):=by
 go_enter func135,ntmps135;go_wp2_with fail;refine Z (HA _) fun w1 b=>?_
 have g:(w:Nat)<w1:=aQm (by simp;omega) b.sz;have h:w.heap.size+1<w1.heap.size:=aQm (by simp) b.sz;have j:=b.cells.1;go_wp2_with fail;refine Z (HB _) fun w2 d=>?_
 have l:=aQm g d.sz;have m:=aQm h d.sz;have k:=d.cells.1;go_wp2;go_ret;exact⟨aQ (by first|rfl|(simp;omega)),by exact .trans (.trans (.alloc (.alloc (.refl _) _) _) b) d⟩
theorem aPp (f s p c i pd a now:Int)(w:World)(h:bN f s p c=true)(h2:dB i pd a=true)(h3:a≤now)(h4:now≤9999):U 135 #[aS f s p c,bS i pd a,now] w (O (.bool (lN f s p c i pd a now)) w):=by
 obtain⟨b1,b2,b3,b4,b5,b6⟩:=fI h2;have e1:0≤cA f s p c i pd a now:=by unfold cA;rw[if_pos (by simp[h,h2,h3,h4])];omega
 have e2:0≤cA f s p c i pd a a:=by unfold cA;rw[if_pos (by simp[h,h2];omega)];omega
 have hr:lN f s p c i pd a now=(decide (cA f s p c i pd a now=0) || (decide (now-a≤15)&&decide (cA f s p c i pd a a=0))):=by simp[lN,e1]
 have hA:=fun w=>wX f s p c i pd a now w h h2 h3 h4
 have hB:=fun w=>wX f s p c i pd a a w h h2 (by omega) b6
 rw[hr];generalize cA f s p c i pd a now=d1 at*;generalize cA f s p c i pd a a=d2 at*;by_cases t1:d1=0
 ·rw[show(decide (d1=0) || (decide (now-a≤15)&&decide (d2=0)))=true by simp[t1]];exact aMm f s p c i pd a now d1 d2 w e1 e2 h3 h4 (by omega) (by simp[t1]) hA hB
 by_cases t2:now-a≤15
 ·by_cases t3:d2=0
  ·rw[show(decide (d1=0) || (decide (now-a≤15)&&decide (d2=0)))=true by simp[t2,t3]];exact aMk f s p c i pd a now d1 d2 w e1 e2 h3 h4 (by omega) (by simp[t1]) t2 (by simp[t3]) hA hB
  rw[show(decide (d1=0) || (decide (now-a≤15)&&decide (d2=0)))=false by simp[t1,t3]];exact aMi f s p c i pd a now d1 d2 w e1 e2 h3 h4 (by omega) (by simp[t1]) t2 (by simp[t3]) hA hB
 by_cases t3:d2=0
 ·rw[show(decide (d1=0) || (decide (now-a≤15)&&decide (d2=0)))=false by simp[t1,t2]];exact aMl f s p c i pd a now d1 d2 w e1 e2 h3 h4 (by omega) (by simp[t1]) (by omega) (by simp[t3]) hA hB
 rw[show(decide (d1=0) || (decide (now-a≤15)&&decide (d2=0)))=false by simp[t1,t2]];exact aMj f s p c i pd a now d1 d2 w e1 e2 h3 h4 (by omega) (by simp[t1]) (by omega) (by simp[t3]) hA hB
theorem aLc (f s p c i pd a now d1 d2:Int)(w:World)(h0:0≤d1)(h2:0≤d2)(h3:a≤now)(h4:now≤9999)(h5:0≤a)(t1:(d1==0)=true)
  (HA:Hid (∀w,U 113 #[aS f s p c,bS i pd a,now] w (O (I d1) w)))
  (HB:Hid (∀w,U 113 #[aS f s p c,bS i pd a,a] w (O (I d2) w))):
  U 108 #[aS f s p c,bS i pd a,now] w (O (.bool true) w):=by
 go_enter func108,ntmps108;go_wp2_with fail;refine Z (HA _) fun w1 b=>?_
 have g:(w:Nat)<w1:=aQm (by simp;omega) b.sz;have h:w.heap.size+1<w1.heap.size:=aQm (by simp) b.sz;have j:=b.cells.1;go_wp2_with fail;refine Z (HA _) fun w2 d=>?_
 have l:=aQm g d.sz;have m:=aQm h d.sz;have k:=d.cells.1;go_wp2;go_ret;exact⟨aQ (by first|rfl|(simp;omega)),by exact .trans (.trans (.alloc (.alloc (.refl _) _) _) b) d⟩
theorem aLb (f s p c i pd a now d1 d2:Int)(w:World)(h0:0≤d1)(h2:0≤d2)(h3:a≤now)(h4:now≤9999)(h5:0≤a)(t1:(d1==0)=false)(t2:15<now-a)(t3:(d2==0)=true)
  (HA:Hid (∀w,U 113 #[aS f s p c,bS i pd a,now] w (O (I d1) w)))
  (HB:Hid (∀w,U 113 #[aS f s p c,bS i pd a,a] w (O (I d2) w))):
  U 108 #[aS f s p c,bS i pd a,now] w (O (.bool false) w):=by
 go_enter func108,ntmps108;go_wp2_with fail;refine Z (HA _) fun w1 b=>?_
 have h:(w:Nat)<w1:=aQm (by simp;omega) b.sz;have j:w.heap.size+1<w1.heap.size:=aQm (by simp) b.sz;have m:=b.cells.1;go_wp2_with fail;refine Z (HA _) fun w2 d=>?_
 have k:=aQm h d.sz;have l:=aQm j d.sz;have n:=d.cells.1;go_wp2_with fail;refine Z (HB _) fun w3 g=>?_
 have q:=aQm k g.sz;have r:=aQm l g.sz;have o:=g.cells.1;go_wp2;go_ret;exact⟨aQ (by first|rfl|(simp;omega)),by exact .trans (.trans (.trans (.alloc (.alloc (.refl _) _) _) b) d) g⟩
theorem aLa (f s p c i pd a now d1 d2:Int)(w:World)(h0:0≤d1)(h2:0≤d2)(h3:a≤now)(h4:now≤9999)(h5:0≤a)(t1:(d1==0)=false)(t2:now-a≤15)(t3:(d2==0)=true)
  (HA:Hid (∀w,U 113 #[aS f s p c,bS i pd a,now] w (O (I d1) w)))
  (HB:Hid (∀w,U 113 #[aS f s p c,bS i pd a,a] w (O (I d2) w))):
  U 108 #[aS f s p c,bS i pd a,now] w (O (.bool true) w):=by
 go_enter func108,ntmps108;go_wp2_with fail;refine Z (HA _) fun w1 b=>?_
 have h:(w:Nat)<w1:=aQm (by simp;omega) b.sz;have j:w.heap.size+1<w1.heap.size:=aQm (by simp) b.sz;have m:=b.cells.1;go_wp2_with fail;refine Z (HA _) fun w2 d=>?_
 have k:=aQm h d.sz;have l:=aQm j d.sz;have n:=d.cells.1;go_wp2_with fail;refine Z (HB _) fun w3 g=>?_
 have q:=aQm k g.sz;have r:=aQm l g.sz;have o:=g.cells.1;go_wp2;go_ret;exact⟨aQ (by first|rfl|(simp;omega)),by exact .trans (.trans (.trans (.alloc (.alloc (.refl _) _) _) b) d) g⟩
theorem aL9 (f s p c i pd a now d1 d2:Int)(w:World)(h0:0≤d1)(h2:0≤d2)(h3:a≤now)(h4:now≤9999)(h5:0≤a)(t1:(d1==0)=false)(t2:15<now-a)(t3:(d2==0)=false)
  (HA:Hid (∀w,U 113 #[aS f s p c,bS i pd a,now] w (O (I d1) w)))
  (HB:Hid (∀w,U 113 #[aS f s p c,bS i pd a,a] w (O (I d2) w))):
  U 108 #[aS f s p c,bS i pd a,now] w (O (.bool false) w):=by
 go_enter func108,ntmps108;go_wp2_with fail;refine Z (HA _) fun w1 b=>?_
 have h:(w:Nat)<w1:=aQm (by simp;omega) b.sz;have j:w.heap.size+1<w1.heap.size:=aQm (by simp) b.sz;have m:=b.cells.1;go_wp2_with fail;refine Z (HA _) fun w2 d=>?_
 have k:=aQm h d.sz;have l:=aQm j d.sz;have n:=d.cells.1;go_wp2_with fail;refine Z (HB _) fun w3 g=>?_
 have q:=aQm k g.sz;have r:=aQm l g.sz;have o:=g.cells.1;go_wp2;go_ret;exact⟨aQ (by first|rfl|(simp;omega)),by exact .trans (.trans (.trans (.alloc (.alloc (.refl _) _) _) b) d) g⟩
theorem aL8 (f s p c i pd a now d1 d2:Int)(w:World)(h0:0≤d1)(h2:0≤d2)(h3:a≤now)(h4:now≤9999)(h5:0≤a)(t1:(d1==0)=false)(t2:now-a≤15)(t3:(d2==0)=false)
  (HA:Hid (∀w,U 113 #[aS f s p c,bS i pd a,now] w (O (I d1) w)))
  (HB:Hid (∀w,U 113 #[aS f s p c,bS i pd a,a] w (O (I d2) w))):
  U 108 #[aS f s p c,bS i pd a,now] w (O (.bool false) w):=by
 go_enter func108,ntmps108;go_wp2_with fail;refine Z (HA _) fun w1 b=>?_
 have h:(w:Nat)<w1:=aQm (by simp;omega) b.sz;have j:w.heap.size+1<w1.heap.size:=aQm (by simp) b.sz;have m:=b.cells.1;go_wp2_with fail;refine Z (HA _) fun w2 d=>?_
 have k:=aQm h d.sz;have l:=aQm j d.sz;have n:=d.cells.1;go_wp2_with fail;refine Z (HB _) fun w3 g=>?_
 have q:=aQm k g.sz;have r:=aQm l g.sz;have o:=g.cells.1;go_wp2;go_ret;exact⟨aQ (by first|rfl|(simp;omega)),by exact .trans (.trans (.trans (.alloc (.alloc (.refl _) _) _) b) d) g⟩
theorem aPb (f s p c i pd a now:Int)(w:World)(h:bN f s p c=true)(h2:dB i pd a=true)(h3:a≤now)(h4:now≤9999):U 108 #[aS f s p c,bS i pd a,now] w (O (.bool (lN f s p c i pd a now)) w):=by
 obtain⟨b1,b2,b3,b4,b5,b6⟩:=fI h2;have e1:0≤cA f s p c i pd a now:=by unfold cA;rw[if_pos (by simp[h,h2,h3,h4])];omega
 have e2:0≤cA f s p c i pd a a:=by unfold cA;rw[if_pos (by simp[h,h2];omega)];omega
 have hr:lN f s p c i pd a now=(decide (cA f s p c i pd a now=0) || (decide (now-a≤15)&&decide (cA f s p c i pd a a=0))):=by simp[lN,e1]
 have hA:=fun w=>aAp f s p c i pd a now w h h2 h3 h4
 have hB:=fun w=>aAp f s p c i pd a a w h h2 (by omega) b6
 rw[hr];generalize cA f s p c i pd a now=d1 at*;generalize cA f s p c i pd a a=d2 at*;by_cases t1:d1=0
 ·rw[show(decide (d1=0) || (decide (now-a≤15)&&decide (d2=0)))=true by simp[t1]];exact aLc f s p c i pd a now d1 d2 w e1 e2 h3 h4 (by omega) (by simp[t1]) hA hB
 by_cases t2:now-a≤15
 ·by_cases t3:d2=0
  ·rw[show(decide (d1=0) || (decide (now-a≤15)&&decide (d2=0)))=true by simp[t2,t3]];exact aLa f s p c i pd a now d1 d2 w e1 e2 h3 h4 (by omega) (by simp[t1]) t2 (by simp[t3]) hA hB
  rw[show(decide (d1=0) || (decide (now-a≤15)&&decide (d2=0)))=false by simp[t1,t3]];exact aL8 f s p c i pd a now d1 d2 w e1 e2 h3 h4 (by omega) (by simp[t1]) t2 (by simp[t3]) hA hB
 by_cases t3:d2=0
 ·rw[show(decide (d1=0) || (decide (now-a≤15)&&decide (d2=0)))=false by simp[t1,t2]];exact aLb f s p c i pd a now d1 d2 w e1 e2 h3 h4 (by omega) (by simp[t1]) (by omega) (by simp[t3]) hA hB
 rw[show(decide (d1=0) || (decide (now-a≤15)&&decide (d2=0)))=false by simp[t1,t2]];exact aL9 f s p c i pd a now d1 d2 w e1 e2 h3 h4 (by omega) (by simp[t1]) (by omega) (by simp[t3]) hA hB
end
end Go.Proofs.YtbgkcehffiogcacGreatDoor
