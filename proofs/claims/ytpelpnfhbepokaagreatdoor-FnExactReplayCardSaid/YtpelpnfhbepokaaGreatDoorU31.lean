/-
  Texts of this proof, packed (@packed).
-/
import Derived.Test.YtpelpnfhbepokaaGreatDoorU12
import Derived.Test.YtpelpnfhbepokaaGreatDoorU20
import Derived.Test.YtpelpnfhbepokaaGreatDoorU25
import Derived.Test.YtpelpnfhbepokaaGreatDoorU26
import Derived.Test.YtpelpnfhbepokaaGreatDoorU30
namespace Go.Proofs.YtpelpnfhbepokaaGreatDoor
open Go.RowKit
set_option linter.unusedVariables false
set_option linter.unusedSimpArgs false
set_option maxHeartbeats 8000000
set_option maxRecDepth 100000
theorem aHx (w:World)(gA:Nat)(aA aB b g aE aG aD aF id a:Int)(p:OA)(n cap:Nat)(q:OA)(m c2:Nat)(ys:List Int)(h0:a<0)(hA:Hid (Blk w gA aL #[aA,aB,.slice (p) n cap,b,g,aE,aG,aD,aF,.slice (q) m c2]))
  (HS:xC 96 #[aH aA aB p n cap,id] w fun w' e w''=> ∃q c,e= .returned (.tuple #[aH aA aB q n c,a])∧w''.ownsRow w'.heap.size TI 1 (.slice q n c) n (ivs ys)∧Ext w' w''):
  Calls Tryz.prog 46 #[.pointer (some ⟨gA,0,none⟩),id] w fun e w'=>e= .returned (.tuple #[(-1:Int),.bool false])∧Ext w w':=by
 go_enter Tryz.func46,Tryz.ntmps46;obtain⟨a0,a1,a2,a3,a4,a5,a6,a7,a8,a9⟩:=hA.out.ten;have h:=hA.out.lt;go_wp2_with fail;clear a0 a1 a2 a3 a4 a5 a6 a7 a8 a9;refine(HS _ (Ext.refl _)).mono ?_;rintro e w1 ⟨p1,c1,rfl,d,f⟩;have M1:=((Mem.start w).call f d)
 clear f d;have hX:=xQ M1.ext;go_wp2;exact bodyPost_ret (v:= .tuple #[(-1:Int),.bool false]) (by simp[results,Tryz.results46,go_sem, *]) rfl ⟨rfl,by have:=hX.out;exact xE⟩
theorem aF4 (w0 w:World)(R:Item)(gA:Nat)(aA aB b d aE aG aD aF id a:Int)(p:OA)(n cap:Nat)(q:OA)(m c2:Nat)(xs ys:List Int)(vs:List aQ)(hm:m≤900)(h0:0≤a)(hl:Hid (vs.length=m))(hM:Hid (Mem w0 w [aI w0.heap.size TI 1 (p) (n) (cap) (ivs (xs)),aI w0.heap.size TV 4 (q) (m) (c2) (vs.flatMap aC),aJ w0.heap.size (gA) aL #[aA,aB,.slice (p) n cap,b,d,aE,aG,aD,aF,.slice (q) m c2],R]))
  (HS:xC 96 #[aH aA aB p n cap,id] w fun w' e w''=> ∃q c,e= .returned (.tuple #[aH aA aB q n c,a])∧w''.ownsRow w'.heap.size TI 1 (.slice q n c) n (ivs ys)∧Ext w' w''):
  Calls Tryz.prog 46 #[.pointer (some ⟨gA,0,none⟩),id] w fun e w'=> ∃p1 c1 q9 c9,e= .returned (.tuple #[a,.bool true])∧Mem w0 w' [aI w0.heap.size TI 1 (p1) (n) (c1) (ivs (ys)),aI w0.heap.size TV 4 (q9) (m+1) (c9) ((kH (id,aD,0,aD) vs).flatMap aC),aJ w0.heap.size (gA) aL #[aA,aB,.slice (p1) n c1,b,d,aE,aG,aD,aF,.slice (q9) (m+1) c9],R]:=by
 go_enter Tryz.func46,Tryz.ntmps46;have aa:gA<w.heap.size:=(hM.out.hi 2)
 have a0:=(hM.out.bk 2).cl 0;have a1:=(hM.out.bk 2).cl 1;have a2:=(hM.out.bk 2).cl 2;go_wp2_with fail;clear a0 a1 a2;refine(HS _ (Ext.refl _)).mono ?_;rintro e w1 ⟨p1,c1,rfl,ag,ai⟩;have M1:=(hM.out.call ai ag)
 clear hM aa ai ag;have ab:=M1.hi 3;go_upto_region 2 with fail;obtain⟨gV,y⟩: ∃gV,gV=w1.heap.size:=⟨_,rfl⟩
 rw[←y];have M2:=(M1.blkNew TH3 #[aA,aB,.slice p1 n c1] gV y.symm)
 generalize World.alloc _ _=w2 at M2⊢;clear M1 ab y;have am:=M2.hi 0;have an:=M2.hi 4;have t0:decide (a<0)=false:=by simp;omega
 obtain⟨v0,v1,v2⟩:=(M2.bk 0).tri;have a0:=(M2.bk 4).cl 0;have aj:=(M2.bk 4).frozen 0;have a1:=(M2.bk 4).cl 1;have ak:=(M2.bk 4).frozen 1;have a2:=(M2.bk 4).cl 2;have al:=(M2.bk 4).frozen 2;obtain⟨s,t⟩:=M2.nq 0 4;go_upto_region 5 with fail;clear v0 v1 v2 a0 aj a1 ak a2 al s t;have M3:=((M2.st 4 0 (.int .i64 aA)).st 4 1 (.int .i64 aB))
 have M4:=(M3.st 4 2 (.slice p1 n c1))
 have M5:=(M4)
 generalize ah:World.setCell _ _ _=w5;rw[ah]at M5;clear ah M2 M3 M4;have M6:=(show Mem w0 w5 [aI w0.heap.size TI 1 (p1) (n) (c1) (ivs (ys)),aI w0.heap.size TV 4 (q) (m) (c2) (vs.flatMap aC),aJ w0.heap.size (gA) aL #[aA,aB,.slice (p1) n c1,b,d,aE,aG,aD,aF,.slice (q) m c2],R]from(M5.pick [1,3,4,5] (by decide) rfl))
 clear M5;go_wp2;go_loopw [8] (fun at_ wr=> ∃(k:Nat),k≤m∧at_= .int .i64 (k:Int)∧(∀u∈vs.take k,u.1<id)∧w5=wr) (fun at_ _=>m-(intOf at_).toNat)
 case atStart=>exact⟨0,Nat.zero_le _,rfl,by simp,rfl⟩
 case round=>
  obtain⟨k,hk,rfl,ae,rfl⟩:=hrel;have j:=xQ ae;clear ae;have b9:=(M6.bk 2).cl 9;have f:=(M6.hi 2)
  by_cases hkm:k<m
  ·obtain⟨gq,z,_,_⟩:=M6.so 1;obtain⟨⟨a0,a1,a2,a3⟩,hx⟩: ∃x,vs[k]? =some x:=⟨_,List.getElem?_eq_getElem (by rw[hl.out];exact hkm)⟩
   have ca:w5.cell? ⟨gq,k*4,none⟩=some (.int .i64 a0):=by
    have h1:=(M6.ow 1)
    rw[z]at h1;have h2:=h1.cellAt (k*4) (by omega);rw[h2];exact dW aC 4 (fun _=>rfl) vs k _ hx 0 (by omega)
   have i1:(0:Int)≤(k:Int):=by omega
   have i2:(k:Int)<(m:Int):=by omega
   by_cases h7:a0<id
   ·have t1:decide (a0<id)=true:=by simp[h7]
    have af:=xQ (show∀u∈vs.take (k+1),u.1<id from by
     intro u hu;rw[bI hx,List.mem_append,List.mem_singleton]at hu;rcases hu with hu|rfl
     ·exact j u hu
     ·exact h7)
    clear hx h7;subst z;go_wp2;go_roundw
    case rel=>exact⟨k+1,by omega,by go_num,af.out,by trivial⟩
    case measure=>simp[intOf];omega
   have t1:decide (a0<id)=false:=by simp;omega
   have h:=xQ (show∀u,vs[k]? =some u→ ¬u.1<id from fun u hu=>by rw[hx]at hu;injection hu with hu;subst hu;exact h7);clear hx h7;subst z;go_upto_region 8 with fail;clear b9 ca i1 i2 t1 f;have l:=xQ (qJ (id,aD,0,aD) vs k j h.out);have HI:=xQ (fun(w1:World) (vb:Nat) (hx:Ext w5 w1) (hb:Blk w1 vb TV (aC (id,aD,0,aD)).toArray) (hle:w5.heap.size≤vb)=>aCa (w0:=w0) (w:=w1) (some ⟨gq,0,none⟩) k vb c2 m vs (id,aD,0,aD) 1 (by omega) hl (xQ (M6.adv hx)) (xQ hb) hk (fun g hg=>by have h7:=(M6.lt (i:=1) (g:=g) rfl hg).2;omega) (xQ rfl));rw[←l.out]at HI;have a7:=(M6.bk 2).cl 7;have a9:=(M6.bk 2).cl 9;have f:=(M6.hi 2)
   clear j h l;go_wp2_with fail
   go_region_with (first
    |(go_at_call 97;refine(HI _ _ (by first|exact(Ext.refl _).alloc _|exact Ext.drew ((Ext.refl _).alloc _)|exact xE) (by first|exact Blk.new _ _ _|exact(Blk.new _ _ _).ext (Ext.drew (Ext.refl _))) (by first|exact Nat.le_refl _|simp)).mono ?_
      rintro e w9 ⟨q9,c9,rfl,o⟩;have M9:=(show Mem w0 w9 [aI w0.heap.size TI 1 (p1) (n) (c1) (ivs (ys)),aI w0.heap.size TV 4 (q9) (m+1) (c9) ((kH (id,aD,0,aD) vs).flatMap aC),aJ w0.heap.size (gA) aL #[aA,aB,.slice (p1) n c1,b,d,aE,aG,aD,aF,.slice (some ⟨gq,0,none⟩) m c2],R]from o)
      clear o;have x7:=(M9.bk 2).cl 7;have x9:=(M9.bk 2).cl 9;have ad:=(M9.bk 2).frozen 9
      have r:=(M9.hi 2)))
   all_goals (
   clear a7 a9 f x7 x9 ad r HI M6;have MX:=(M9.st 2 9 (.slice q9 (m+1) c9))
   clear M9;go_wp2
   exact bodyPost_ret (v:= .tuple #[a,.bool true]) (by simp[results,Tryz.results46,go_sem, *]) rfl ⟨p1,c1,q9,c9,rfl,MX⟩)
  obtain rfl:m=k:=by omega
  have h:=xQ (show∀u,vs[m]? =some u→ ¬u.1<id from fun u hu=>by rw[List.getElem?_eq_none (by rw[hl.out];exact Nat.le_refl _)]at hu;cases hu);go_upto_region 8 with fail;clear b9 f;have l:=xQ (qJ (id,aD,0,aD) vs m j h.out);have HI:=xQ (fun(w1:World) (vb:Nat) (hx:Ext w5 w1) (hb:Blk w1 vb TV (aC (id,aD,0,aD)).toArray) (hle:w5.heap.size≤vb)=>aCa (w0:=w0) (w:=w1) q m vb c2 m vs (id,aD,0,aD) 1 (by omega) hl (xQ (M6.adv hx)) (xQ hb) (Nat.le_refl _) (fun g hg=>by have h7:=(M6.lt (i:=1) (g:=g) rfl hg).2;omega) (xQ rfl));rw[←l.out]at HI;have a7:=(M6.bk 2).cl 7;have a9:=(M6.bk 2).cl 9;have f:=(M6.hi 2)
  clear j h l;go_wp2_with fail
  go_region_with (first
   |(go_at_call 97;refine(HI _ _ (by first|exact(Ext.refl _).alloc _|exact Ext.drew ((Ext.refl _).alloc _)|exact xE) (by first|exact Blk.new _ _ _|exact(Blk.new _ _ _).ext (Ext.drew (Ext.refl _))) (by first|exact Nat.le_refl _|simp)).mono ?_
     rintro e w9 ⟨q9,c9,rfl,o⟩;have M9:=(show Mem w0 w9 [aI w0.heap.size TI 1 (p1) (n) (c1) (ivs (ys)),aI w0.heap.size TV 4 (q9) (m+1) (c9) ((kH (id,aD,0,aD) vs).flatMap aC),aJ w0.heap.size (gA) aL #[aA,aB,.slice (p1) n c1,b,d,aE,aG,aD,aF,.slice (q) m c2],R]from o)
     clear o;have x7:=(M9.bk 2).cl 7;have x9:=(M9.bk 2).cl 9;have ad:=(M9.bk 2).frozen 9
     have r:=(M9.hi 2)))
  all_goals (
  clear a7 a9 f x7 x9 ad r HI M6;have MX:=(M9.st 2 9 (.slice q9 (m+1) c9))
  clear M9;go_wp2
  exact bodyPost_ret (v:= .tuple #[a,.bool true]) (by simp[results,Tryz.results46,go_sem, *]) rfl ⟨p1,c1,q9,c9,rfl,MX⟩)
theorem aHn (i pd a now f s p c amt D:Int)(w:World)(hD:0≤D)(n:D≤693)(o:0≤pd)(hp:pd≤9999)
  (HD:Hid (∀w,Calls Tryz.prog 57 #[aR f s p c,bN i pd a,now] w fun e w'=>e= .returned (.int .i64 D)∧Ext w w'))(ha:amt<1):
  Calls Tryz.prog 98 #[aR f s p c,bN i pd a,now,amt] w fun e w'=>e= .returned (.tuple #[bN 0 0 0,amt,.bool false])∧Ext w w':=by
 go_enter Tryz.func98,Tryz.ntmps98;go_wp2_with fail;refine(HD _).mono ?_;rintro e w1 ⟨rfl,d⟩;have M1:=(((((Mem.start w).c0 TT4 #[f,s,p,c]).c1 TS3 #[i,pd,a]).c2 TS3 #[(),(),()]).adv d)
 have k:=M1.hi 0;have l:=M1.hi 1;have m:=M1.hi 2;clear d HD;have t0:decide (D<0)=false:=by simp;omega
 have t1:decide (amt<1)=true:=by simp;omega
 obtain⟨c0,c1,c2⟩:=(M1.bk 1).tri;obtain⟨d0,g,d1,h,d2,j⟩:=(M1.bk 0).trif;go_wp2;clear c0 c1 c2 d0 g d1 h d2 j;have M2:=(M1.put3 (i:=0) rfl (.int .i64 0) (.int .i64 0) (.int .i64 0))
 generalize b:World.setCell _ _ _=wz;rw[b]at M2;clear b M1;obtain⟨y0,y1,y2⟩:=(M2.bk 0).tri;exact bodyPost_ret (v:= .tuple #[.agg #[(),(),()],amt,.bool false]) (by simp[results,Tryz.results98,go_sem, *]) rfl ⟨rfl,M2.ext⟩
theorem aHo (i pd a now f s p c amt D:Int)(w:World)(hD:0≤D)(n:D≤693)(o:0≤pd)(hp:pd≤9999)
  (HD:Hid (∀w,Calls Tryz.prog 57 #[aR f s p c,bN i pd a,now] w fun e w'=>e= .returned (.int .i64 D)∧Ext w w'))(ha:300<amt):
  Calls Tryz.prog 98 #[aR f s p c,bN i pd a,now,amt] w fun e w'=>e= .returned (.tuple #[bN 0 0 0,amt,.bool false])∧Ext w w':=by
 go_enter Tryz.func98,Tryz.ntmps98;go_wp2_with fail;refine(HD _).mono ?_;rintro e w1 ⟨rfl,d⟩;have M1:=(((((Mem.start w).c0 TT4 #[f,s,p,c]).c1 TS3 #[i,pd,a]).c2 TS3 #[(),(),()]).adv d)
 have k:=M1.hi 0;have l:=M1.hi 1;have m:=M1.hi 2;clear d HD;have t0:decide (D<0)=false:=by simp;omega
 have t1:decide (amt<1)=false:=by simp;omega
 have t2:decide (300<amt)=true:=by simp;omega
 obtain⟨c0,c1,c2⟩:=(M1.bk 1).tri;obtain⟨d0,g,d1,h,d2,j⟩:=(M1.bk 0).trif;go_wp2;clear c0 c1 c2 d0 g d1 h d2 j;have M2:=(M1.put3 (i:=0) rfl (.int .i64 0) (.int .i64 0) (.int .i64 0))
 generalize b:World.setCell _ _ _=wz;rw[b]at M2;clear b M1;obtain⟨y0,y1,y2⟩:=(M2.bk 0).tri;exact bodyPost_ret (v:= .tuple #[.agg #[(),(),()],amt,.bool false]) (by simp[results,Tryz.results98,go_sem, *]) rfl ⟨rfl,M2.ext⟩
theorem aCh (i pd a now f s p c amt:Int)(w:World)(n:0≤pd)(hp:pd≤9999)
  (HD:Hid (∀w,Calls Tryz.prog 57 #[aR f s p c,bN i pd a,now] w fun e w'=>e= .returned (.int .i64 0)∧Ext w w'))(ha:1≤amt)(hb:amt≤300):
  Calls Tryz.prog 98 #[aR f s p c,bN i pd a,now,amt] w fun e w'=>e= .returned (.tuple #[bN i pd a,amt,.bool false])∧Ext w w':=by
 go_enter Tryz.func98,Tryz.ntmps98;go_wp2_with fail;refine(HD _).mono ?_;rintro e w1 ⟨rfl,d⟩;have M1:=(((((Mem.start w).c0 TT4 #[f,s,p,c]).c1 TS3 #[i,pd,a]).c2 TS3 #[(),(),()]).adv d)
 have k:=M1.hi 0;have l:=M1.hi 1;have m:=M1.hi 2;clear d HD;have t1:decide (amt<1)=false:=by simp;omega
 have t2:decide (300<amt)=false:=by simp;omega
 obtain⟨c0,c1,c2⟩:=(M1.bk 1).tri;obtain⟨d0,g,d1,h,d2,j⟩:=(M1.bk 0).trif;go_wp2;clear c0 c1 c2 d0 g d1 h d2 j;have M2:=(M1.put3 (i:=0) rfl (.int .i64 i) (.int .i64 pd) (.int .i64 a))
 generalize b:World.setCell _ _ _=wz;rw[b]at M2;clear b M1;obtain⟨y0,y1,y2⟩:=(M2.bk 0).tri;exact bodyPost_ret (v:= .tuple #[.agg #[i,pd,a],amt,.bool false]) (by simp[results,Tryz.results98,go_sem, *]) rfl ⟨rfl,M2.ext⟩
theorem aEu (i pd a now f s p c amt D:Int)(w:World)(hD:0≤D)(o:D≤693)(t:0≤pd)(hp:pd≤9999)
  (HD:Hid (∀w,Calls Tryz.prog 57 #[aR f s p c,bN i pd a,now] w fun e w'=>e= .returned (.int .i64 D)∧Ext w w'))(ha:1≤amt)(hb:amt≤300)(n:1≤D):
  Calls Tryz.prog 98 #[aR f s p c,bN i pd a,now,amt] w fun e w'=>e= .returned (.tuple #[bN i (pd+min D amt) now,(amt-min D amt:Int),.bool true])∧Ext w w':=by
 go_enter Tryz.func98,Tryz.ntmps98;go_wp2_with fail;refine(HD _).mono ?_;rintro e w1 ⟨rfl,d⟩;have M1:=(((((Mem.start w).c0 TT4 #[f,s,p,c]).c1 TS3 #[i,pd,a]).c2 TS3 #[(),(),()]).adv d)
 have k:=M1.hi 0;have l:=M1.hi 1;have m:=M1.hi 2;clear d HD;have r:min amt D=min D amt:=Int.min_comm _ _;have k1:IntKind.i64.wrap (pd+min D amt)=pd+min D amt:=IntWalk.i64_in _ (by omega);have k2:IntKind.i64.wrap (amt-min D amt)=amt-min D amt:=IntWalk.i64_in _ (by omega);have q:(D==0)=false:=by simp;omega
 have t0:decide (D<0)=false:=by simp;omega
 have t1:decide (amt<1)=false:=by simp;omega
 have t2:decide (300<amt)=false:=by simp;omega
 obtain⟨c0,c1,c2⟩:=(M1.bk 1).tri;obtain⟨d0,g,d1,h,d2,j⟩:=(M1.bk 0).trif;go_wp2;clear c0 c1 c2 d0 g d1 h d2 j;have M2:=(M1.put3 (i:=0) rfl (.int .i64 i) (.int .i64 (pd+min D amt)) (.int .i64 now))
 generalize b:World.setCell _ _ _=wz;rw[b]at M2;clear b M1;obtain⟨y0,y1,y2⟩:=(M2.bk 0).tri;exact bodyPost_ret (v:= .tuple #[.agg #[i,(pd+min D amt:Int),now],(amt-min D amt:Int),.bool true]) (by simp[results,Tryz.results98,go_sem, *]) rfl ⟨rfl,M2.ext⟩
theorem aCi (f s p c i pd a now amt:Int)(w:World)(h:bJ f s p c=true)(h2:cZ i pd a=true)(h3:a≤now)(h4:now≤9999):
  Calls Tryz.prog 98 #[aR f s p c,bN i pd a,now,amt] w fun e w'=>e= .returned (.tuple #[bN (gH f s p c i pd a now amt).1.1 (gH f s p c i pd a now amt).1.2.1 (gH f s p c i pd a now amt).1.2.2,.int .i64 (gH f s p c i pd a now amt).2.1,.bool (gH f s p c i pd a now amt).2.2])∧Ext w w':=by
 obtain⟨b1,b2,b3,b4,b5,b6⟩:=fT h2;obtain⟨e1,e2⟩:=kT h h2 h3 h4;have HD:=xQ (fun w=>aEs f s p c i pd a now w h h2 h3 h4);unfold gH;generalize bX f s p c i pd a now=D at*;by_cases ha:1≤amt∧amt≤300
 ·rw[if_pos ha];by_cases hd:D=0
  ·subst hd;rw[if_pos rfl];exact aCh i pd a now f s p c amt w b3 b4 HD ha.1 ha.2
  rw[if_neg hd];exact aEu i pd a now f s p c amt D w e1 e2 b3 b4 HD ha.1 ha.2 (by omega)
 rw[if_neg ha];by_cases hb:amt<1
 ·exact aHn i pd a now f s p c amt D w e1 e2 b3 b4 HD hb
 exact aHo i pd a now f s p c amt D w e1 e2 b3 b4 HD (by omega)
theorem aCr (w:World)(gA:Nat)(aA aB a b aE aG aD aF id amt:Int)(p:OA)(n cap:Nat)(q:OA)(m c2:Nat)(hA:Hid (Blk w gA aL #[aA,aB,.slice p n cap,a,b,aE,aG,aD,aF,.slice q m c2]))
  (HX:xC 50 #[.agg #[aA,aB,.slice p n cap,a,b,aE,aG,aD,aF,.slice q m c2],id] w fun w' e w''=>e= .returned (.int .i64 (-1))∧Ext w' w''):
  Calls Tryz.prog 47 #[.pointer (some ⟨gA,0,none⟩),id,amt] w fun e w'=>e= .returned (.tuple #[(-1:Int),.bool false])∧Ext w w':=by
 obtain⟨a0,a1,a2,a3,a4,a5,a6,a7,a8,a9⟩:=hA.out.ten;have c:=hA.out.lt;go_enter Tryz.func47,Tryz.ntmps47;go_wp2_with fail;clear a0 a1 a2 a3 a4 a5 a6 a7 a8 a9;refine(HX _ (Ext.refl _)).mono ?_;rintro e w1 ⟨rfl,hx⟩;have hX:=xQ hx;clear hx;go_wp2;exact bodyPost_ret (v:= .tuple #[(-1:Int),.bool false]) (by simp[results,Tryz.results47,go_sem, *]) rfl ⟨rfl,hX.out⟩
theorem aCq (w0 w:World)(R:Item)(gA gq:Nat)(aA aB d h aE aG aD aF id amt:Int)(p:OA)(n cap m c2 k:Nat)(xs:List Int)(vs:List aQ)(a0 a1 a2 a3 S1 S2 S3 bk:Int)(l:Bool)(hk:k<m)(hm:m≤1000)(bv:0≤aF)(bl:aF≤99999)(a7:l=true→0≤bk∧bk≤amt∧amt≤300)(j:Hid (vs[k]? =some (a0,a1,a2,a3)))
  (hM:Hid (Mem w0 w [aI w0.heap.size TI 1 (p) (n) (cap) (ivs xs),aI w0.heap.size TV 4 (some ⟨gq,0,none⟩) (m) (c2) (vs.flatMap aC),aJ w0.heap.size (gA) aL #[aA,aB,.slice p n cap,d,h,aE,aG,aD,aF,.slice (some ⟨gq,0,none⟩) m c2],R]))
  (HX:xC 50 #[.agg #[aA,aB,.slice p n cap,d,h,aE,aG,aD,aF,.slice (some ⟨gq,0,none⟩) m c2],id] w fun w' e w''=>e= .returned (.int .i64 (k:Int))∧Ext w' w'')
  (HP:Hid (∀w',Calls Tryz.prog 98 #[aR d h aE aG,bN a1 a2 a3,aD,amt] w' fun e w''=>e= .returned (.tuple #[bN S1 S2 S3,bk,.bool l])∧Ext w' w'')):
  Calls Tryz.prog 47 #[.pointer (some ⟨gA,0,none⟩),id,amt] w fun e w'=>(e= .returned (.tuple #[(-1:Int),.bool false])∧ ¬(l=true∧aF+amt-bk≤99999)∧Ext w w')∨
   (l=true∧aF+amt-bk≤99999∧e= .returned (.tuple #[bk,.bool true])∧Mem w0 w' [aI w0.heap.size TI 1 (p) (n) (cap) (ivs xs),aI w0.heap.size TV 4 (some ⟨gq,0,none⟩) (m) (c2) ((vs.set k (a0,S1,S2,S3)).flatMap aC),aJ w0.heap.size (gA) aL #[aA,aB,.slice p n cap,d,h,aE,aG,aD,(aF+amt-bk:Int),.slice (some ⟨gq,0,none⟩) m c2],R]):=by
 go_enter Tryz.func47,Tryz.ntmps47;have a8:gA<w.heap.size:=(hM.out.hi 2)
 have r:=(hM.out.lt (i:=1) (g:=gq) rfl rfl).2;have g1:w.cell? ⟨gq,k*4+1,none⟩=some (.int .i64 a1):=((hM.out.ow 1).cellAt (k*4+1) (by omega)).trans (dW aC 4 (fun _=>rfl) vs k _ j.out 1 (by omega));have g2:w.cell? ⟨gq,k*4+2,none⟩=some (.int .i64 a2):=((hM.out.ow 1).cellAt (k*4+2) (by omega)).trans (dW aC 4 (fun _=>rfl) vs k _ j.out 2 (by omega));have g3:w.cell? ⟨gq,k*4+3,none⟩=some (.int .i64 a3):=((hM.out.ow 1).cellAt (k*4+3) (by omega)).trans (dW aC 4 (fun _=>rfl) vs k _ j.out 3 (by omega));obtain⟨z0,z1,z2,z3,z4,z5,z6,z7,z8,z9⟩:=(hM.out.bk 2).ten;go_wp2_with fail;clear z0 z1 z2 z3 z4 z5 z6 z7 z8 z9;refine(HX _ (Ext.refl _)).mono ?_;rintro e w2 ⟨rfl,af⟩;have o:=xQ af;have M2:=(hM.out.adv af)
 clear af HX;have bw:=(M2.hi 2)
 have ab:gq<w2.heap.size:=Nat.lt_of_lt_of_le r o.out.sz;have aj:w2.cell? ⟨gq,k*4+1,none⟩=some (.int .i64 a1):=(o.out.cells.1 _ _ r).trans g1;have ak:w2.cell? ⟨gq,k*4+2,none⟩=some (.int .i64 a2):=(o.out.cells.1 _ _ r).trans g2;have al:w2.cell? ⟨gq,k*4+3,none⟩=some (.int .i64 a3):=(o.out.cells.1 _ _ r).trans g3;clear g1 g2 g3;obtain⟨ap,aq,ar,au,av,aw,ax,ay,az,a4⟩:=(M2.bk 2).ten;have i1:(0:Int)≤(k:Int):=by omega
 have i2:(k:Int)<(m:Int):=by omega
 have t0: ¬((k:Int)<0):=by omega
 have n1: ¬(gA=w2.heap.size):=by omega
 have n2: ¬(w2.heap.size=gA):=by omega
 have n3: ¬(gq=w2.heap.size):=by omega
 have n4: ¬(w2.heap.size=gq):=by omega
 go_upto_region 4 with fail;go_cut [9,10,11] (fun s11 s12 s13 wx=> ∃a:Nat,s11= .pointer (some ⟨a,0,none⟩)∧s12= .int .i64 bk∧s13= .bool l∧Ext w2 wx∧w2.heap.size≤a∧Blk wx a TS3 #[S1,S2,S3])
 case first=>
  go_region_held3 (fun w'=>w'.cell? ⟨gA,3,none⟩=some (.int .i64 d)∧w'.cell? ⟨gA,4,none⟩=some (.int .i64 h)∧w'.cell? ⟨gA,5,none⟩=some (.int .i64 aE)∧w'.cell? ⟨gA,6,none⟩=some (.int .i64 aG)∧w'.cell? ⟨gA,7,none⟩=some (.int .i64 aD)∧w'.cell? ⟨gA,9,none⟩=some (.slice (some ⟨gq,0,none⟩) m c2)∧w'.cell? ⟨gq,k*4+1,none⟩=some (.int .i64 a1)∧w'.cell? ⟨gq,k*4+2,none⟩=some (.int .i64 a2)∧w'.cell? ⟨gq,k*4+3,none⟩=some (.int .i64 a3))
   (first|(refine⟨?_,?_,?_,?_,?_,?_,?_,?_,?_⟩<;>assumption)|go_keep)
   ((go_at_call 98
     refine(HP _).mono ?_;rintro e w5 ⟨rfl,ao⟩;have f:Ext w2 w5:=xE;have bm:=((M2.bk 2).ext f).cl 3;have bn:=((M2.bk 2).ext f).cl 4;have bo:=((M2.bk 2).ext f).cl 5;have bp:=((M2.bk 2).ext f).cl 6;have bq:=((M2.bk 2).ext f).cl 7;have br:=((M2.bk 2).ext f).cl 9;have bs:w5.cell? ⟨gq,k*4+1,none⟩=some (.int .i64 a1):=(f.cells.1 _ _ ab).trans aj;have bt:w5.cell? ⟨gq,k*4+2,none⟩=some (.int .i64 a2):=(f.cells.1 _ _ ab).trans ak;have bu:w5.cell? ⟨gq,k*4+3,none⟩=some (.int .i64 a3):=(f.cells.1 _ _ ab).trans al
     first
      |(have ag:Ext (w2.alloc (.cells #[(),(),()] TS3)) w5:=ao
        have BB:=(Blk.new w2 TS3 #[(),(),()]).ext ag;have be:=BB.cl 0;have bh:=BB.frozen 0;have bf:=BB.cl 1;have bi:=BB.frozen 1;have bg:=BB.cl 2
        have bj:w5.frozen? ⟨w2.heap.size,2,none⟩=false:=BB.frozen 2)
      |(have ag:Ext (w2.alloc (.cells #[(),(),()] TS3)) w5:=ao.of_drew
        have BB:=(Blk.new w2 TS3 #[(),(),()]).ext ag;have be:=BB.cl 0;have bh:=BB.frozen 0;have bf:=BB.cl 1;have bi:=BB.frozen 1;have bg:=BB.cl 2
        have bj:w5.frozen? ⟨w2.heap.size,2,none⟩=false:=BB.frozen 2)
      |skip))
  ·go_wp2_with fail;go_meet;exact⟨w5.heap.size,rfl,rfl,rfl,xE,by have:=f.sz;omega,Blk.new _ _ _⟩
  have hR:ExtR w2.heap.size w5 _:=(((ExtR.refl w2.heap.size w5).setCell (p:=⟨w2.heap.size,0,none⟩) (.inl rfl) (.int .i64 S1)).setCell (p:=⟨w2.heap.size,1,none⟩) (.inl rfl) (.int .i64 S2)).setCell (p:=⟨w2.heap.size,2,none⟩) (.inl rfl) (.int .i64 S3);have hY:=((BB.set 0 (.int .i64 S1)).set 1 (.int .i64 S2)).set 2 (.int .i64 S3);simp only[List.setIfInBounds_toArray,List.set_cons_zero,List.set_cons_succ]at hY;go_wp2_with fail;go_meet;exact⟨w2.heap.size,rfl,rfl,rfl,ExtR.new f hR (Nat.le_refl _),Nat.le_refl _,hY⟩
 case rest=>
  clear ap aq ar au av aw ax ay az a4 aj ak al HP n1 n2 n3 n4;obtain⟨a,rfl,rfl,rfl,aa,ha,am⟩:=hcut;have b:=xQ (o.out.trans aa);have M3:=(M2.blkOf aa am ha)
  clear M2 aa ha am;have ah:=M3.hi 0;have ai:=M3.hi 3;cases l with
  |false=>
   have ad:Hid (¬(false=true∧aF+amt-bk≤99999)):=by show¬_;simp
   go_wp2
   exact bodyPost_ret (v:= .tuple #[(-1:Int),.bool false]) (by simp[results,Tryz.results47,go_sem, *]) rfl (by
    have c:=ad.out
    first|exact .inl ⟨rfl,c,b.out⟩|exact .inl ⟨rfl,by omega,b.out⟩|exact .inl ⟨by omega,b.out⟩|exact .inl ⟨rfl,b.out⟩|exact .inl b.out|exact b.out|(simp at c;first|exact .inl ⟨rfl,c,b.out⟩|exact .inl ⟨c,b.out⟩|exact .inl ⟨rfl,by omega,b.out⟩|exact .inl ⟨by omega,b.out⟩))
  |true=>
   obtain⟨o1,o2,o3⟩:=a7 rfl;have k1:IntKind.i64.wrap (aF+amt)=aF+amt:=IntWalk.i64_in _ (by omega);have k2:IntKind.i64.wrap (aF+amt-bk)=aF+amt-bk:=IntWalk.i64_in _ (by omega);have k3:IntKind.i64.wrap (amt-bk)=amt-bk:=IntWalk.i64_in _ (by omega);have k4:IntKind.i64.wrap (aF+(amt-bk))=aF+amt-bk:=by rw[IntWalk.i64_in _ (by omega)];omega
   have h8:=(M3.bk 3).cl 8;by_cases hq:aF+amt-bk≤99999
   ·have hd:decide (99999<aF+amt-bk)=false:=by simp;omega
    have ae:=xQ hq;clear hq;go_upto_region 7 with fail;clear h8;have d9:=(M3.bk 3).cl 9;obtain⟨bb,bc,bd⟩:=(M3.bk 0).tri;have y1:wc.cell? ⟨gq,k*4+1,none⟩=some (.int .i64 a1):=((M3.ow 2).cellAt (k*4+1) (by omega)).trans (dW aC 4 (fun _=>rfl) vs k _ j.out 1 (by omega));have z1:wc.frozen? ⟨gq,k*4+1,none⟩=false:=(M3.ow 2).frozenAt (k*4+1);have y2:wc.cell? ⟨gq,k*4+2,none⟩=some (.int .i64 a2):=((M3.ow 2).cellAt (k*4+2) (by omega)).trans (dW aC 4 (fun _=>rfl) vs k _ j.out 2 (by omega));have z2:wc.frozen? ⟨gq,k*4+2,none⟩=false:=(M3.ow 2).frozenAt (k*4+2);have y3:wc.cell? ⟨gq,k*4+3,none⟩=some (.int .i64 a3):=((M3.ow 2).cellAt (k*4+3) (by omega)).trans (dW aC 4 (fun _=>rfl) vs k _ j.out 3 (by omega));have z3:wc.frozen? ⟨gq,k*4+3,none⟩=false:=(M3.ow 2).frozenAt (k*4+3);obtain⟨s,t⟩:=M3.nq 0 3;obtain⟨u,x⟩:=M3.nq 2 3;obtain⟨y,z⟩:=M3.nq 0 2;go_region;clear d9 bb bc bd y1 z1 y2 z2 y3 z3 s t u x y z;have a6:Hid ((((vs.flatMap aC).set (k*4+1) (.int .i64 S1)).set (k*4+2) (.int .i64 S2)).set (k*4+3) (.int .i64 S3)=(vs.set k (a0,S1,S2,S3)).flatMap aC):=xN j S1 S2 S3;have MX:=(show Mem w0 (((wc.setCell ⟨gq,k*4+1,none⟩ (.int .i64 S1)).setCell ⟨gq,k*4+2,none⟩ (.int .i64 S2)).setCell ⟨gq,k*4+3,none⟩ (.int .i64 S3)).drew [aJ w0.heap.size (a) TS3 #[S1,S2,S3],aI w0.heap.size TI 1 (p) (n) (cap) (ivs xs),aI w0.heap.size TV 4 (some ⟨gq,0,none⟩) (m) (c2) ((vs.set k (a0,S1,S2,S3)).flatMap aC),aJ w0.heap.size (gA) aL #[aA,aB,.slice p n cap,d,h,aE,aG,aD,aF,.slice (some ⟨gq,0,none⟩) m c2],R]from by rw[←a6.out];exact(((M3.ostore (i:=2) rfl (k*4+1) (.int .i64 S1)).ostore (i:=2) rfl (k*4+2) (.int .i64 S2)).ostore (i:=2) rfl (k*4+3) (.int .i64 S3)).adv (Ext.drew (Ext.refl _)))
    generalize an:World.drew _=w7;rw[an]at MX;clear an M3 ah ai;have a9:a<w7.heap.size:=(MX.hi 0)
    have ba:gA<w7.heap.size:=(MX.hi 3)
    have d8:=(MX.bk 3).cl 8;have a5:=(MX.bk 3).frozen 8;go_wp2;clear d8 a5;exact bodyPost_ret (v:= .tuple #[bk,.bool true]) (by simp[results,Tryz.results47,go_sem, *]) rfl (by have q:Hid (Mem w0 _ [aI w0.heap.size TI 1 (p) (n) (cap) (ivs xs),aI w0.heap.size TV 4 (some ⟨gq,0,none⟩) (m) (c2) ((vs.set k (a0,S1,S2,S3)).flatMap aC),aJ w0.heap.size (gA) aL #[aA,aB,.slice p n cap,d,h,aE,aG,aD,(aF+amt-bk:Int),.slice (some ⟨gq,0,none⟩) m c2],R]):=((MX.store (i:=3) rfl 8 (.int .i64 (aF+amt-bk))).pick [1,2,3,4] (by decide) rfl);first|exact .inr ⟨rfl,ae.out,rfl,q.out⟩|exact .inr ⟨ae.out,rfl,q.out⟩|exact .inr ⟨ae.out,q.out⟩)
   have ad:Hid (¬(true=true∧aF+amt-bk≤99999)):=by show¬_;simp[hq]
   have hd:decide (99999<aF+amt-bk)=true:=by simp;omega
   go_wp2
   exact bodyPost_ret (v:= .tuple #[(-1:Int),.bool false]) (by simp[results,Tryz.results47,go_sem, *]) rfl (by
    have c:=ad.out
    first|exact .inl ⟨rfl,c,b.out⟩|exact .inl ⟨rfl,by omega,b.out⟩|exact .inl ⟨by omega,b.out⟩|exact .inl ⟨rfl,b.out⟩|exact .inl b.out|exact b.out|(simp at c;first|exact .inl ⟨rfl,c,b.out⟩|exact .inl ⟨c,b.out⟩|exact .inl ⟨rfl,by omega,b.out⟩|exact .inl ⟨by omega,b.out⟩))
theorem aF3 (w:World)(gA:Nat)(aA aB a b aE aG aD aF id c:Int)(p:OA)(n cap:Nat)(q:OA)(m c2:Nat)(hA:Hid (Blk w gA aL #[aA,aB,.slice p n cap,a,b,aE,aG,aD,aF,.slice q m c2]))
  (d:xB 99 #[.agg #[aA,aB,.slice p n cap,a,b,aE,aG,aD,aF,.slice q m c2],id] w false):
  Calls Tryz.prog 48 #[.pointer (some ⟨gA,0,none⟩),id] w fun e w'=>e= .returned (.tuple #[(-1:Int),.bool false])∧Ext w w':=by
 go_enter Tryz.func48,Tryz.ntmps48;obtain⟨a0,a1,a2,a3,a4,a5,a6,a7,a8,a9⟩:=hA.out.ten;have f:=hA.out.lt;go_wp2_with fail;clear a0 a1 a2 a3 a4 a5 a6 a7 a8 a9;refine(d _ (Ext.refl _)).mono ?_;rintro e w1 ⟨rfl,hx⟩;have hX:=xQ hx;clear hx;go_wp2;exact bodyPost_ret (v:= .tuple #[(-1:Int),.bool false]) (by simp[results,Tryz.results48,go_sem, *]) rfl ⟨rfl,hX.out⟩
theorem aHw (w:World)(gA:Nat)(aA aB b d aE aG aD aF id a:Int)(p:OA)(n cap:Nat)(q:OA)(m c2:Nat)(ys:List Int)(h0:a<0)(hA:Hid (Blk w gA aL #[aA,aB,.slice p n cap,b,d,aE,aG,aD,aF,.slice q m c2]))
  (g:xB 99 #[.agg #[aA,aB,.slice p n cap,b,d,aE,aG,aD,aF,.slice q m c2],id] w true)
  (HF:xC 100 #[aH aA aB p n cap,id] w fun w' e w''=> ∃q c,e= .returned (.tuple #[aH aA aB q n c,a])∧w''.ownsRow w'.heap.size TI 1 (.slice q n c) n (ivs ys)∧Ext w' w''):
  Calls Tryz.prog 48 #[.pointer (some ⟨gA,0,none⟩),id] w fun e w'=>e= .returned (.tuple #[(-1:Int),.bool false])∧Ext w w':=by
 go_enter Tryz.func48,Tryz.ntmps48;obtain⟨a0,a1,a2,a3,a4,a5,a6,a7,a8,a9⟩:=hA.out.ten;have i:=hA.out.lt;go_wp2_with fail;clear a0 a1 a2 a3 a4 a5 a6 a7 a8 a9;refine(g _ (Ext.refl _)).mono ?_;rintro e w1 ⟨rfl,hx⟩;have hX:=xQ hx;clear hx;obtain⟨a0,a1,a2,a3,a4,a5,a6,a7,a8,a9⟩:=(hA.out.ext hX.out).ten;go_wp2_with fail;clear a0 a1 a2 a3 a4 a5 a6 a7 a8 a9;refine(HF _ hX.out).mono ?_;rintro e w2 ⟨p1,c1,rfl,_,f⟩;have h:=xQ (hX.out.trans f);clear f;go_wp2;exact bodyPost_ret (v:= .tuple #[(-1:Int),.bool false]) (by simp[results,Tryz.results48,go_sem, *]) rfl ⟨rfl,by have:=h.out;exact xE⟩
theorem aF2 (w0 w:World)(R:Item)(gA:Nat)(aA aB b d aE aG aD aF id a:Int)(p:OA)(n cap:Nat)(gq:Nat)(m c2:Nat)(k:Nat)(xs ys:List Int)(vs:List aQ)(hk:k<m)(hm:m≤1000)(h0:0≤a)(hM:Hid (Mem w0 w [aI w0.heap.size TI 1 (p) (n) (cap) (ivs (xs)),aI w0.heap.size TV 4 (some ⟨gq,0,none⟩) (m) (c2) (vs.flatMap aC),aJ w0.heap.size (gA) aL #[aA,aB,.slice p n cap,b,d,aE,aG,aD,aF,.slice (some ⟨gq,0,none⟩) m c2],R]))
  (aj:xB 99 #[.agg #[aA,aB,.slice p n cap,b,d,aE,aG,aD,aF,.slice (some ⟨gq,0,none⟩) m c2],id] w true)
  (HF:xC 100 #[aH aA aB p n cap,id] w fun w' e w''=> ∃q c,e= .returned (.tuple #[aH aA aB q n c,a])∧w''.ownsRow w'.heap.size TI 1 (.slice q n c) n (ivs ys)∧Ext w' w'')
  (HX:Hid (∀w' p' cap',Sl w' (some ⟨gq,0,none⟩) m c2 4 (vs.flatMap aC)→Calls Tryz.prog 50 #[.agg #[aA,aB,.slice p' n cap',b,d,aE,aG,aD,aF,.slice (some ⟨gq,0,none⟩) m c2],id] w' fun e w''=>e= .returned (.int .i64 (k:Int))∧Ext w' w'')):
  Calls Tryz.prog 48 #[.pointer (some ⟨gA,0,none⟩),id] w fun e w'=> ∃p1 c1,e= .returned (.tuple #[a,.bool true])∧Mem w0 w' [aI w0.heap.size TI 1 (p1) (n) (c1) (ivs (ys)),aI w0.heap.size TV 4 (some ⟨gq,0,none⟩) (m-1) (c2) ((vs.eraseIdx k).flatMap aC),aJ w0.heap.size (gA) aL #[aA,aB,.slice p1 n c1,b,d,aE,aG,aD,aF,.slice (some ⟨gq,0,none⟩) (m-1) c2],R]:=by
 go_enter Tryz.func48,Tryz.ntmps48;have y:gA<w.heap.size:=(hM.out.hi 2)
 obtain⟨a0,a1,a2,a3,a4,a5,a6,a7,a8,a9⟩:=(hM.out.bk 2).ten;go_wp2_with fail;clear a0 a1 a2 a3 a4 a5 a6 a7 a8 a9;refine(aj _ (Ext.refl _)).mono ?_;rintro e w1 ⟨rfl,x⟩;have ao:=xQ x;have M1:=(hM.out.adv x)
 clear hM y x;have z:=M1.hi 2;have a0:=(M1.bk 2).cl 0;have a1:=(M1.bk 2).cl 1;have a2:=(M1.bk 2).cl 2;go_wp2_with fail;clear a0 a1 a2;refine(HF _ ao.out).mono ?_;rintro e w2 ⟨p1,c1,rfl,ae,ah⟩;have M2:=(M1.call ah ae)
 clear M1 z ah ae;have aa:=M2.hi 3;go_upto_region 4 with fail;obtain⟨gV,u⟩: ∃gV,gV=w2.heap.size:=⟨_,rfl⟩
 rw[←u];have M3:=(M2.blkNew TH3 #[aA,aB,.slice p1 n c1] gV u.symm)
 generalize World.alloc _ _=w3 at M3⊢;clear M2 aa u;have ap:=M3.hi 0;have aq:=M3.hi 4;have t0: ¬(a<0):=by omega
 obtain⟨v0,v1,v2⟩:=(M3.bk 0).tri;have a0:=(M3.bk 4).cl 0;have ak:=(M3.bk 4).frozen 0;have a1:=(M3.bk 4).cl 1;have al:=(M3.bk 4).frozen 1;have a2:=(M3.bk 4).cl 2;have am:=(M3.bk 4).frozen 2;obtain⟨o,r⟩:=M3.nq 0 4;go_upto_region 7 with fail;clear v0 v1 v2 a0 ak a1 al a2 am o r;have M4:=((M3.st 4 0 (.int .i64 aA)).st 4 1 (.int .i64 aB))
 have M5:=(M4.st 4 2 (.slice p1 n c1))
 have M6:=(M5)
 generalize ag:World.setCell _ _ _=w5;rw[ag]at M6;clear ag M3 M4 M5;have g:=(show Mem w0 w5 [aI w0.heap.size TI 1 (p1) (n) (c1) (ivs (ys)),aI w0.heap.size TV 4 (some ⟨gq,0,none⟩) (m) (c2) (vs.flatMap aC),aJ w0.heap.size (gA) aL #[aA,aB,.slice p1 n c1,b,d,aE,aG,aD,aF,.slice (some ⟨gq,0,none⟩) m c2],R]from(M6.pick [1,3,4,5] (by decide) rfl))
 clear M6;have j:gA<w5.heap.size:=(g.hi 2)
 obtain⟨a0,a1,a2,a3,a4,a5,a6,a7,a8,a9⟩:=(g.bk 2).ten;go_wp2_with fail;clear a0 a1 a2 a3 a4 a5 a6 a7 a8 a9;have ab:=xQ (g.sq 1);refine(HX _ _ _ ab.out).mono ?_;rintro e ar ⟨rfl,s⟩;have f:=(g.adv s)
 clear g j s ab;have l:=f.hi 2;have t:=xQ (aKu gq m c2 w0.heap.size k (k+1) vs ar (by omega) hk rfl (f.ow 1));rw[show((k+1:Nat):Int)=(k:Int)+1 by omega]at t;have au:IntKind.i64.wrap ((k:Int)+1)=(k:Int)+1:=IntWalk.i64_in _ (by omega);have a9:=(f.bk 2).cl 9;go_wp2_with fail;clear a9;refine t.out.mono ?_;rintro e w8 ⟨rfl,af,ad⟩;have h:=(show Mem w0 w8 [aI w0.heap.size TI 1 (p1) (n) (c1) (ivs (ys)),aI w0.heap.size TV 4 (some ⟨gq,0,none⟩) (m-1) (c2) ((vs.eraseIdx k).flatMap aC),aJ w0.heap.size (gA) aL #[aA,aB,.slice p1 n c1,b,d,aE,aG,aD,aF,.slice (some ⟨gq,0,none⟩) m c2],R]from f.app (i:=1) rfl af ad (.inl rfl))
 clear f l af ad t;have ai:=h.hi 2;have a9:=(h.bk 2).cl 9;have an:=(h.bk 2).frozen 9;go_wp2;clear a9 an;exact bodyPost_ret (v:= .tuple #[a,.bool true]) (by simp[results,Tryz.results48,go_sem, *]) rfl ⟨p1,c1,rfl,(h.st 2 9 (.slice (some ⟨gq,0,none⟩) (m-1) c2))⟩
end Go.Proofs.YtpelpnfhbepokaaGreatDoor
