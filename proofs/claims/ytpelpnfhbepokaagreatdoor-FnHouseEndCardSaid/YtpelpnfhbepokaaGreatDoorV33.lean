/-
  Texts of this proof, packed (@packed).
-/
import Derived.Test.YtpelpnfhbepokaaGreatDoorV32
namespace Go.Proofs.YtpelpnfhbepokaaGreatDoor
open Go.RowKit
set_option linter.unusedVariables false
set_option linter.unusedSimpArgs false
set_option maxHeartbeats 8000000
set_option maxRecDepth 100000
theorem aG9 (w:World)(gA:Nat)(aA aB d h aE aF aC aG id a:Int)(p:OA)(n b:Nat)(q:OA)(m c2:Nat)(ys:List Int)(h0:a<0)(hA:Hid (Blk w gA aL #[aA,aB,.slice (p) n b,d,h,aE,aF,aC,aG,.slice (q) m c2]))
  (HS:xC 96 #[aH aA aB p n b,id] w fun w' e w''=> ∃q c,e= .returned (.tuple #[aH aA aB q n c,a])∧w''.ownsRow w'.heap.size TI 1 (.slice q n c) n (ivs ys)∧Ext w' w''):
  Calls Tryz.prog 46 #[.pointer (some ⟨gA,0,none⟩),id] w fun e w'=>e= .returned (.tuple #[(-1:Int),.bool false])∧Ext w w':=by
 go_enter Tryz.func46,Tryz.ntmps46;obtain⟨a0,a1,a2,a3,a4,a5,a6,a7,a8,a9⟩:=hA.out.ten;have i:=hA.out.lt;go_wp2_with fail;clear a0 a1 a2 a3 a4 a5 a6 a7 a8 a9;refine(HS _ (Ext.refl _)).mono ?_;rintro e w1 ⟨p1,c1,rfl,f,g⟩;have M1:=((Mem.start w).call g f)
 clear g f;have hX:=xQ M1.ext;go_wp2;exact bodyPost_ret (v:= .tuple #[(-1:Int),.bool false]) (by simp[results,Tryz.results46,go_sem, *]) rfl ⟨rfl,by have:=hX.out;exact xE⟩
theorem aDg (w0 w:World)(R:Item)(gA:Nat)(aA aB b d aE aF aC aG id a:Int)(p:OA)(n y:Nat)(q:OA)(m c2:Nat)(xs ys:List Int)(vs:List aP)(hm:m≤900)(h0:0≤a)(hl:Hid (vs.length=m))(hM:Hid (Mem w0 w [aJ w0.heap.size TI 1 (p) (n) (y) (ivs (xs)),aJ w0.heap.size TV 4 (q) (m) (c2) (vs.flatMap aD),aI w0.heap.size (gA) aL #[aA,aB,.slice (p) n y,b,d,aE,aF,aC,aG,.slice (q) m c2],R]))
  (HS:xC 96 #[aH aA aB p n y,id] w fun w' e w''=> ∃q c,e= .returned (.tuple #[aH aA aB q n c,a])∧w''.ownsRow w'.heap.size TI 1 (.slice q n c) n (ivs ys)∧Ext w' w''):
  Calls Tryz.prog 46 #[.pointer (some ⟨gA,0,none⟩),id] w fun e w'=> ∃p1 c1 q9 c9,e= .returned (.tuple #[a,.bool true])∧Mem w0 w' [aJ w0.heap.size TI 1 (p1) (n) (c1) (ivs (ys)),aJ w0.heap.size TV 4 (q9) (m+1) (c9) ((jW (id,aC,0,aC) vs).flatMap aD),aI w0.heap.size (gA) aL #[aA,aB,.slice (p1) n c1,b,d,aE,aF,aC,aG,.slice (q9) (m+1) c9],R]:=by
 go_enter Tryz.func46,Tryz.ntmps46;have ab:gA<w.heap.size:=(hM.out.hi 2)
 have a0:=(hM.out.bk 2).cl 0;have a1:=(hM.out.bk 2).cl 1;have a2:=(hM.out.bk 2).cl 2;go_wp2_with fail;clear a0 a1 a2;refine(HS _ (Ext.refl _)).mono ?_;rintro e w1 ⟨p1,c1,rfl,ah,aj⟩;have M1:=(hM.out.call aj ah)
 clear hM ab aj ah;have ad:=M1.hi 3;go_upto_region 2 with fail;obtain⟨gV,z⟩: ∃gV,gV=w1.heap.size:=⟨_,rfl⟩
 rw[←z];have M2:=(M1.blkNew TH3 #[aA,aB,.slice p1 n c1] gV z.symm)
 generalize World.alloc _ _=w2 at M2⊢;clear M1 ad z;have an:=M2.hi 0;have ao:=M2.hi 4;have t0:decide (a<0)=false:=by simp;omega
 obtain⟨v0,v1,v2⟩:=(M2.bk 0).tri;have a0:=(M2.bk 4).cl 0;have ak:=(M2.bk 4).frozen 0;have a1:=(M2.bk 4).cl 1;have al:=(M2.bk 4).frozen 1;have a2:=(M2.bk 4).cl 2;have am:=(M2.bk 4).frozen 2;obtain⟨s,t⟩:=M2.nq 0 4;go_upto_region 5 with fail;clear v0 v1 v2 a0 ak a1 al a2 am s t;have M3:=((M2.st 4 0 (.int .i64 aA)).st 4 1 (.int .i64 aB))
 have M4:=(M3.st 4 2 (.slice p1 n c1))
 have M5:=(M4)
 generalize ai:World.setCell _ _ _=w5;rw[ai]at M5;clear ai M2 M3 M4;have M6:=(show Mem w0 w5 [aJ w0.heap.size TI 1 (p1) (n) (c1) (ivs (ys)),aJ w0.heap.size TV 4 (q) (m) (c2) (vs.flatMap aD),aI w0.heap.size (gA) aL #[aA,aB,.slice (p1) n c1,b,d,aE,aF,aC,aG,.slice (q) m c2],R]from(M5.pick [1,3,4,5] (by decide) rfl))
 clear M5;go_wp2;go_loopw [8] (fun at_ wr=> ∃(k:Nat),k≤m∧at_= .int .i64 (k:Int)∧(∀u∈vs.take k,u.1<id)∧w5=wr) (fun at_ _=>m-(intOf at_).toNat)
 case atStart=>exact⟨0,Nat.zero_le _,rfl,by simp,rfl⟩
 case round=>
  obtain⟨k,hk,rfl,af,rfl⟩:=hrel;have j:=xQ af;clear af;have b9:=(M6.bk 2).cl 9;have f:=(M6.hi 2)
  by_cases hkm:k<m
  ·obtain⟨gq,aa,_,_⟩:=M6.so 1;obtain⟨⟨a0,a1,a2,a3⟩,hx⟩: ∃x,vs[k]? =some x:=⟨_,List.getElem?_eq_getElem (by rw[hl.out];exact hkm)⟩
   have ca:w5.cell? ⟨gq,k*4,none⟩=some (.int .i64 a0):=by
    have h1:=(M6.ow 1)
    rw[aa]at h1;have h2:=h1.cellAt (k*4) (by omega);rw[h2];exact dW aD 4 (fun _=>rfl) vs k _ hx 0 (by omega)
   have i1:(0:Int)≤(k:Int):=by omega
   have i2:(k:Int)<(m:Int):=by omega
   by_cases h7:a0<id
   ·have t1:decide (a0<id)=true:=by simp[h7]
    have ag:=xQ (show∀u∈vs.take (k+1),u.1<id from by
     intro u hu;rw[bA hx,List.mem_append,List.mem_singleton]at hu;rcases hu with hu|rfl
     ·exact j u hu
     ·exact h7)
    clear hx h7;subst aa;go_wp2;go_roundw
    case rel=>exact⟨k+1,by omega,by go_num,ag.out,by trivial⟩
    case measure=>simp[intOf];omega
   have t1:decide (a0<id)=false:=by simp;omega
   have h:=xQ (show∀u,vs[k]? =some u→ ¬u.1<id from fun u hu=>by rw[hx]at hu;injection hu with hu;subst hu;exact h7);clear hx h7;subst aa;go_upto_region 8 with fail;clear b9 ca i1 i2 t1 f;have l:=xQ (pR (id,aC,0,aC) vs k j h.out);have HI:=xQ (fun(w1:World) (vb:Nat) (hx:Ext w5 w1) (hb:Blk w1 vb TV (aD (id,aC,0,aC)).toArray) (hle:w5.heap.size≤vb)=>aAh (w0:=w0) (w:=w1) (some ⟨gq,0,none⟩) k vb c2 m vs (id,aC,0,aC) 1 (by omega) hl (xQ (M6.adv hx)) (xQ hb) hk (fun g hg=>by have h7:=(M6.lt (i:=1) (g:=g) rfl hg).2;omega) (xQ rfl));rw[←l.out]at HI;have a7:=(M6.bk 2).cl 7;have a9:=(M6.bk 2).cl 9;have f:=(M6.hi 2)
   clear j h l;go_wp2_with fail
   go_region_with (first
    |(go_at_call 97;refine(HI _ _ (by first|exact(Ext.refl _).alloc _|exact Ext.drew ((Ext.refl _).alloc _)|exact xE) (by first|exact Blk.new _ _ _|exact(Blk.new _ _ _).ext (Ext.drew (Ext.refl _))) (by first|exact Nat.le_refl _|simp)).mono ?_
      rintro e w9 ⟨q9,c9,rfl,o⟩;have M9:=(show Mem w0 w9 [aJ w0.heap.size TI 1 (p1) (n) (c1) (ivs (ys)),aJ w0.heap.size TV 4 (q9) (m+1) (c9) ((jW (id,aC,0,aC) vs).flatMap aD),aI w0.heap.size (gA) aL #[aA,aB,.slice (p1) n c1,b,d,aE,aF,aC,aG,.slice (some ⟨gq,0,none⟩) m c2],R]from o)
      clear o;have x7:=(M9.bk 2).cl 7;have x9:=(M9.bk 2).cl 9;have ae:=(M9.bk 2).frozen 9
      have r:=(M9.hi 2)))
   all_goals (
   clear a7 a9 f x7 x9 ae r HI M6;have MX:=(M9.st 2 9 (.slice q9 (m+1) c9))
   clear M9;go_wp2
   exact bodyPost_ret (v:= .tuple #[a,.bool true]) (by simp[results,Tryz.results46,go_sem, *]) rfl ⟨p1,c1,q9,c9,rfl,MX⟩)
  obtain rfl:m=k:=by omega
  have h:=xQ (show∀u,vs[m]? =some u→ ¬u.1<id from fun u hu=>by rw[List.getElem?_eq_none (by rw[hl.out];exact Nat.le_refl _)]at hu;cases hu);go_upto_region 8 with fail;clear b9 f;have l:=xQ (pR (id,aC,0,aC) vs m j h.out);have HI:=xQ (fun(w1:World) (vb:Nat) (hx:Ext w5 w1) (hb:Blk w1 vb TV (aD (id,aC,0,aC)).toArray) (hle:w5.heap.size≤vb)=>aAh (w0:=w0) (w:=w1) q m vb c2 m vs (id,aC,0,aC) 1 (by omega) hl (xQ (M6.adv hx)) (xQ hb) (Nat.le_refl _) (fun g hg=>by have h7:=(M6.lt (i:=1) (g:=g) rfl hg).2;omega) (xQ rfl));rw[←l.out]at HI;have a7:=(M6.bk 2).cl 7;have a9:=(M6.bk 2).cl 9;have f:=(M6.hi 2)
  clear j h l;go_wp2_with fail
  go_region_with (first
   |(go_at_call 97;refine(HI _ _ (by first|exact(Ext.refl _).alloc _|exact Ext.drew ((Ext.refl _).alloc _)|exact xE) (by first|exact Blk.new _ _ _|exact(Blk.new _ _ _).ext (Ext.drew (Ext.refl _))) (by first|exact Nat.le_refl _|simp)).mono ?_
     rintro e w9 ⟨q9,c9,rfl,o⟩;have M9:=(show Mem w0 w9 [aJ w0.heap.size TI 1 (p1) (n) (c1) (ivs (ys)),aJ w0.heap.size TV 4 (q9) (m+1) (c9) ((jW (id,aC,0,aC) vs).flatMap aD),aI w0.heap.size (gA) aL #[aA,aB,.slice (p1) n c1,b,d,aE,aF,aC,aG,.slice (q) m c2],R]from o)
     clear o;have x7:=(M9.bk 2).cl 7;have x9:=(M9.bk 2).cl 9;have ae:=(M9.bk 2).frozen 9
     have r:=(M9.hi 2)))
  all_goals (
  clear a7 a9 f x7 x9 ae r HI M6;have MX:=(M9.st 2 9 (.slice q9 (m+1) c9))
  clear M9;go_wp2
  exact bodyPost_ret (v:= .tuple #[a,.bool true]) (by simp[results,Tryz.results46,go_sem, *]) rfl ⟨p1,c1,q9,c9,rfl,MX⟩)
theorem aFz (i pd a now f s p c amt D:Int)(w:World)(hD:0≤D)(n:D≤693)(o:0≤pd)(hp:pd≤9999)
  (HD:Hid (∀w,Calls Tryz.prog 57 #[aQ f s p c,bP i pd a,now] w fun e w'=>e= .returned (.int .i64 D)∧Ext w w'))(ha:amt<1):
  Calls Tryz.prog 98 #[aQ f s p c,bP i pd a,now,amt] w fun e w'=>e= .returned (.tuple #[bP 0 0 0,amt,.bool false])∧Ext w w':=by
 go_enter Tryz.func98,Tryz.ntmps98;go_wp2_with fail;refine(HD _).mono ?_;rintro e w1 ⟨rfl,d⟩;have M1:=(((((Mem.start w).c0 TT4 #[f,s,p,c]).c1 TS3 #[i,pd,a]).c2 TS3 #[(),(),()]).adv d)
 have k:=M1.hi 0;have l:=M1.hi 1;have m:=M1.hi 2;clear d HD;have t0:decide (D<0)=false:=by simp;omega
 have t1:decide (amt<1)=true:=by simp;omega
 obtain⟨c0,c1,c2⟩:=(M1.bk 1).tri;obtain⟨d0,g,d1,h,d2,j⟩:=(M1.bk 0).trif;go_wp2;clear c0 c1 c2 d0 g d1 h d2 j;have M2:=(M1.put3 (i:=0) rfl (.int .i64 0) (.int .i64 0) (.int .i64 0))
 generalize b:World.setCell _ _ _=wz;rw[b]at M2;clear b M1;obtain⟨y0,y1,y2⟩:=(M2.bk 0).tri;exact bodyPost_ret (v:= .tuple #[.agg #[(),(),()],amt,.bool false]) (by simp[results,Tryz.results98,go_sem, *]) rfl ⟨rfl,M2.ext⟩
theorem aG0 (i pd a now f s p c amt D:Int)(w:World)(hD:0≤D)(n:D≤693)(o:0≤pd)(hp:pd≤9999)
  (HD:Hid (∀w,Calls Tryz.prog 57 #[aQ f s p c,bP i pd a,now] w fun e w'=>e= .returned (.int .i64 D)∧Ext w w'))(ha:300<amt):
  Calls Tryz.prog 98 #[aQ f s p c,bP i pd a,now,amt] w fun e w'=>e= .returned (.tuple #[bP 0 0 0,amt,.bool false])∧Ext w w':=by
 go_enter Tryz.func98,Tryz.ntmps98;go_wp2_with fail;refine(HD _).mono ?_;rintro e w1 ⟨rfl,d⟩;have M1:=(((((Mem.start w).c0 TT4 #[f,s,p,c]).c1 TS3 #[i,pd,a]).c2 TS3 #[(),(),()]).adv d)
 have k:=M1.hi 0;have l:=M1.hi 1;have m:=M1.hi 2;clear d HD;have t0:decide (D<0)=false:=by simp;omega
 have t1:decide (amt<1)=false:=by simp;omega
 have t2:decide (300<amt)=true:=by simp;omega
 obtain⟨c0,c1,c2⟩:=(M1.bk 1).tri;obtain⟨d0,g,d1,h,d2,j⟩:=(M1.bk 0).trif;go_wp2;clear c0 c1 c2 d0 g d1 h d2 j;have M2:=(M1.put3 (i:=0) rfl (.int .i64 0) (.int .i64 0) (.int .i64 0))
 generalize b:World.setCell _ _ _=wz;rw[b]at M2;clear b M1;obtain⟨y0,y1,y2⟩:=(M2.bk 0).tri;exact bodyPost_ret (v:= .tuple #[.agg #[(),(),()],amt,.bool false]) (by simp[results,Tryz.results98,go_sem, *]) rfl ⟨rfl,M2.ext⟩
theorem aAj (i pd a now f s p c amt:Int)(w:World)(n:0≤pd)(hp:pd≤9999)
  (HD:Hid (∀w,Calls Tryz.prog 57 #[aQ f s p c,bP i pd a,now] w fun e w'=>e= .returned (.int .i64 0)∧Ext w w'))(ha:1≤amt)(hb:amt≤300):
  Calls Tryz.prog 98 #[aQ f s p c,bP i pd a,now,amt] w fun e w'=>e= .returned (.tuple #[bP i pd a,amt,.bool false])∧Ext w w':=by
 go_enter Tryz.func98,Tryz.ntmps98;go_wp2_with fail;refine(HD _).mono ?_;rintro e w1 ⟨rfl,d⟩;have M1:=(((((Mem.start w).c0 TT4 #[f,s,p,c]).c1 TS3 #[i,pd,a]).c2 TS3 #[(),(),()]).adv d)
 have k:=M1.hi 0;have l:=M1.hi 1;have m:=M1.hi 2;clear d HD;have t1:decide (amt<1)=false:=by simp;omega
 have t2:decide (300<amt)=false:=by simp;omega
 obtain⟨c0,c1,c2⟩:=(M1.bk 1).tri;obtain⟨d0,g,d1,h,d2,j⟩:=(M1.bk 0).trif;go_wp2;clear c0 c1 c2 d0 g d1 h d2 j;have M2:=(M1.put3 (i:=0) rfl (.int .i64 i) (.int .i64 pd) (.int .i64 a))
 generalize b:World.setCell _ _ _=wz;rw[b]at M2;clear b M1;obtain⟨y0,y1,y2⟩:=(M2.bk 0).tri;exact bodyPost_ret (v:= .tuple #[.agg #[i,pd,a],amt,.bool false]) (by simp[results,Tryz.results98,go_sem, *]) rfl ⟨rfl,M2.ext⟩
theorem aD2 (i pd a now f s p c amt D:Int)(w:World)(hD:0≤D)(o:D≤693)(t:0≤pd)(hp:pd≤9999)
  (HD:Hid (∀w,Calls Tryz.prog 57 #[aQ f s p c,bP i pd a,now] w fun e w'=>e= .returned (.int .i64 D)∧Ext w w'))(ha:1≤amt)(hb:amt≤300)(n:1≤D):
  Calls Tryz.prog 98 #[aQ f s p c,bP i pd a,now,amt] w fun e w'=>e= .returned (.tuple #[bP i (pd+min D amt) now,(amt-min D amt:Int),.bool true])∧Ext w w':=by
 go_enter Tryz.func98,Tryz.ntmps98;go_wp2_with fail;refine(HD _).mono ?_;rintro e w1 ⟨rfl,d⟩;have M1:=(((((Mem.start w).c0 TT4 #[f,s,p,c]).c1 TS3 #[i,pd,a]).c2 TS3 #[(),(),()]).adv d)
 have k:=M1.hi 0;have l:=M1.hi 1;have m:=M1.hi 2;clear d HD;have r:min amt D=min D amt:=Int.min_comm _ _;have k1:IntKind.i64.wrap (pd+min D amt)=pd+min D amt:=IntWalk.i64_in _ (by omega);have k2:IntKind.i64.wrap (amt-min D amt)=amt-min D amt:=IntWalk.i64_in _ (by omega);have q:(D==0)=false:=by simp;omega
 have t0:decide (D<0)=false:=by simp;omega
 have t1:decide (amt<1)=false:=by simp;omega
 have t2:decide (300<amt)=false:=by simp;omega
 obtain⟨c0,c1,c2⟩:=(M1.bk 1).tri;obtain⟨d0,g,d1,h,d2,j⟩:=(M1.bk 0).trif;go_wp2;clear c0 c1 c2 d0 g d1 h d2 j;have M2:=(M1.put3 (i:=0) rfl (.int .i64 i) (.int .i64 (pd+min D amt)) (.int .i64 now))
 generalize b:World.setCell _ _ _=wz;rw[b]at M2;clear b M1;obtain⟨y0,y1,y2⟩:=(M2.bk 0).tri;exact bodyPost_ret (v:= .tuple #[.agg #[i,(pd+min D amt:Int),now],(amt-min D amt:Int),.bool true]) (by simp[results,Tryz.results98,go_sem, *]) rfl ⟨rfl,M2.ext⟩
theorem aAk (f s p c i pd a now amt:Int)(w:World)(h:bD f s p c=true)(h2:cW i pd a=true)(h3:a≤now)(h4:now≤9999):
  Calls Tryz.prog 98 #[aQ f s p c,bP i pd a,now,amt] w fun e w'=>e= .returned (.tuple #[bP (fT f s p c i pd a now amt).1.1 (fT f s p c i pd a now amt).1.2.1 (fT f s p c i pd a now amt).1.2.2,.int .i64 (fT f s p c i pd a now amt).2.1,.bool (fT f s p c i pd a now amt).2.2])∧Ext w w':=by
 obtain⟨b1,b2,b3,b4,b5,b6⟩:=eT h2;obtain⟨e1,e2⟩:=kJ h h2 h3 h4;have HD:=xQ (fun w=>uJ f s p c i pd a now w h h2 h3 h4);unfold fT;generalize bX f s p c i pd a now=D at*;by_cases ha:1≤amt∧amt≤300
 ·rw[if_pos ha];by_cases hd:D=0
  ·subst hd;rw[if_pos rfl];exact aAj i pd a now f s p c amt w b3 b4 HD ha.1 ha.2
  rw[if_neg hd];exact aD2 i pd a now f s p c amt D w e1 e2 b3 b4 HD ha.1 ha.2 (by omega)
 rw[if_neg ha];by_cases hb:amt<1
 ·exact aFz i pd a now f s p c amt D w e1 e2 b3 b4 HD hb
 exact aG0 i pd a now f s p c amt D w e1 e2 b3 b4 HD (by omega)
theorem aAw (w:World)(gA:Nat)(aA aB a b aE aF aC aG id amt:Int)(p:OA)(n c:Nat)(q:OA)(m c2:Nat)(hA:Hid (Blk w gA aL #[aA,aB,.slice p n c,a,b,aE,aF,aC,aG,.slice q m c2]))
  (HX:xC 50 #[.agg #[aA,aB,.slice p n c,a,b,aE,aF,aC,aG,.slice q m c2],id] w fun w' e w''=>e= .returned (.int .i64 (-1))∧Ext w' w''):
  Calls Tryz.prog 47 #[.pointer (some ⟨gA,0,none⟩),id,amt] w fun e w'=>e= .returned (.tuple #[(-1:Int),.bool false])∧Ext w w':=by
 obtain⟨a0,a1,a2,a3,a4,a5,a6,a7,a8,a9⟩:=hA.out.ten;have d:=hA.out.lt;go_enter Tryz.func47,Tryz.ntmps47;go_wp2_with fail;clear a0 a1 a2 a3 a4 a5 a6 a7 a8 a9;refine(HX _ (Ext.refl _)).mono ?_;rintro e w1 ⟨rfl,hx⟩;have hX:=xQ hx;clear hx;go_wp2;exact bodyPost_ret (v:= .tuple #[(-1:Int),.bool false]) (by simp[results,Tryz.results47,go_sem, *]) rfl ⟨rfl,hX.out⟩
theorem aAv (w0 w:World)(R:Item)(gA gq:Nat)(aA aB d h aE aF aC aG id amt:Int)(p:OA)(n j m c2 k:Nat)(xs:List Int)(vs:List aP)(a0 a1 a2 a3 S1 S2 S3 bk:Int)(o:Bool)(hk:k<m)(hm:m≤1000)(bw:0≤aG)(bm:aG≤99999)(a8:o=true→0≤bk∧bk≤amt∧amt≤300)(l:Hid (vs[k]? =some (a0,a1,a2,a3)))
  (hM:Hid (Mem w0 w [aJ w0.heap.size TI 1 (p) (n) (j) (ivs xs),aJ w0.heap.size TV 4 (some ⟨gq,0,none⟩) (m) (c2) (vs.flatMap aD),aI w0.heap.size (gA) aL #[aA,aB,.slice p n j,d,h,aE,aF,aC,aG,.slice (some ⟨gq,0,none⟩) m c2],R]))
  (HX:xC 50 #[.agg #[aA,aB,.slice p n j,d,h,aE,aF,aC,aG,.slice (some ⟨gq,0,none⟩) m c2],id] w fun w' e w''=>e= .returned (.int .i64 (k:Int))∧Ext w' w'')
  (HP:Hid (∀w',Calls Tryz.prog 98 #[aQ d h aE aF,bP a1 a2 a3,aC,amt] w' fun e w''=>e= .returned (.tuple #[bP S1 S2 S3,bk,.bool o])∧Ext w' w'')):
  Calls Tryz.prog 47 #[.pointer (some ⟨gA,0,none⟩),id,amt] w fun e w'=>(e= .returned (.tuple #[(-1:Int),.bool false])∧ ¬(o=true∧aG+amt-bk≤99999)∧Ext w w')∨
   (o=true∧aG+amt-bk≤99999∧e= .returned (.tuple #[bk,.bool true])∧Mem w0 w' [aJ w0.heap.size TI 1 (p) (n) (j) (ivs xs),aJ w0.heap.size TV 4 (some ⟨gq,0,none⟩) (m) (c2) ((vs.set k (a0,S1,S2,S3)).flatMap aD),aI w0.heap.size (gA) aL #[aA,aB,.slice p n j,d,h,aE,aF,aC,(aG+amt-bk:Int),.slice (some ⟨gq,0,none⟩) m c2],R]):=by
 go_enter Tryz.func47,Tryz.ntmps47;have a9:gA<w.heap.size:=(hM.out.hi 2)
 have s:=(hM.out.lt (i:=1) (g:=gq) rfl rfl).2;have g1:w.cell? ⟨gq,k*4+1,none⟩=some (.int .i64 a1):=((hM.out.ow 1).cellAt (k*4+1) (by omega)).trans (dW aD 4 (fun _=>rfl) vs k _ l.out 1 (by omega));have g2:w.cell? ⟨gq,k*4+2,none⟩=some (.int .i64 a2):=((hM.out.ow 1).cellAt (k*4+2) (by omega)).trans (dW aD 4 (fun _=>rfl) vs k _ l.out 2 (by omega));have g3:w.cell? ⟨gq,k*4+3,none⟩=some (.int .i64 a3):=((hM.out.ow 1).cellAt (k*4+3) (by omega)).trans (dW aD 4 (fun _=>rfl) vs k _ l.out 3 (by omega));obtain⟨z0,z1,z2,z3,z4,z5,z6,z7,z8,z9⟩:=(hM.out.bk 2).ten;go_wp2_with fail;clear z0 z1 z2 z3 z4 z5 z6 z7 z8 z9;refine(HX _ (Ext.refl _)).mono ?_;rintro e w2 ⟨rfl,ag⟩;have q:=xQ ag;have M2:=(hM.out.adv ag)
 clear ag HX;have bx:=(M2.hi 2)
 have ad:gq<w2.heap.size:=Nat.lt_of_lt_of_le s q.out.sz;have ak:w2.cell? ⟨gq,k*4+1,none⟩=some (.int .i64 a1):=(q.out.cells.1 _ _ s).trans g1;have al:w2.cell? ⟨gq,k*4+2,none⟩=some (.int .i64 a2):=(q.out.cells.1 _ _ s).trans g2;have am:w2.cell? ⟨gq,k*4+3,none⟩=some (.int .i64 a3):=(q.out.cells.1 _ _ s).trans g3;clear g1 g2 g3;obtain⟨aq,ar,au,av,aw,ax,ay,az,a4,a5⟩:=(M2.bk 2).ten;have i1:(0:Int)≤(k:Int):=by omega
 have i2:(k:Int)<(m:Int):=by omega
 have t0: ¬((k:Int)<0):=by omega
 have n1: ¬(gA=w2.heap.size):=by omega
 have n2: ¬(w2.heap.size=gA):=by omega
 have n3: ¬(gq=w2.heap.size):=by omega
 have n4: ¬(w2.heap.size=gq):=by omega
 go_upto_region 4 with fail;go_cut [9,10,11] (fun s11 s12 s13 wx=> ∃a:Nat,s11= .pointer (some ⟨a,0,none⟩)∧s12= .int .i64 bk∧s13= .bool o∧Ext w2 wx∧w2.heap.size≤a∧Blk wx a TS3 #[S1,S2,S3])
 case first=>
  go_region_held3 (fun w'=>w'.cell? ⟨gA,3,none⟩=some (.int .i64 d)∧w'.cell? ⟨gA,4,none⟩=some (.int .i64 h)∧w'.cell? ⟨gA,5,none⟩=some (.int .i64 aE)∧w'.cell? ⟨gA,6,none⟩=some (.int .i64 aF)∧w'.cell? ⟨gA,7,none⟩=some (.int .i64 aC)∧w'.cell? ⟨gA,9,none⟩=some (.slice (some ⟨gq,0,none⟩) m c2)∧w'.cell? ⟨gq,k*4+1,none⟩=some (.int .i64 a1)∧w'.cell? ⟨gq,k*4+2,none⟩=some (.int .i64 a2)∧w'.cell? ⟨gq,k*4+3,none⟩=some (.int .i64 a3))
   (first|(refine⟨?_,?_,?_,?_,?_,?_,?_,?_,?_⟩<;>assumption)|go_keep)
   ((go_at_call 98
     refine(HP _).mono ?_;rintro e w5 ⟨rfl,ap⟩;have f:Ext w2 w5:=xE;have bn:=((M2.bk 2).ext f).cl 3;have bo:=((M2.bk 2).ext f).cl 4;have bp:=((M2.bk 2).ext f).cl 5;have bq:=((M2.bk 2).ext f).cl 6;have br:=((M2.bk 2).ext f).cl 7;have bs:=((M2.bk 2).ext f).cl 9;have bt:w5.cell? ⟨gq,k*4+1,none⟩=some (.int .i64 a1):=(f.cells.1 _ _ ad).trans ak;have bu:w5.cell? ⟨gq,k*4+2,none⟩=some (.int .i64 a2):=(f.cells.1 _ _ ad).trans al;have bv:w5.cell? ⟨gq,k*4+3,none⟩=some (.int .i64 a3):=(f.cells.1 _ _ ad).trans am
     first
      |(have ah:Ext (w2.alloc (.cells #[(),(),()] TS3)) w5:=ap
        have BB:=(Blk.new w2 TS3 #[(),(),()]).ext ah;have bf:=BB.cl 0;have bi:=BB.frozen 0;have bg:=BB.cl 1;have bj:=BB.frozen 1;have bh:=BB.cl 2
        have bl:w5.frozen? ⟨w2.heap.size,2,none⟩=false:=BB.frozen 2)
      |(have ah:Ext (w2.alloc (.cells #[(),(),()] TS3)) w5:=ap.of_drew
        have BB:=(Blk.new w2 TS3 #[(),(),()]).ext ah;have bf:=BB.cl 0;have bi:=BB.frozen 0;have bg:=BB.cl 1;have bj:=BB.frozen 1;have bh:=BB.cl 2
        have bl:w5.frozen? ⟨w2.heap.size,2,none⟩=false:=BB.frozen 2)
      |skip))
  ·go_wp2_with fail;go_meet;exact⟨w5.heap.size,rfl,rfl,rfl,xE,by have:=f.sz;omega,Blk.new _ _ _⟩
  have hR:ExtR w2.heap.size w5 _:=(((ExtR.refl w2.heap.size w5).setCell (p:=⟨w2.heap.size,0,none⟩) (.inl rfl) (.int .i64 S1)).setCell (p:=⟨w2.heap.size,1,none⟩) (.inl rfl) (.int .i64 S2)).setCell (p:=⟨w2.heap.size,2,none⟩) (.inl rfl) (.int .i64 S3);have hY:=((BB.set 0 (.int .i64 S1)).set 1 (.int .i64 S2)).set 2 (.int .i64 S3);simp only[List.setIfInBounds_toArray,List.set_cons_zero,List.set_cons_succ]at hY;go_wp2_with fail;go_meet;exact⟨w2.heap.size,rfl,rfl,rfl,ExtR.new f hR (Nat.le_refl _),Nat.le_refl _,hY⟩
 case rest=>
  clear aq ar au av aw ax ay az a4 a5 ak al am HP n1 n2 n3 n4;obtain⟨a,rfl,rfl,rfl,ab,ha,an⟩:=hcut;have b:=xQ (q.out.trans ab);have M3:=(M2.blkOf ab an ha)
  clear M2 ab ha an;have ai:=M3.hi 0;have aj:=M3.hi 3;cases o with
  |false=>
   have ae:Hid (¬(false=true∧aG+amt-bk≤99999)):=by show¬_;simp
   go_wp2
   exact bodyPost_ret (v:= .tuple #[(-1:Int),.bool false]) (by simp[results,Tryz.results47,go_sem, *]) rfl (by
    have c:=ae.out
    first|exact .inl ⟨rfl,c,b.out⟩|exact .inl ⟨rfl,by omega,b.out⟩|exact .inl ⟨by omega,b.out⟩|exact .inl ⟨rfl,b.out⟩|exact .inl b.out|exact b.out|(simp at c;first|exact .inl ⟨rfl,c,b.out⟩|exact .inl ⟨c,b.out⟩|exact .inl ⟨rfl,by omega,b.out⟩|exact .inl ⟨by omega,b.out⟩))
  |true=>
   obtain⟨o1,o2,o3⟩:=a8 rfl;have k1:IntKind.i64.wrap (aG+amt)=aG+amt:=IntWalk.i64_in _ (by omega);have k2:IntKind.i64.wrap (aG+amt-bk)=aG+amt-bk:=IntWalk.i64_in _ (by omega);have k3:IntKind.i64.wrap (amt-bk)=amt-bk:=IntWalk.i64_in _ (by omega);have k4:IntKind.i64.wrap (aG+(amt-bk))=aG+amt-bk:=by rw[IntWalk.i64_in _ (by omega)];omega
   have h8:=(M3.bk 3).cl 8;by_cases hq:aG+amt-bk≤99999
   ·have hd:decide (99999<aG+amt-bk)=false:=by simp;omega
    have af:=xQ hq;clear hq;go_upto_region 7 with fail;clear h8;have d9:=(M3.bk 3).cl 9;obtain⟨bc,bd,be⟩:=(M3.bk 0).tri;have y1:wc.cell? ⟨gq,k*4+1,none⟩=some (.int .i64 a1):=((M3.ow 2).cellAt (k*4+1) (by omega)).trans (dW aD 4 (fun _=>rfl) vs k _ l.out 1 (by omega));have z1:wc.frozen? ⟨gq,k*4+1,none⟩=false:=(M3.ow 2).frozenAt (k*4+1);have y2:wc.cell? ⟨gq,k*4+2,none⟩=some (.int .i64 a2):=((M3.ow 2).cellAt (k*4+2) (by omega)).trans (dW aD 4 (fun _=>rfl) vs k _ l.out 2 (by omega));have z2:wc.frozen? ⟨gq,k*4+2,none⟩=false:=(M3.ow 2).frozenAt (k*4+2);have y3:wc.cell? ⟨gq,k*4+3,none⟩=some (.int .i64 a3):=((M3.ow 2).cellAt (k*4+3) (by omega)).trans (dW aD 4 (fun _=>rfl) vs k _ l.out 3 (by omega));have z3:wc.frozen? ⟨gq,k*4+3,none⟩=false:=(M3.ow 2).frozenAt (k*4+3);obtain⟨t,u⟩:=M3.nq 0 3;obtain⟨x,y⟩:=M3.nq 2 3;obtain⟨z,aa⟩:=M3.nq 0 2;go_region;clear d9 bc bd be y1 z1 y2 z2 y3 z3 t u x y z aa;have a7:Hid ((((vs.flatMap aD).set (k*4+1) (.int .i64 S1)).set (k*4+2) (.int .i64 S2)).set (k*4+3) (.int .i64 S3)=(vs.set k (a0,S1,S2,S3)).flatMap aD):=wB l S1 S2 S3;have MX:=(show Mem w0 (((wc.setCell ⟨gq,k*4+1,none⟩ (.int .i64 S1)).setCell ⟨gq,k*4+2,none⟩ (.int .i64 S2)).setCell ⟨gq,k*4+3,none⟩ (.int .i64 S3)).drew [aI w0.heap.size (a) TS3 #[S1,S2,S3],aJ w0.heap.size TI 1 (p) (n) (j) (ivs xs),aJ w0.heap.size TV 4 (some ⟨gq,0,none⟩) (m) (c2) ((vs.set k (a0,S1,S2,S3)).flatMap aD),aI w0.heap.size (gA) aL #[aA,aB,.slice p n j,d,h,aE,aF,aC,aG,.slice (some ⟨gq,0,none⟩) m c2],R]from by rw[←a7.out];exact(((M3.ostore (i:=2) rfl (k*4+1) (.int .i64 S1)).ostore (i:=2) rfl (k*4+2) (.int .i64 S2)).ostore (i:=2) rfl (k*4+3) (.int .i64 S3)).adv (Ext.drew (Ext.refl _)))
    generalize ao:World.drew _=w7;rw[ao]at MX;clear ao M3 ai aj;have ba:a<w7.heap.size:=(MX.hi 0)
    have bb:gA<w7.heap.size:=(MX.hi 3)
    have d8:=(MX.bk 3).cl 8;have a6:=(MX.bk 3).frozen 8;go_wp2;clear d8 a6;exact bodyPost_ret (v:= .tuple #[bk,.bool true]) (by simp[results,Tryz.results47,go_sem, *]) rfl (by have r:Hid (Mem w0 _ [aJ w0.heap.size TI 1 (p) (n) (j) (ivs xs),aJ w0.heap.size TV 4 (some ⟨gq,0,none⟩) (m) (c2) ((vs.set k (a0,S1,S2,S3)).flatMap aD),aI w0.heap.size (gA) aL #[aA,aB,.slice p n j,d,h,aE,aF,aC,(aG+amt-bk:Int),.slice (some ⟨gq,0,none⟩) m c2],R]):=((MX.store (i:=3) rfl 8 (.int .i64 (aG+amt-bk))).pick [1,2,3,4] (by decide) rfl);first|exact .inr ⟨rfl,af.out,rfl,r.out⟩|exact .inr ⟨af.out,rfl,r.out⟩|exact .inr ⟨af.out,r.out⟩)
   have ae:Hid (¬(true=true∧aG+amt-bk≤99999)):=by show¬_;simp[hq]
   have hd:decide (99999<aG+amt-bk)=true:=by simp;omega
   go_wp2
   exact bodyPost_ret (v:= .tuple #[(-1:Int),.bool false]) (by simp[results,Tryz.results47,go_sem, *]) rfl (by
    have c:=ae.out
    first|exact .inl ⟨rfl,c,b.out⟩|exact .inl ⟨rfl,by omega,b.out⟩|exact .inl ⟨by omega,b.out⟩|exact .inl ⟨rfl,b.out⟩|exact .inl b.out|exact b.out|(simp at c;first|exact .inl ⟨rfl,c,b.out⟩|exact .inl ⟨c,b.out⟩|exact .inl ⟨rfl,by omega,b.out⟩|exact .inl ⟨by omega,b.out⟩))
theorem aDf (w:World)(gA:Nat)(aA aB a b aE aF aC aG id d:Int)(p:OA)(n c:Nat)(q:OA)(m c2:Nat)(hA:Hid (Blk w gA aL #[aA,aB,.slice p n c,a,b,aE,aF,aC,aG,.slice q m c2]))
  (f:xB 99 #[.agg #[aA,aB,.slice p n c,a,b,aE,aF,aC,aG,.slice q m c2],id] w false):
  Calls Tryz.prog 48 #[.pointer (some ⟨gA,0,none⟩),id] w fun e w'=>e= .returned (.tuple #[(-1:Int),.bool false])∧Ext w w':=by
 go_enter Tryz.func48,Tryz.ntmps48;obtain⟨a0,a1,a2,a3,a4,a5,a6,a7,a8,a9⟩:=hA.out.ten;have g:=hA.out.lt;go_wp2_with fail;clear a0 a1 a2 a3 a4 a5 a6 a7 a8 a9;refine(f _ (Ext.refl _)).mono ?_;rintro e w1 ⟨rfl,hx⟩;have hX:=xQ hx;clear hx;go_wp2;exact bodyPost_ret (v:= .tuple #[(-1:Int),.bool false]) (by simp[results,Tryz.results48,go_sem, *]) rfl ⟨rfl,hX.out⟩
theorem aG8 (w:World)(gA:Nat)(aA aB b d aE aF aC aG id a:Int)(p:OA)(n f:Nat)(q:OA)(m c2:Nat)(ys:List Int)(h0:a<0)(hA:Hid (Blk w gA aL #[aA,aB,.slice p n f,b,d,aE,aF,aC,aG,.slice q m c2]))
  (h:xB 99 #[.agg #[aA,aB,.slice p n f,b,d,aE,aF,aC,aG,.slice q m c2],id] w true)
  (HF:xC 100 #[aH aA aB p n f,id] w fun w' e w''=> ∃q c,e= .returned (.tuple #[aH aA aB q n c,a])∧w''.ownsRow w'.heap.size TI 1 (.slice q n c) n (ivs ys)∧Ext w' w''):
  Calls Tryz.prog 48 #[.pointer (some ⟨gA,0,none⟩),id] w fun e w'=>e= .returned (.tuple #[(-1:Int),.bool false])∧Ext w w':=by
 go_enter Tryz.func48,Tryz.ntmps48;obtain⟨a0,a1,a2,a3,a4,a5,a6,a7,a8,a9⟩:=hA.out.ten;have j:=hA.out.lt;go_wp2_with fail;clear a0 a1 a2 a3 a4 a5 a6 a7 a8 a9;refine(h _ (Ext.refl _)).mono ?_;rintro e w1 ⟨rfl,hx⟩;have hX:=xQ hx;clear hx;obtain⟨a0,a1,a2,a3,a4,a5,a6,a7,a8,a9⟩:=(hA.out.ext hX.out).ten;go_wp2_with fail;clear a0 a1 a2 a3 a4 a5 a6 a7 a8 a9;refine(HF _ hX.out).mono ?_;rintro e w2 ⟨p1,c1,rfl,_,g⟩;have i:=xQ (hX.out.trans g);clear g;go_wp2;exact bodyPost_ret (v:= .tuple #[(-1:Int),.bool false]) (by simp[results,Tryz.results48,go_sem, *]) rfl ⟨rfl,by have:=i.out;exact xE⟩
theorem aDe (w0 w:World)(R:Item)(gA:Nat)(aA aB b d aE aF aC aG id a:Int)(p:OA)(n j:Nat)(gq:Nat)(m c2:Nat)(k:Nat)(xs ys:List Int)(vs:List aP)(hk:k<m)(hm:m≤1000)(h0:0≤a)(hM:Hid (Mem w0 w [aJ w0.heap.size TI 1 (p) (n) (j) (ivs (xs)),aJ w0.heap.size TV 4 (some ⟨gq,0,none⟩) (m) (c2) (vs.flatMap aD),aI w0.heap.size (gA) aL #[aA,aB,.slice p n j,b,d,aE,aF,aC,aG,.slice (some ⟨gq,0,none⟩) m c2],R]))
  (ak:xB 99 #[.agg #[aA,aB,.slice p n j,b,d,aE,aF,aC,aG,.slice (some ⟨gq,0,none⟩) m c2],id] w true)
  (HF:xC 100 #[aH aA aB p n j,id] w fun w' e w''=> ∃q c,e= .returned (.tuple #[aH aA aB q n c,a])∧w''.ownsRow w'.heap.size TI 1 (.slice q n c) n (ivs ys)∧Ext w' w'')
  (HX:Hid (∀w' p' cap',Sl w' (some ⟨gq,0,none⟩) m c2 4 (vs.flatMap aD)→Calls Tryz.prog 50 #[.agg #[aA,aB,.slice p' n cap',b,d,aE,aF,aC,aG,.slice (some ⟨gq,0,none⟩) m c2],id] w' fun e w''=>e= .returned (.int .i64 (k:Int))∧Ext w' w'')):
  Calls Tryz.prog 48 #[.pointer (some ⟨gA,0,none⟩),id] w fun e w'=> ∃p1 c1,e= .returned (.tuple #[a,.bool true])∧Mem w0 w' [aJ w0.heap.size TI 1 (p1) (n) (c1) (ivs (ys)),aJ w0.heap.size TV 4 (some ⟨gq,0,none⟩) (m-1) (c2) ((vs.eraseIdx k).flatMap aD),aI w0.heap.size (gA) aL #[aA,aB,.slice p1 n c1,b,d,aE,aF,aC,aG,.slice (some ⟨gq,0,none⟩) (m-1) c2],R]:=by
 go_enter Tryz.func48,Tryz.ntmps48;have z:gA<w.heap.size:=(hM.out.hi 2)
 obtain⟨a0,a1,a2,a3,a4,a5,a6,a7,a8,a9⟩:=(hM.out.bk 2).ten;go_wp2_with fail;clear a0 a1 a2 a3 a4 a5 a6 a7 a8 a9;refine(ak _ (Ext.refl _)).mono ?_;rintro e w1 ⟨rfl,y⟩;have ap:=xQ y;have M1:=(hM.out.adv y)
 clear hM z y;have aa:=M1.hi 2;have a0:=(M1.bk 2).cl 0;have a1:=(M1.bk 2).cl 1;have a2:=(M1.bk 2).cl 2;go_wp2_with fail;clear a0 a1 a2;refine(HF _ ap.out).mono ?_;rintro e w2 ⟨p1,c1,rfl,af,ai⟩;have M2:=(M1.call ai af)
 clear M1 aa ai af;have ab:=M2.hi 3;go_upto_region 4 with fail;obtain⟨gV,x⟩: ∃gV,gV=w2.heap.size:=⟨_,rfl⟩
 rw[←x];have M3:=(M2.blkNew TH3 #[aA,aB,.slice p1 n c1] gV x.symm)
 generalize World.alloc _ _=w3 at M3⊢;clear M2 ab x;have aq:=M3.hi 0;have ar:=M3.hi 4;have t0: ¬(a<0):=by omega
 obtain⟨v0,v1,v2⟩:=(M3.bk 0).tri;have a0:=(M3.bk 4).cl 0;have al:=(M3.bk 4).frozen 0;have a1:=(M3.bk 4).cl 1;have am:=(M3.bk 4).frozen 1;have a2:=(M3.bk 4).cl 2;have an:=(M3.bk 4).frozen 2;obtain⟨r,s⟩:=M3.nq 0 4;go_upto_region 7 with fail;clear v0 v1 v2 a0 al a1 am a2 an r s;have M4:=((M3.st 4 0 (.int .i64 aA)).st 4 1 (.int .i64 aB))
 have M5:=(M4.st 4 2 (.slice p1 n c1))
 have M6:=(M5)
 generalize ah:World.setCell _ _ _=w5;rw[ah]at M6;clear ah M3 M4 M5;have g:=(show Mem w0 w5 [aJ w0.heap.size TI 1 (p1) (n) (c1) (ivs (ys)),aJ w0.heap.size TV 4 (some ⟨gq,0,none⟩) (m) (c2) (vs.flatMap aD),aI w0.heap.size (gA) aL #[aA,aB,.slice p1 n c1,b,d,aE,aF,aC,aG,.slice (some ⟨gq,0,none⟩) m c2],R]from(M6.pick [1,3,4,5] (by decide) rfl))
 clear M6;have l:gA<w5.heap.size:=(g.hi 2)
 obtain⟨a0,a1,a2,a3,a4,a5,a6,a7,a8,a9⟩:=(g.bk 2).ten;go_wp2_with fail;clear a0 a1 a2 a3 a4 a5 a6 a7 a8 a9;have ad:=xQ (g.sq 1);refine(HX _ _ _ ad.out).mono ?_;rintro e au ⟨rfl,t⟩;have f:=(g.adv t)
 clear g l t ad;have o:=f.hi 2;have u:=xQ (aJb gq m c2 w0.heap.size k (k+1) vs au (by omega) hk rfl (f.ow 1));rw[show((k+1:Nat):Int)=(k:Int)+1 by omega]at u;have av:IntKind.i64.wrap ((k:Int)+1)=(k:Int)+1:=IntWalk.i64_in _ (by omega);have a9:=(f.bk 2).cl 9;go_wp2_with fail;clear a9;refine u.out.mono ?_;rintro e w8 ⟨rfl,ag,ae⟩;have h:=(show Mem w0 w8 [aJ w0.heap.size TI 1 (p1) (n) (c1) (ivs (ys)),aJ w0.heap.size TV 4 (some ⟨gq,0,none⟩) (m-1) (c2) ((vs.eraseIdx k).flatMap aD),aI w0.heap.size (gA) aL #[aA,aB,.slice p1 n c1,b,d,aE,aF,aC,aG,.slice (some ⟨gq,0,none⟩) m c2],R]from f.app (i:=1) rfl ag ae (.inl rfl))
 clear f o ag ae u;have aj:=h.hi 2;have a9:=(h.bk 2).cl 9;have ao:=(h.bk 2).frozen 9;go_wp2;clear a9 ao;exact bodyPost_ret (v:= .tuple #[a,.bool true]) (by simp[results,Tryz.results48,go_sem, *]) rfl ⟨p1,c1,rfl,(h.st 2 9 (.slice (some ⟨gq,0,none⟩) (m-1) c2))⟩
end Go.Proofs.YtpelpnfhbepokaaGreatDoor
