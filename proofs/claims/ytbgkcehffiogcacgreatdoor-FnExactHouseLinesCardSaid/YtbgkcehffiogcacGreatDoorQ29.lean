/-
  Texts of this proof, packed (@packed).
-/
import Derived.Test.YtbgkcehffiogcacGreatDoorQ24
import Derived.Test.YtbgkcehffiogcacGreatDoorQ28
namespace Go.Proofs.YtbgkcehffiogcacGreatDoor
open Go.RowKit Go.Proofs.Tryz
set_option linter.unusedSimpArgs false
set_option linter.unusedVariables false
set_option maxHeartbeats 8000000
set_option maxRecDepth 100000
theorem aKu (w:World)(gA:Nat)(aA aB b g aD aF aC aG id a:Int)(p:OA)(n cap:Nat)(q:OA)(m c2:Nat)(ys:List Int)(h0:a<0)(hA:Hid (Blk w gA aK #[aA,aB,.slice (p) n cap,b,g,aD,aF,aC,aG,.slice (q) m c2]))
  (HS:xC 117 #[aH aA aB p n cap,id] w fun w' e w''=> ∃q c,e= .returned (.tuple #[aH aA aB q n c,a])∧w''.ownsRow w' TI 1 (.slice q n c) n (ivs ys)∧Ext w' w''):
  U 79 #[.pointer (some ⟨gA,0,none⟩),id] w (O (.tuple #[(-1:Int),.bool false]) w):=by
 go_enter func79,ntmps79;obtain⟨a0,a1,a2,a3,a4,a5,a6,a7,a8,a9⟩:=hA.out.ten;go_wp2_with fail;clear a0 a1 a2 a3 a4 a5 a6 a7 a8 a9;refine(HS _ (Ext.refl _)).mono ?_;rintro e w1 ⟨p1,c1,rfl,d,f⟩;have M1:=((Mem.start w).call f d)
 clear f d;have hX:=xQ M1.ext;go_wp2;exact bodyPost_ret (v:= .tuple #[(-1:Int),.bool false]) (by simp[results,results79,go_sem, *]) rfl ⟨rfl,by have:=hX.out;exact xE⟩
theorem aHj (w0 w:World)(R:Item)(gA:Nat)(aA aB b d aD aF aC aG id a:Int)(p:OA)(n cap:Nat)(q:OA)(m c2:Nat)(xs ys:List Int)(vs:List aP)(hm:m≤900)(h0:0≤a)(hl:Hid (vs.length=m))(hM:Hid (Mem w0 w [aI w0 TI 1 (p) (n) (cap) (ivs (xs)),aI w0 TV 4 (q) (m) (c2) (vs.flatMap aE),aJ w0 (gA) aK #[aA,aB,.slice (p) n cap,b,d,aD,aF,aC,aG,.slice (q) m c2],R]))
  (HS:xC 117 #[aH aA aB p n cap,id] w fun w' e w''=> ∃q c,e= .returned (.tuple #[aH aA aB q n c,a])∧w''.ownsRow w' TI 1 (.slice q n c) n (ivs ys)∧Ext w' w''):
  U 79 #[.pointer (some ⟨gA,0,none⟩),id] w fun e w'=> ∃p1 c1 q9 c9,e= .returned (.tuple #[a,.bool true])∧Mem w0 w' [aI w0 TI 1 (p1) (n) (c1) (ivs (ys)),aI w0 TV 4 (q9) (m+1) (c9) ((lF (id,aC,0,aC) vs).flatMap aE),aJ w0 (gA) aK #[aA,aB,.slice (p1) n c1,b,d,aD,aF,aC,aG,.slice (q9) (m+1) c9],R]:=by
 go_enter func79,ntmps79;have a0:=(hM.out.bk 2).cl 0;have a1:=(hM.out.bk 2).cl 1;have a2:=(hM.out.bk 2).cl 2;go_wp2_with fail;clear a0 a1 a2;refine(HS _ (Ext.refl _)).mono ?_;rintro e w1 ⟨p1,c1,rfl,ab,ae⟩;have M1:=(hM.out.call ae ab)
 clear hM ae ab;go_upto_region 2 with fail;obtain⟨gV,s⟩: ∃gV,gV=w1.heap.size:=⟨_,rfl⟩
 rw[←s];have M2:=(M1.blkNew TH3 #[aA,aB,.slice p1 n c1] gV s.symm)
 generalize World.alloc _ _=w2 at M2⊢;clear M1 s;have t0:decide (a<0)=false:=by simp;omega
 obtain⟨v0,v1,v2⟩:=(M2.bk 0).tri;have a0:=(M2.bk 4).cl 0;have af:=(M2.bk 4).frozen 0;have a1:=(M2.bk 4).cl 1;have ag:=(M2.bk 4).frozen 1;have a2:=(M2.bk 4).cl 2;have ah:=(M2.bk 4).frozen 2;go_upto_region 5 with fail;clear v0 v1 v2 a0 af a1 ag a2 ah;have M3:=((M2.st 4 0 (I aA)).st 4 1 (I aB))
 have M4:=(M3.st 4 2 (.slice p1 n c1))
 have M5:=(M4)
 generalize ad:World.setCell _ _ _=w5;rw[ad]at M5;clear ad M2 M3 M4;have M6:=(show Mem w0 w5 [aI w0 TI 1 (p1) (n) (c1) (ivs (ys)),aI w0 TV 4 (q) (m) (c2) (vs.flatMap aE),aJ w0 (gA) aK #[aA,aB,.slice (p1) n c1,b,d,aD,aF,aC,aG,.slice (q) m c2],R]from(M5.pick [1,3,4,5] (by decide) rfl))
 clear M5;go_wp2;go_loopw [8] (fun at_ wr=> ∃(k:Nat),k≤m∧at_=I k∧(∀u∈vs.take k,u.1<id)∧w5=wr) (fun at_ _=>m-(intOf at_).toNat)
 case atStart=>exact⟨0,aRv _,rfl,by simp,rfl⟩
 case round=>
  obtain⟨k,hk,rfl,z,rfl⟩:=hrel;have j:=xQ z;clear z;have b9:=(M6.bk 2).cl 9;have f:=(M6.hi 2)
  by_cases hkm:k<m
  ·obtain⟨gq,t,_,_⟩:=M6.so 1;obtain⟨⟨a0,a1,a2,a3⟩,hx⟩: ∃x,vs[k]? =some x:=⟨_,aRq (by rw[hl.out];exact hkm)⟩
   have ca:w5.cell? ⟨gq,k*4,none⟩=some (I a0):=by
    have h1:=(M6.ow 1)
    rw[t]at h1;have h2:=h1.cellAt (k*4) (by omega);rw[h2];exact eP aE 4 (fun _=>rfl) vs k _ hx 0 (by omega)
   have i1:(0:Int)≤(k:Int):=by omega
   have i2:(k:Int)<(m:Int):=by omega
   by_cases h7:a0<id
   ·have t1:decide (a0<id)=true:=by simp[h7]
    have aa:=xQ (show∀u∈vs.take (k+1),u.1<id from by
     intro u hu;rw[aY hx,aSa,aSc]at hu;rcases hu with hu|rfl
     ·exact j u hu
     ·exact h7)
    clear hx h7;subst t;go_wp2;go_roundw
    case rel=>exact⟨k+1,by omega,by go_num,aa.out,by trivial⟩
    case measure=>simp[intOf];omega
   have t1:decide (a0<id)=false:=by simp;omega
   have h:=xQ (show∀u,vs[k]? =some u→ ¬u.1<id from fun u hu=>by rw[hx]at hu;injection hu with hu;subst hu;exact h7);clear hx h7;subst t;go_upto_region 8 with fail;clear b9 ca i1 i2 t1 f;have l:=xQ (sE (id,aC,0,aC) vs k j h.out);have HI:=xQ (fun(w1:World) (vb:Nat) (hx:Ext w5 w1) (hb:Blk w1 vb TV (aE (id,aC,0,aC)).toArray) (hle:w5.heap.size≤vb)=>aEb (w0:=w0) (w:=w1) (some ⟨gq,0,none⟩) k vb c2 m vs (id,aC,0,aC) 1 (by omega) hl (xQ (M6.adv hx)) (xQ hb) hk (fun g hg=>by have h7:=(M6.lt (i:=1) (g:=g) rfl hg).2;omega) (xQ rfl));rw[←l.out]at HI;have a7:=(M6.bk 2).cl 7;have a9:=(M6.bk 2).cl 9;have f:=(M6.hi 2)
   clear j h l;go_wp2_with fail
   go_region_with (first
    |(go_at_call 118;refine(HI _ _ (by first|exact(Ext.refl _).alloc _|exact Ext.drew ((Ext.refl _).alloc _)|exact xE) (by first|exact Blk.new _ _ _|exact(Blk.new _ _ _).ext (Ext.drew (Ext.refl _))) (by first|exact aRp _|simp)).mono ?_
      rintro e w9 ⟨q9,c9,rfl,o⟩;have M9:=(show Mem w0 w9 [aI w0 TI 1 (p1) (n) (c1) (ivs (ys)),aI w0 TV 4 (q9) (m+1) (c9) ((lF (id,aC,0,aC) vs).flatMap aE),aJ w0 (gA) aK #[aA,aB,.slice (p1) n c1,b,d,aD,aF,aC,aG,.slice (some ⟨gq,0,none⟩) m c2],R]from o)
      clear o;have x7:=(M9.bk 2).cl 7;have x9:=(M9.bk 2).cl 9;have y:=(M9.bk 2).frozen 9
      have r:=(M9.hi 2)))
   all_goals (
   clear a7 a9 f x7 x9 y r HI M6;have MX:=(M9.st 2 9 (.slice q9 (m+1) c9))
   clear M9;go_wp2
   exact bodyPost_ret (v:= .tuple #[a,.bool true]) (by simp[results,results79,go_sem, *]) rfl ⟨p1,c1,q9,c9,rfl,MX⟩)
  obtain rfl:m=k:=by omega
  have h:=xQ (show∀u,vs[m]? =some u→ ¬u.1<id from fun u hu=>by rw[aSu (by rw[hl.out];exact aRp _)]at hu;cases hu);go_upto_region 8 with fail;clear b9 f;have l:=xQ (sE (id,aC,0,aC) vs m j h.out);have HI:=xQ (fun(w1:World) (vb:Nat) (hx:Ext w5 w1) (hb:Blk w1 vb TV (aE (id,aC,0,aC)).toArray) (hle:w5.heap.size≤vb)=>aEb (w0:=w0) (w:=w1) q m vb c2 m vs (id,aC,0,aC) 1 (by omega) hl (xQ (M6.adv hx)) (xQ hb) (aRp _) (fun g hg=>by have h7:=(M6.lt (i:=1) (g:=g) rfl hg).2;omega) (xQ rfl));rw[←l.out]at HI;have a7:=(M6.bk 2).cl 7;have a9:=(M6.bk 2).cl 9;have f:=(M6.hi 2)
  clear j h l;go_wp2_with fail
  go_region_with (first
   |(go_at_call 118;refine(HI _ _ (by first|exact(Ext.refl _).alloc _|exact Ext.drew ((Ext.refl _).alloc _)|exact xE) (by first|exact Blk.new _ _ _|exact(Blk.new _ _ _).ext (Ext.drew (Ext.refl _))) (by first|exact aRp _|simp)).mono ?_
     rintro e w9 ⟨q9,c9,rfl,o⟩;have M9:=(show Mem w0 w9 [aI w0 TI 1 (p1) (n) (c1) (ivs (ys)),aI w0 TV 4 (q9) (m+1) (c9) ((lF (id,aC,0,aC) vs).flatMap aE),aJ w0 (gA) aK #[aA,aB,.slice (p1) n c1,b,d,aD,aF,aC,aG,.slice (q) m c2],R]from o)
     clear o;have x7:=(M9.bk 2).cl 7;have x9:=(M9.bk 2).cl 9;have y:=(M9.bk 2).frozen 9
     have r:=(M9.hi 2)))
  all_goals (
  clear a7 a9 f x7 x9 y r HI M6;have MX:=(M9.st 2 9 (.slice q9 (m+1) c9))
  clear M9;go_wp2
  exact bodyPost_ret (v:= .tuple #[a,.bool true]) (by simp[results,results79,go_sem, *]) rfl ⟨p1,c1,q9,c9,rfl,MX⟩)
theorem aKj (i pd a now f s p c amt D:Int)(w:World)(hD:0≤D)(k:D≤693)(l:0≤pd)(hp:pd≤9999)
  (HD:Hid (∀w,U 130 #[aT f s p c,bS i pd a,now] w (O (I D) w)))(ha:amt<1):
  U 120 #[aT f s p c,bS i pd a,now,amt] w (O (.tuple #[bS 0 0 0,amt,.bool false]) w):=by
 go_enter func120,ntmps120;go_wp2_with fail;refine Z (HD _) fun w1 d=>?_
 have M1:=(((((Mem.start w).c0 TT4 #[f,s,p,c]).c1 TS3 #[i,pd,a]).c2 TS3 #[(),(),()]).adv d)
 clear d HD;have t0:decide (D<0)=false:=by simp;omega
 obtain⟨d0,g,d1,h,d2,j⟩:=(M1.bk 0).trif;go_wp2;clear d0 g d1 h d2 j;have M2:=(M1.put3 (i:=0) rfl (I 0) (I 0) (I 0))
 generalize b:World.setCell _ _ _=wz;rw[b]at M2;clear b M1;obtain⟨y0,y1,y2⟩:=(M2.bk 0).tri;exact bodyPost_ret (v:= .tuple #[.agg #[(),(),()],amt,.bool false]) (by simp[results,results120,go_sem, *]) rfl ⟨rfl,M2.ext⟩
theorem aKk (i pd a now f s p c amt D:Int)(w:World)(hD:0≤D)(k:D≤693)(l:0≤pd)(hp:pd≤9999)
  (HD:Hid (∀w,U 130 #[aT f s p c,bS i pd a,now] w (O (I D) w)))(ha:300<amt):
  U 120 #[aT f s p c,bS i pd a,now,amt] w (O (.tuple #[bS 0 0 0,amt,.bool false]) w):=by
 go_enter func120,ntmps120;go_wp2_with fail;refine Z (HD _) fun w1 d=>?_
 have M1:=(((((Mem.start w).c0 TT4 #[f,s,p,c]).c1 TS3 #[i,pd,a]).c2 TS3 #[(),(),()]).adv d)
 clear d HD;have t0:decide (D<0)=false:=by simp;omega
 have t1:decide (amt<1)=false:=by simp;omega
 obtain⟨d0,g,d1,h,d2,j⟩:=(M1.bk 0).trif;go_wp2;clear d0 g d1 h d2 j;have M2:=(M1.put3 (i:=0) rfl (I 0) (I 0) (I 0))
 generalize b:World.setCell _ _ _=wz;rw[b]at M2;clear b M1;obtain⟨y0,y1,y2⟩:=(M2.bk 0).tri;exact bodyPost_ret (v:= .tuple #[.agg #[(),(),()],amt,.bool false]) (by simp[results,results120,go_sem, *]) rfl ⟨rfl,M2.ext⟩
theorem aEh (i pd a now f s p c amt:Int)(w:World)(k:0≤pd)(hp:pd≤9999)
  (HD:Hid (∀w,U 130 #[aT f s p c,bS i pd a,now] w (O (I 0) w)))(ha:1≤amt)(hb:amt≤300):
  U 120 #[aT f s p c,bS i pd a,now,amt] w (O (.tuple #[bS i pd a,amt,.bool false]) w):=by
 go_enter func120,ntmps120;go_wp2_with fail;refine Z (HD _) fun w1 d=>?_
 have M1:=(((((Mem.start w).c0 TT4 #[f,s,p,c]).c1 TS3 #[i,pd,a]).c2 TS3 #[(),(),()]).adv d)
 clear d HD;have t1:decide (amt<1)=false:=by simp;omega
 have t2:decide (300<amt)=false:=by simp;omega
 obtain⟨c0,c1,c2⟩:=(M1.bk 1).tri;obtain⟨d0,g,d1,h,d2,j⟩:=(M1.bk 0).trif;go_wp2;clear c0 c1 c2 d0 g d1 h d2 j;have M2:=(M1.put3 (i:=0) rfl (I i) (I pd) (I a))
 generalize b:World.setCell _ _ _=wz;rw[b]at M2;clear b M1;obtain⟨y0,y1,y2⟩:=(M2.bk 0).tri;exact bodyPost_ret (v:= .tuple #[.agg #[i,pd,a],amt,.bool false]) (by simp[results,results120,go_sem, *]) rfl ⟨rfl,M2.ext⟩
theorem aH5 (i pd a now f s p c amt D:Int)(w:World)(hD:0≤D)(l:D≤693)(o:0≤pd)(hp:pd≤9999)
  (HD:Hid (∀w,U 130 #[aT f s p c,bS i pd a,now] w (O (I D) w)))(ha:1≤amt)(hb:amt≤300)(k:1≤D):
  U 120 #[aT f s p c,bS i pd a,now,amt] w (O (.tuple #[bS i (pd+min D amt) now,(amt-min D amt:Int),.bool true]) w):=by
 go_enter func120,ntmps120;go_wp2_with fail;refine Z (HD _) fun w1 d=>?_
 have M1:=(((((Mem.start w).c0 TT4 #[f,s,p,c]).c1 TS3 #[i,pd,a]).c2 TS3 #[(),(),()]).adv d)
 clear d HD;have n:min amt D=min D amt:=Int.min_comm _ _;have k1:IntKind.i64.wrap (pd+min D amt)=pd+min D amt:=aRr _ (by omega);have k2:IntKind.i64.wrap (amt-min D amt)=amt-min D amt:=aRr _ (by omega);have m:(D==0)=false:=by simp;omega
 have t0:decide (D<0)=false:=by simp;omega
 have t1:decide (amt<1)=false:=by simp;omega
 have t2:decide (300<amt)=false:=by simp;omega
 obtain⟨c0,c1,c2⟩:=(M1.bk 1).tri;obtain⟨d0,g,d1,h,d2,j⟩:=(M1.bk 0).trif;go_wp2;clear c0 c1 c2 d0 g d1 h d2 j;have M2:=(M1.put3 (i:=0) rfl (I i) (I (pd+min D amt)) (I now))
 generalize b:World.setCell _ _ _=wz;rw[b]at M2;clear b M1;obtain⟨y0,y1,y2⟩:=(M2.bk 0).tri;exact bodyPost_ret (v:= .tuple #[.agg #[i,(pd+min D amt:Int),now],(amt-min D amt:Int),.bool true]) (by simp[results,results120,go_sem, *]) rfl ⟨rfl,M2.ext⟩
theorem aEi (f s p c i pd a now amt:Int)(w:World)(h:bO f s p c=true)(h2:dF i pd a=true)(h3:a≤now)(h4:now≤9999):
  U 120 #[aT f s p c,bS i pd a,now,amt] w (O (.tuple #[bS (fS f s p c i pd a now amt).1.1 (fS f s p c i pd a now amt).1.2.1 (fS f s p c i pd a now amt).1.2.2,I (fS f s p c i pd a now amt).2.1,.bool (fS f s p c i pd a now amt).2.2]) w):=by
 obtain⟨b1,b2,b3,b4,b5,b6⟩:=fM h2;obtain⟨e1,e2⟩:=kE h h2 h3 h4;have HD:=xQ (fun w=>xP f s p c i pd a now w h h2 h3 h4);unfold fS;generalize cC f s p c i pd a now=D at*;by_cases ha:1≤amt∧amt≤300
 ·rw[if_pos ha];by_cases hd:D=0
  ·subst hd;rw[if_pos rfl];exact aEh i pd a now f s p c amt w b3 b4 HD ha.1 ha.2
  rw[if_neg hd];exact aH5 i pd a now f s p c amt D w e1 e2 b3 b4 HD ha.1 ha.2 (by omega)
 rw[if_neg ha];by_cases hb:amt<1
 ·exact aKj i pd a now f s p c amt D w e1 e2 b3 b4 HD hb
 exact aKk i pd a now f s p c amt D w e1 e2 b3 b4 HD (by omega)
theorem aEt (w:World)(gA:Nat)(aA aB a b aD aF aC aG id amt:Int)(p:OA)(n cap:Nat)(q:OA)(m c2:Nat)(hA:Hid (Blk w gA aK #[aA,aB,.slice p n cap,a,b,aD,aF,aC,aG,.slice q m c2]))
  (HX:xC 119 #[.agg #[aA,aB,.slice p n cap,a,b,aD,aF,aC,aG,.slice q m c2],id] w fun w' e w''=>e= .returned (I (-1))∧Ext w' w''):
  U 80 #[.pointer (some ⟨gA,0,none⟩),id,amt] w (O (.tuple #[(-1:Int),.bool false]) w):=by
 obtain⟨a0,a1,a2,a3,a4,a5,a6,a7,a8,a9⟩:=hA.out.ten;go_enter func80,ntmps80;go_wp2_with fail;clear a0 a1 a2 a3 a4 a5 a6 a7 a8 a9;refine Z (HX _ (Ext.refl _)) fun w1 hx=>?_
 have hX:=xQ hx;clear hx;go_wp2;exact bodyPost_ret (v:= .tuple #[(-1:Int),.bool false]) (by simp[results,results80,go_sem, *]) rfl ⟨rfl,hX.out⟩
theorem aEs (w0 w:World)(R:Item)(gA gq:Nat)(aA aB d h aD aF aC aG id amt:Int)(p:OA)(n cap m c2 k:Nat)(xs:List Int)(vs:List aP)(a0 a1 a2 a3 S1 S2 S3 bk:Int)(l:Bool)(hk:k<m)(hm:m≤1000)(bj:0≤aG)(a9:aG≤99999)(av:l=true→0≤bk∧bk≤amt∧amt≤300)(j:Hid (vs[k]? =some (a0,a1,a2,a3)))
  (hM:Hid (Mem w0 w [aI w0 TI 1 (p) (n) (cap) (ivs xs),aI w0 TV 4 (some ⟨gq,0,none⟩) (m) (c2) (vs.flatMap aE),aJ w0 (gA) aK #[aA,aB,.slice p n cap,d,h,aD,aF,aC,aG,.slice (some ⟨gq,0,none⟩) m c2],R]))
  (HX:xC 119 #[.agg #[aA,aB,.slice p n cap,d,h,aD,aF,aC,aG,.slice (some ⟨gq,0,none⟩) m c2],id] w fun w' e w''=>e= .returned (I k)∧Ext w' w'')
  (HP:Hid (∀w',U 120 #[aT d h aD aF,bS a1 a2 a3,aC,amt] w' (O (.tuple #[bS S1 S2 S3,bk,.bool l]) w'))):
  U 80 #[.pointer (some ⟨gA,0,none⟩),id,amt] w fun e w'=>(e= .returned (.tuple #[(-1:Int),.bool false])∧ ¬(l=true∧aG+amt-bk≤99999)∧Ext w w')∨
   (l=true∧aG+amt-bk≤99999∧e= .returned (.tuple #[bk,.bool true])∧Mem w0 w' [aI w0 TI 1 (p) (n) (cap) (ivs xs),aI w0 TV 4 (some ⟨gq,0,none⟩) (m) (c2) ((vs.set k (a0,S1,S2,S3)).flatMap aE),aJ w0 (gA) aK #[aA,aB,.slice p n cap,d,h,aD,aF,aC,(aG+amt-bk:Int),.slice (some ⟨gq,0,none⟩) m c2],R]):=by
 go_enter func80,ntmps80;have r:=(hM.out.lt (i:=1) (g:=gq) rfl rfl).2;have g1:w.cell? ⟨gq,k*4+1,none⟩=some (I a1):=((hM.out.ow 1).cellAt (k*4+1) (by omega)).trans (eP aE 4 (fun _=>rfl) vs k _ j.out 1 (by omega));have g2:w.cell? ⟨gq,k*4+2,none⟩=some (I a2):=((hM.out.ow 1).cellAt (k*4+2) (by omega)).trans (eP aE 4 (fun _=>rfl) vs k _ j.out 2 (by omega));have g3:w.cell? ⟨gq,k*4+3,none⟩=some (I a3):=((hM.out.ow 1).cellAt (k*4+3) (by omega)).trans (eP aE 4 (fun _=>rfl) vs k _ j.out 3 (by omega));obtain⟨z0,z1,z2,z3,z4,z5,z6,z7,z8,z9⟩:=(hM.out.bk 2).ten;go_wp2_with fail;clear z0 z1 z2 z3 z4 z5 z6 z7 z8 z9;refine Z (HX _ (Ext.refl _)) fun w2 y=>?_
 have o:=xQ y;have M2:=(hM.out.adv y)
 clear y HX;have bl:=(M2.hi 2)
 have t:gq<w2:=aRo r o.out.sz;have aa:w2.cell? ⟨gq,k*4+1,none⟩=some (I a1):=(o.out.cells.1 _ _ r).trans g1;have ab:w2.cell? ⟨gq,k*4+2,none⟩=some (I a2):=(o.out.cells.1 _ _ r).trans g2;have ad:w2.cell? ⟨gq,k*4+3,none⟩=some (I a3):=(o.out.cells.1 _ _ r).trans g3;clear g1 g2 g3;obtain⟨ah,ai,aj,ak,al,am,an,ao,ap,aq⟩:=(M2.bk 2).ten;have i1:(0:Int)≤(k:Int):=by omega
 have i2:(k:Int)<(m:Int):=by omega
 have n2: ¬(w2.heap.size=gA):=by omega
 have n4: ¬(w2.heap.size=gq):=by omega
 go_upto_region 4 with fail;go_cut [9,10,11] (fun s11 s12 s13 wx=> ∃a:Nat,s11= .pointer (some ⟨a,0,none⟩)∧s12=I bk∧s13= .bool l∧Ext w2 wx∧w2.heap.size≤a∧Blk wx a TS3 #[S1,S2,S3])
 case first=>
  go_region_held3 (fun w'=>w'.cell? ⟨gA,3,none⟩=some (I d)∧w'.cell? ⟨gA,4,none⟩=some (I h)∧w'.cell? ⟨gA,5,none⟩=some (I aD)∧w'.cell? ⟨gA,6,none⟩=some (I aF)∧w'.cell? ⟨gA,7,none⟩=some (I aC)∧w'.cell? ⟨gA,9,none⟩=some (.slice (some ⟨gq,0,none⟩) m c2)∧w'.cell? ⟨gq,k*4+1,none⟩=some (I a1)∧w'.cell? ⟨gq,k*4+2,none⟩=some (I a2)∧w'.cell? ⟨gq,k*4+3,none⟩=some (I a3))
   (first|(refine⟨?_,?_,?_,?_,?_,?_,?_,?_,?_⟩<;>assumption)|go_keep)
   ((go_at_call 120
     refine Z (HP _) fun w5 ag=>?_
     have f:Ext w2 w5:=xE;have ba:=((M2.bk 2).ext f).cl 3;have bb:=((M2.bk 2).ext f).cl 4;have bc:=((M2.bk 2).ext f).cl 5;have bd:=((M2.bk 2).ext f).cl 6;have be:=((M2.bk 2).ext f).cl 7;have bf:=((M2.bk 2).ext f).cl 9;have bg:w5.cell? ⟨gq,k*4+1,none⟩=some (I a1):=(f.cells.1 _ _ t).trans aa;have bh:w5.cell? ⟨gq,k*4+2,none⟩=some (I a2):=(f.cells.1 _ _ t).trans ab;have bi:w5.cell? ⟨gq,k*4+3,none⟩=some (I a3):=(f.cells.1 _ _ t).trans ad
     first
      |(have z:Ext (w2.alloc (.cells #[(),(),()] TS3)) w5:=ag
        have BB:=(Blk.new w2 TS3 #[(),(),()]).ext z;have az:=BB.cl 0;have a6:=BB.frozen 0;have a4:=BB.cl 1;have a7:=BB.frozen 1;have a5:=BB.cl 2
        have a8:w5.frozen? ⟨w2,2,none⟩=false:=BB.frozen 2)
      |(have z:Ext (w2.alloc (.cells #[(),(),()] TS3)) w5:=ag.of_drew
        have BB:=(Blk.new w2 TS3 #[(),(),()]).ext z;have az:=BB.cl 0;have a6:=BB.frozen 0;have a4:=BB.cl 1;have a7:=BB.frozen 1;have a5:=BB.cl 2
        have a8:w5.frozen? ⟨w2,2,none⟩=false:=BB.frozen 2)
      |skip))
  ·go_wp2_with fail;go_meet;exact⟨w5.heap.size,rfl,rfl,rfl,xE,by have:=f.sz;omega,Blk.new _ _ _⟩
  have hR:ExtR w2 w5 _:=(((ExtR.refl w2 w5).setCell (p:=⟨w2,0,none⟩) (.inl rfl) (I S1)).setCell (p:=⟨w2,1,none⟩) (.inl rfl) (I S2)).setCell (p:=⟨w2,2,none⟩) (.inl rfl) (I S3);have hY:=((BB.set 0 (I S1)).set 1 (I S2)).set 2 (I S3);simp only[aS5,aS1,aS2]at hY;go_wp2_with fail;go_meet;exact⟨w2.heap.size,rfl,rfl,rfl,ExtR.new f hR (aRp _),aRp _,hY⟩
 case rest=>
  clear ah ai aj ak al am an ao ap aq aa ab ad HP n2 n4;obtain⟨a,rfl,rfl,rfl,s,ha,ae⟩:=hcut;have b:=xQ (o.out.trans s);have M3:=(M2.blkOf s ae ha)
  clear M2 s ha ae;cases l with
  |false=>
   have u:Hid (¬(false=true∧aG+amt-bk≤99999)):=by show¬_;simp
   go_wp2
   exact bodyPost_ret (v:= .tuple #[(-1:Int),.bool false]) (by simp[results,results80,go_sem, *]) rfl (by
    have c:=u.out
    first|exact .inl ⟨rfl,c,b.out⟩|exact .inl ⟨rfl,by omega,b.out⟩|exact .inl ⟨by omega,b.out⟩|exact .inl ⟨rfl,b.out⟩|exact .inl b.out|exact b.out|(simp at c;first|exact .inl ⟨rfl,c,b.out⟩|exact .inl ⟨c,b.out⟩|exact .inl ⟨rfl,by omega,b.out⟩|exact .inl ⟨by omega,b.out⟩))
  |true=>
   obtain⟨o1,o2,o3⟩:=av rfl;have k1:IntKind.i64.wrap (aG+amt)=aG+amt:=aRr _ (by omega);have k2:IntKind.i64.wrap (aG+amt-bk)=aG+amt-bk:=aRr _ (by omega);have k3:IntKind.i64.wrap (amt-bk)=amt-bk:=aRr _ (by omega);have k4:IntKind.i64.wrap (aG+(amt-bk))=aG+amt-bk:=by rw[aRr _ (by omega)];omega
   have h8:=(M3.bk 3).cl 8;by_cases hq:aG+amt-bk≤99999
   ·have hd:decide (99999<aG+amt-bk)=false:=by simp;omega
    have x:=xQ hq;clear hq;go_upto_region 7 with fail;clear h8;have d9:=(M3.bk 3).cl 9;obtain⟨aw,ax,ay⟩:=(M3.bk 0).tri;have y1:wc.cell? ⟨gq,k*4+1,none⟩=some (I a1):=((M3.ow 2).cellAt (k*4+1) (by omega)).trans (eP aE 4 (fun _=>rfl) vs k _ j.out 1 (by omega));have z1:wc.frozen? ⟨gq,k*4+1,none⟩=false:=(M3.ow 2).frozenAt (k*4+1);have y2:wc.cell? ⟨gq,k*4+2,none⟩=some (I a2):=((M3.ow 2).cellAt (k*4+2) (by omega)).trans (eP aE 4 (fun _=>rfl) vs k _ j.out 2 (by omega));have z2:wc.frozen? ⟨gq,k*4+2,none⟩=false:=(M3.ow 2).frozenAt (k*4+2);have y3:wc.cell? ⟨gq,k*4+3,none⟩=some (I a3):=((M3.ow 2).cellAt (k*4+3) (by omega)).trans (eP aE 4 (fun _=>rfl) vs k _ j.out 3 (by omega));have z3:wc.frozen? ⟨gq,k*4+3,none⟩=false:=(M3.ow 2).frozenAt (k*4+3);go_region;clear d9 aw ax ay y1 z1 y2 z2 y3 z3;have au:Hid ((((vs.flatMap aE).set (k*4+1) (I S1)).set (k*4+2) (I S2)).set (k*4+3) (I S3)=(vs.set k (a0,S1,S2,S3)).flatMap aE):=zY j S1 S2 S3;have MX:=(show Mem w0 (((wc.setCell ⟨gq,k*4+1,none⟩ (I S1)).setCell ⟨gq,k*4+2,none⟩ (I S2)).setCell ⟨gq,k*4+3,none⟩ (I S3)).drew [aJ w0 (a) TS3 #[S1,S2,S3],aI w0 TI 1 (p) (n) (cap) (ivs xs),aI w0 TV 4 (some ⟨gq,0,none⟩) (m) (c2) ((vs.set k (a0,S1,S2,S3)).flatMap aE),aJ w0 (gA) aK #[aA,aB,.slice p n cap,d,h,aD,aF,aC,aG,.slice (some ⟨gq,0,none⟩) m c2],R]from by rw[←au.out];exact(((M3.ostore (i:=2) rfl (k*4+1) (I S1)).ostore (i:=2) rfl (k*4+2) (I S2)).ostore (i:=2) rfl (k*4+3) (I S3)).adv (Ext.drew (Ext.refl _)))
    generalize af:World.drew _=w7;rw[af]at MX;clear af M3;have d8:=(MX.bk 3).cl 8;have ar:=(MX.bk 3).frozen 8;go_wp2;clear d8 ar;exact bodyPost_ret (v:= .tuple #[bk,.bool true]) (by simp[results,results80,go_sem, *]) rfl (by have q:Hid (Mem w0 _ [aI w0 TI 1 (p) (n) (cap) (ivs xs),aI w0 TV 4 (some ⟨gq,0,none⟩) (m) (c2) ((vs.set k (a0,S1,S2,S3)).flatMap aE),aJ w0 (gA) aK #[aA,aB,.slice p n cap,d,h,aD,aF,aC,(aG+amt-bk:Int),.slice (some ⟨gq,0,none⟩) m c2],R]):=((MX.store (i:=3) rfl 8 (I (aG+amt-bk))).pick [1,2,3,4] (by decide) rfl);first|exact .inr ⟨rfl,x.out,rfl,q.out⟩|exact .inr ⟨x.out,rfl,q.out⟩|exact .inr ⟨x.out,q.out⟩)
   have u:Hid (¬(true=true∧aG+amt-bk≤99999)):=by show¬_;simp[hq]
   have hd:decide (99999<aG+amt-bk)=true:=by simp;omega
   go_wp2
   exact bodyPost_ret (v:= .tuple #[(-1:Int),.bool false]) (by simp[results,results80,go_sem, *]) rfl (by
    have c:=u.out
    first|exact .inl ⟨rfl,c,b.out⟩|exact .inl ⟨rfl,by omega,b.out⟩|exact .inl ⟨by omega,b.out⟩|exact .inl ⟨rfl,b.out⟩|exact .inl b.out|exact b.out|(simp at c;first|exact .inl ⟨rfl,c,b.out⟩|exact .inl ⟨c,b.out⟩|exact .inl ⟨rfl,by omega,b.out⟩|exact .inl ⟨by omega,b.out⟩))
theorem aHi (w:World)(gA:Nat)(aA aB a b aD aF aC aG id c:Int)(p:OA)(n cap:Nat)(q:OA)(m c2:Nat)(hA:Hid (Blk w gA aK #[aA,aB,.slice p n cap,a,b,aD,aF,aC,aG,.slice q m c2]))
  (d:xB 93 #[.agg #[aA,aB,.slice p n cap,a,b,aD,aF,aC,aG,.slice q m c2],id] w false):
  U 81 #[.pointer (some ⟨gA,0,none⟩),id] w (O (.tuple #[(-1:Int),.bool false]) w):=by
 go_enter func81,ntmps81;obtain⟨a0,a1,a2,a3,a4,a5,a6,a7,a8,a9⟩:=hA.out.ten;go_wp2_with fail;clear a0 a1 a2 a3 a4 a5 a6 a7 a8 a9;refine Z (d _ (Ext.refl _)) fun w1 hx=>?_
 have hX:=xQ hx;clear hx;go_wp2;exact bodyPost_ret (v:= .tuple #[(-1:Int),.bool false]) (by simp[results,results81,go_sem, *]) rfl ⟨rfl,hX.out⟩
theorem aKt (w:World)(gA:Nat)(aA aB b d aD aF aC aG id a:Int)(p:OA)(n cap:Nat)(q:OA)(m c2:Nat)(ys:List Int)(h0:a<0)(hA:Hid (Blk w gA aK #[aA,aB,.slice p n cap,b,d,aD,aF,aC,aG,.slice q m c2]))
  (g:xB 93 #[.agg #[aA,aB,.slice p n cap,b,d,aD,aF,aC,aG,.slice q m c2],id] w true)
  (HF:xC 121 #[aH aA aB p n cap,id] w fun w' e w''=> ∃q c,e= .returned (.tuple #[aH aA aB q n c,a])∧w''.ownsRow w' TI 1 (.slice q n c) n (ivs ys)∧Ext w' w''):
  U 81 #[.pointer (some ⟨gA,0,none⟩),id] w (O (.tuple #[(-1:Int),.bool false]) w):=by
 go_enter func81,ntmps81;obtain⟨a0,a1,a2,a3,a4,a5,a6,a7,a8,a9⟩:=hA.out.ten;go_wp2_with fail;clear a0 a1 a2 a3 a4 a5 a6 a7 a8 a9;refine Z (g _ (Ext.refl _)) fun w1 hx=>?_
 have hX:=xQ hx;clear hx;obtain⟨a0,a1,a2,a3,a4,a5,a6,a7,a8,a9⟩:=(hA.out.ext hX.out).ten;go_wp2_with fail;clear a0 a1 a2 a3 a4 a5 a6 a7 a8 a9;refine(HF _ hX.out).mono ?_;rintro e w2 ⟨p1,c1,rfl,_,f⟩;have h:=xQ (hX.out.trans f);clear f;go_wp2;exact bodyPost_ret (v:= .tuple #[(-1:Int),.bool false]) (by simp[results,results81,go_sem, *]) rfl ⟨rfl,by have:=h.out;exact xE⟩
theorem aHh (w0 w:World)(R:Item)(gA:Nat)(aA aB b d aD aF aC aG id a:Int)(p:OA)(n cap:Nat)(gq:Nat)(m c2:Nat)(k:Nat)(xs ys:List Int)(vs:List aP)(hk:k<m)(hm:m≤1000)(h0:0≤a)(hM:Hid (Mem w0 w [aI w0 TI 1 (p) (n) (cap) (ivs (xs)),aI w0 TV 4 (some ⟨gq,0,none⟩) (m) (c2) (vs.flatMap aE),aJ w0 (gA) aK #[aA,aB,.slice p n cap,b,d,aD,aF,aC,aG,.slice (some ⟨gq,0,none⟩) m c2],R]))
  (aa:xB 93 #[.agg #[aA,aB,.slice p n cap,b,d,aD,aF,aC,aG,.slice (some ⟨gq,0,none⟩) m c2],id] w true)
  (HF:xC 121 #[aH aA aB p n cap,id] w fun w' e w''=> ∃q c,e= .returned (.tuple #[aH aA aB q n c,a])∧w''.ownsRow w' TI 1 (.slice q n c) n (ivs ys)∧Ext w' w'')
  (HX:Hid (∀w' p' cap',Sl w' (some ⟨gq,0,none⟩) m c2 4 (vs.flatMap aE)→U 119 #[.agg #[aA,aB,.slice p' n cap',b,d,aD,aF,aC,aG,.slice (some ⟨gq,0,none⟩) m c2],id] w' (O (I k) w'))):
  U 81 #[.pointer (some ⟨gA,0,none⟩),id] w fun e w'=> ∃p1 c1,e= .returned (.tuple #[a,.bool true])∧Mem w0 w' [aI w0 TI 1 (p1) (n) (c1) (ivs (ys)),aI w0 TV 4 (some ⟨gq,0,none⟩) (m-1) (c2) ((vs.eraseIdx k).flatMap aE),aJ w0 (gA) aK #[aA,aB,.slice p1 n c1,b,d,aD,aF,aC,aG,.slice (some ⟨gq,0,none⟩) (m-1) c2],R]:=by
 go_enter func81,ntmps81;obtain⟨a0,a1,a2,a3,a4,a5,a6,a7,a8,a9⟩:=(hM.out.bk 2).ten;go_wp2_with fail;clear a0 a1 a2 a3 a4 a5 a6 a7 a8 a9;refine Z (aa _ (Ext.refl _)) fun w1 r=>?_
 have ag:=xQ r;have M1:=(hM.out.adv r)
 clear hM r;have a0:=(M1.bk 2).cl 0;have a1:=(M1.bk 2).cl 1;have a2:=(M1.bk 2).cl 2;go_wp2_with fail;clear a0 a1 a2;refine(HF _ ag.out).mono ?_;rintro e w2 ⟨p1,c1,rfl,u,z⟩;have M2:=(M1.call z u)
 clear M1 z u;go_upto_region 4 with fail;obtain⟨gV,o⟩: ∃gV,gV=w2.heap.size:=⟨_,rfl⟩
 rw[←o];have M3:=(M2.blkNew TH3 #[aA,aB,.slice p1 n c1] gV o.symm)
 generalize World.alloc _ _=w3 at M3⊢;clear M2 o;have t0: ¬(a<0):=by omega
 obtain⟨v0,v1,v2⟩:=(M3.bk 0).tri;have a0:=(M3.bk 4).cl 0;have ab:=(M3.bk 4).frozen 0;have a1:=(M3.bk 4).cl 1;have ad:=(M3.bk 4).frozen 1;have a2:=(M3.bk 4).cl 2;have ae:=(M3.bk 4).frozen 2;go_upto_region 7 with fail;clear v0 v1 v2 a0 ab a1 ad a2 ae;have M4:=((M3.st 4 0 (I aA)).st 4 1 (I aB))
 have M5:=(M4.st 4 2 (.slice p1 n c1))
 have M6:=(M5)
 generalize y:World.setCell _ _ _=w5;rw[y]at M6;clear y M3 M4 M5;have g:=(show Mem w0 w5 [aI w0 TI 1 (p1) (n) (c1) (ivs (ys)),aI w0 TV 4 (some ⟨gq,0,none⟩) (m) (c2) (vs.flatMap aE),aJ w0 (gA) aK #[aA,aB,.slice p1 n c1,b,d,aD,aF,aC,aG,.slice (some ⟨gq,0,none⟩) m c2],R]from(M6.pick [1,3,4,5] (by decide) rfl))
 clear M6;obtain⟨a0,a1,a2,a3,a4,a5,a6,a7,a8,a9⟩:=(g.bk 2).ten;go_wp2_with fail;clear a0 a1 a2 a3 a4 a5 a6 a7 a8 a9;have s:=xQ (g.sq 1);refine Z (HX _ _ _ s.out) fun ah h=>?_
 have f:=(g.adv h)
 clear g h s;have j:=xQ (aOc gq m c2 w0 k (k+1) vs ah (by omega) hk rfl (f.ow 1));rw[show((k+1:Nat):Int)=(k:Int)+1 by omega]at j;have ai:IntKind.i64.wrap ((k:Int)+1)=(k:Int)+1:=aRr _ (by omega);have a9:=(f.bk 2).cl 9;go_wp2_with fail;clear a9;refine j.out.mono ?_;rintro e w8 ⟨rfl,x,t⟩;have l:=(show Mem w0 w8 [aI w0 TI 1 (p1) (n) (c1) (ivs (ys)),aI w0 TV 4 (some ⟨gq,0,none⟩) (m-1) (c2) ((vs.eraseIdx k).flatMap aE),aJ w0 (gA) aK #[aA,aB,.slice p1 n c1,b,d,aD,aF,aC,aG,.slice (some ⟨gq,0,none⟩) m c2],R]from f.app (i:=1) rfl x t (.inl rfl))
 clear f x t j;have a9:=(l.bk 2).cl 9;have af:=(l.bk 2).frozen 9;go_wp2;clear a9 af;exact bodyPost_ret (v:= .tuple #[a,.bool true]) (by simp[results,results81,go_sem, *]) rfl ⟨p1,c1,rfl,(l.st 2 9 (.slice (some ⟨gq,0,none⟩) (m-1) c2))⟩
end Go.Proofs.YtbgkcehffiogcacGreatDoor
