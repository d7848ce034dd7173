/-
  Texts of this proof, packed (@packed).
-/
import Derived.Test.YthfmmibomhhmpaaGreatDoorY33
namespace Go.Proofs.YthfmmibomhhmpaaGreatDoor
open Go.RowKit Go.Proofs.Tryz
set_option linter.unusedSimpArgs false
set_option linter.unusedVariables false
set_option maxHeartbeats 8000000
set_option maxRecDepth 100000
theorem aM2 (i pd a now f s p c amt D:Int)(w:World)(hD:0≤D)(g:D≤693)(h:0≤pd)(hp:pd≤9999)
  (HD:Hid (∀w,U 35 #[aS f s p c,bX i pd a,now] w (O (I D) w)))(ha:amt<1):
  U 99 #[aS f s p c,bX i pd a,now,amt] w (O (.tuple #[bX 0 0 0,amt,.bool false]) w):=by
 go_enter func99,ntmps99;go_wp2_with fail;refine Z (HD _) fun w1 d=>?_
 have M1:=(((((Mem.start w).c0 TT4 #[f,s,p,c]).c1 TS3 #[i,pd,a]).c2 TS3 #[(),(),()]).adv d)
 clear d HD;have t0:decide (D<0)=false:=by simp;omega
 have d_:=(M1.bk 0).trif;go_wp2;clear d_;have M2:=(M1.put3 (i:=0) rfl (I 0) (I 0) (I 0))
 generalize b:World.setCell _ _ _=wz;rw[b]at M2;clear b M1;have y_:=(M2.bk 0).tri;exact bodyPost_ret (v:= .tuple #[.agg #[(),(),()],amt,.bool false]) (by simp[results,results99,go_sem, *]) rfl ⟨rfl,M2.ext⟩
theorem aM3 (i pd a now f s p c amt D:Int)(w:World)(hD:0≤D)(g:D≤693)(h:0≤pd)(hp:pd≤9999)
  (HD:Hid (∀w,U 35 #[aS f s p c,bX i pd a,now] w (O (I D) w)))(ha:300<amt):
  U 99 #[aS f s p c,bX i pd a,now,amt] w (O (.tuple #[bX 0 0 0,amt,.bool false]) w):=by
 go_enter func99,ntmps99;go_wp2_with fail;refine Z (HD _) fun w1 d=>?_
 have M1:=(((((Mem.start w).c0 TT4 #[f,s,p,c]).c1 TS3 #[i,pd,a]).c2 TS3 #[(),(),()]).adv d)
 clear d HD;have t0:decide (D<0)=false:=by simp;omega
 have t1:decide (amt<1)=false:=by simp;omega
 have d_:=(M1.bk 0).trif;go_wp2;clear d_;have M2:=(M1.put3 (i:=0) rfl (I 0) (I 0) (I 0))
 generalize b:World.setCell _ _ _=wz;rw[b]at M2;clear b M1;have y_:=(M2.bk 0).tri;exact bodyPost_ret (v:= .tuple #[.agg #[(),(),()],amt,.bool false]) (by simp[results,results99,go_sem, *]) rfl ⟨rfl,M2.ext⟩
theorem aFn (i pd a now f s p c amt:Int)(w:World)(g:0≤pd)(hp:pd≤9999)
  (HD:Hid (∀w,U 35 #[aS f s p c,bX i pd a,now] w (O (I 0) w)))(ha:1≤amt)(hb:amt≤300):
  U 99 #[aS f s p c,bX i pd a,now,amt] w (O (.tuple #[bX i pd a,amt,.bool false]) w):=by
 go_enter func99,ntmps99;go_wp2_with fail;refine Z (HD _) fun w1 d=>?_
 have M1:=(((((Mem.start w).c0 TT4 #[f,s,p,c]).c1 TS3 #[i,pd,a]).c2 TS3 #[(),(),()]).adv d)
 clear d HD;have t1:decide (amt<1)=false:=by simp;omega
 have t2:decide (300<amt)=false:=by simp;omega
 have c_:=(M1.bk 1).tri;have d_:=(M1.bk 0).trif;go_wp2;clear c_ d_;have M2:=(M1.put3 (i:=0) rfl (I i) (I pd) (I a))
 generalize b:World.setCell _ _ _=wz;rw[b]at M2;clear b M1;have y_:=(M2.bk 0).tri;exact bodyPost_ret (v:= .tuple #[.agg #[i,pd,a],amt,.bool false]) (by simp[results,results99,go_sem, *]) rfl ⟨rfl,M2.ext⟩
theorem aIj (i pd a now f s p c amt D:Int)(w:World)(hD:0≤D)(h:D≤693)(l:0≤pd)(hp:pd≤9999)
  (HD:Hid (∀w,U 35 #[aS f s p c,bX i pd a,now] w (O (I D) w)))(ha:1≤amt)(hb:amt≤300)(g:1≤D):
  U 99 #[aS f s p c,bX i pd a,now,amt] w (O (.tuple #[bX i (pd+min D amt) now,(amt-min D amt:Int),.bool true]) w):=by
 go_enter func99,ntmps99;go_wp2_with fail;refine Z (HD _) fun w1 d=>?_
 have M1:=(((((Mem.start w).c0 TT4 #[f,s,p,c]).c1 TS3 #[i,pd,a]).c2 TS3 #[(),(),()]).adv d)
 clear d HD;have k:min amt D=min D amt:=Int.min_comm _ _;have k1:=aVw (pd+min D amt);have k2:=aVw (amt-min D amt);have j:(D==0)=false:=by simp;omega
 have t0:decide (D<0)=false:=by simp;omega
 have t1:decide (amt<1)=false:=by simp;omega
 have t2:decide (300<amt)=false:=by simp;omega
 have c_:=(M1.bk 1).tri;have d_:=(M1.bk 0).trif;go_wp2;clear c_ d_;have M2:=(M1.put3 (i:=0) rfl (I i) (I (pd+min D amt)) (I now))
 generalize b:World.setCell _ _ _=wz;rw[b]at M2;clear b M1;have y_:=(M2.bk 0).tri;exact bodyPost_ret (v:= .tuple #[.agg #[i,(pd+min D amt:Int),now],(amt-min D amt:Int),.bool true]) (by simp[results,results99,go_sem, *]) rfl ⟨rfl,M2.ext⟩
theorem aFo (f s p c i pd a now amt:Int)(w:World)(h:bJ f s p c=true)(h2:dI i pd a=true)(h3:a≤now)(h4:now≤9999):
  U 99 #[aS f s p c,bX i pd a,now,amt] w (O (.tuple #[bX (gC f s p c i pd a now amt).1.1 (gC f s p c i pd a now amt).1.2.1 (gC f s p c i pd a now amt).1.2.2,I (gC f s p c i pd a now amt).2.1,.bool (gC f s p c i pd a now amt).2.2]) w):=by
 obtain⟨b1,b2,b3,b4,b5,b6⟩:=fJ h2;obtain⟨e1,e2⟩:=kR h h2 h3 h4;have HD:=xQ (fun w=>zD f s p c i pd a now w h h2 h3 h4);unfold gC;generalize cF f s p c i pd a now=D at*;by_cases ha:1≤amt∧amt≤300
 ·rw[if_pos ha];by_cases hd:D=0
  ·subst hd;rw[if_pos rfl];exact aFn i pd a now f s p c amt w b3 b4 HD ha.1 ha.2
  rw[if_neg hd];exact aIj i pd a now f s p c amt D w e1 e2 b3 b4 HD ha.1 ha.2 (by omega)
 rw[if_neg ha];by_cases hb:amt<1
 ·exact aM2 i pd a now f s p c amt D w e1 e2 b3 b4 HD hb
 exact aM3 i pd a now f s p c amt D w e1 e2 b3 b4 HD (by omega)
theorem aG0 (w:World)(gA:Nat)(aA aB a b aD aF aC aG id amt:Int)(p:OA)(n c:Nat)(q:OA)(m c2:Nat)(hA:Hid (Blk w gA aK #[aA,aB,.slice p n c,a,b,aD,aF,aC,aG,.slice q m c2]))
  (HX:xC 98 #[.agg #[aA,aB,.slice p n c,a,b,aD,aF,aC,aG,.slice q m c2],id] w fun w' e w''=>e= .returned (I (-1))∧Ext w' w''):
  U 62 #[.pointer (some ⟨gA,0,none⟩),id,amt] w (O (.tuple #[(-1:Int),.bool false]) w):=by
 have a_:=hA.out.ten;go_enter func62,ntmps62;go_wp2_with fail;clear a_;refine Z (HX _ (Ext.refl _)) fun w1 hx=>?_
 have hX:=xQ hx;clear hx;go_wp2;exact bodyPost_ret (v:= .tuple #[(-1:Int),.bool false]) (by simp[results,results62,go_sem, *]) rfl ⟨rfl,hX.out⟩
theorem aFz (w0 w:World)(R:Item)(gA gq:Nat)(aA aB d h aD aF aC aG id amt:Int)(p:OA)(n j m c2 k:Nat)(xs:List Int)(vs:List aR)(a0 a1 a2 a3 S1 S2 S3 bk:Int)(o:Bool)(hk:k<m)(hm:m≤1000)(a9:0≤aG)(av:aG≤99999)(al:o=true→0≤bk∧bk≤amt∧amt≤300)(l:Hid (vs[k]? =some (a0,a1,a2,a3)))
  (hM:Hid (Mem w0 w [aJ w0 TI 1 (p) (n) (j) (ivs xs),aJ w0 TV 4 (some ⟨gq,0,none⟩) (m) (c2) (vs.flatMap aE),aI w0 (gA) aK #[aA,aB,.slice p n j,d,h,aD,aF,aC,aG,.slice (some ⟨gq,0,none⟩) m c2],R]))
  (HX:xC 98 #[.agg #[aA,aB,.slice p n j,d,h,aD,aF,aC,aG,.slice (some ⟨gq,0,none⟩) m c2],id] w fun w' e w''=>e= .returned (I k)∧Ext w' w'')
  (HP:Hid (∀w',U 99 #[aS d h aD aF,bX a1 a2 a3,aC,amt] w' (O (.tuple #[bX S1 S2 S3,bk,.bool o]) w'))):
  U 62 #[.pointer (some ⟨gA,0,none⟩),id,amt] w fun e w'=>(e= .returned (.tuple #[(-1:Int),.bool false])∧ ¬(o=true∧aG+amt-bk≤99999)∧Ext w w')∨
   (o=true∧aG+amt-bk≤99999∧e= .returned (.tuple #[bk,.bool true])∧Mem w0 w' [aJ w0 TI 1 (p) (n) (j) (ivs xs),aJ w0 TV 4 (some ⟨gq,0,none⟩) (m) (c2) ((vs.set k (a0,S1,S2,S3)).flatMap aE),aI w0 (gA) aK #[aA,aB,.slice p n j,d,h,aD,aF,aC,(aG+amt-bk:Int),.slice (some ⟨gq,0,none⟩) m c2],R]):=by
 go_enter func62,ntmps62;have s:=(hM.out.lt (i:=1) (g:=gq) rfl rfl).2;have g1:w.cell? ⟨gq,k*4+1,none⟩=some (I a1):=((hM.out.ow 1).cellAt (k*4+1) (by omega)).trans (eP aE 4 (fun _=>rfl) vs k _ l.out 1 (by omega));have g2:w.cell? ⟨gq,k*4+2,none⟩=some (I a2):=((hM.out.ow 1).cellAt (k*4+2) (by omega)).trans (eP aE 4 (fun _=>rfl) vs k _ l.out 2 (by omega));have g3:w.cell? ⟨gq,k*4+3,none⟩=some (I a3):=((hM.out.ow 1).cellAt (k*4+3) (by omega)).trans (eP aE 4 (fun _=>rfl) vs k _ l.out 3 (by omega));obtain⟨z0,z1,z2,z3,z4,z5,z6,z7,z8,z9⟩:=(hM.out.bk 2).ten;go_wp2_with fail;clear z0 z1 z2 z3 z4 z5 z6 z7 z8 z9;refine Z (HX _ (Ext.refl _)) fun w2 z=>?_
 have q:=xQ z;have M2:=(hM.out.adv z)
 clear z HX;have ba:=(M2.hi 2)
 have u:gq<w2:=aT4 s q.out.sz;have ab:w2.cell? ⟨gq,k*4+1,none⟩=some (I a1):=(q.out.cells.1 _ _ s).trans g1;have ad:w2.cell? ⟨gq,k*4+2,none⟩=some (I a2):=(q.out.cells.1 _ _ s).trans g2;have ae:w2.cell? ⟨gq,k*4+3,none⟩=some (I a3):=(q.out.cells.1 _ _ s).trans g3;clear g1 g2 g3;have ai:=(M2.bk 2).ten;have i1:=aVt k;have i2:=aVu k m;have n2: ¬(w2.heap.size=gA):=by omega
 have n4: ¬(w2.heap.size=gq):=by omega
 go_upto_region 4 with fail;go_cut [9,10,11] (fun s11 s12 s13 wx=> ∃a:Nat,s11= .pointer (some ⟨a,0,none⟩)∧s12=I bk∧s13= .bool o∧Ext w2 wx∧w2.heap.size≤a∧Blk wx a TS3 #[S1,S2,S3])
 case first=>
  go_region_held3 (fun w'=>w'.cell? ⟨gA,3,none⟩=some (I d)∧w'.cell? ⟨gA,4,none⟩=some (I h)∧w'.cell? ⟨gA,5,none⟩=some (I aD)∧w'.cell? ⟨gA,6,none⟩=some (I aF)∧w'.cell? ⟨gA,7,none⟩=some (I aC)∧w'.cell? ⟨gA,9,none⟩=some (.slice (some ⟨gq,0,none⟩) m c2)∧w'.cell? ⟨gq,k*4+1,none⟩=some (I a1)∧w'.cell? ⟨gq,k*4+2,none⟩=some (I a2)∧w'.cell? ⟨gq,k*4+3,none⟩=some (I a3))
   (first|(refine⟨?_,?_,?_,?_,?_,?_,?_,?_,?_⟩<;>assumption)|go_keep)
   ((go_at_call 99
     refine Z (HP _) fun w5 ah=>?_
     have f:Ext w2 w5:=xE;have aw:=((M2.bk 2).ext f).cl 3;have ax:=((M2.bk 2).ext f).cl 4;have ay:=((M2.bk 2).ext f).cl 5;have az:=((M2.bk 2).ext f).cl 6;have a4:=((M2.bk 2).ext f).cl 7;have a5:=((M2.bk 2).ext f).cl 9;have a6:w5.cell? ⟨gq,k*4+1,none⟩=some (I a1):=(f.cells.1 _ _ u).trans ab;have a7:w5.cell? ⟨gq,k*4+2,none⟩=some (I a2):=(f.cells.1 _ _ u).trans ad;have a8:w5.cell? ⟨gq,k*4+3,none⟩=some (I a3):=(f.cells.1 _ _ u).trans ae
     first
      |(have aa:Ext (w2.alloc (.cells #[(),(),()] TS3)) w5:=ah
        have BB:=(Blk.new w2 TS3 #[(),(),()]).ext aa;have an:=BB.cl 0;have aq:=BB.frozen 0;have ao:=BB.cl 1;have ar:=BB.frozen 1;have ap:=BB.cl 2
        have au:w5.frozen? ⟨w2,2,none⟩=false:=BB.frozen 2)
      |(have aa:Ext (w2.alloc (.cells #[(),(),()] TS3)) w5:=ah.of_drew
        have BB:=(Blk.new w2 TS3 #[(),(),()]).ext aa;have an:=BB.cl 0;have aq:=BB.frozen 0;have ao:=BB.cl 1;have ar:=BB.frozen 1;have ap:=BB.cl 2
        have au:w5.frozen? ⟨w2,2,none⟩=false:=BB.frozen 2)
      |skip))
  ·go_wp2_with fail;go_meet;exact⟨w5.heap.size,rfl,rfl,rfl,xE,by have:=f.sz;omega,Blk.new _ _ _⟩
  have hR:ExtR w2 w5 _:=(((ExtR.refl w2 w5).setCell (p:=⟨w2,0,none⟩) (.inl rfl) (I S1)).setCell (p:=⟨w2,1,none⟩) (.inl rfl) (I S2)).setCell (p:=⟨w2,2,none⟩) (.inl rfl) (I S3);have hY:=((BB.set 0 (I S1)).set 1 (I S2)).set 2 (I S3);simp only[aTm,aTk,aTj]at hY;go_wp2_with fail;go_meet;exact⟨w2.heap.size,rfl,rfl,rfl,ExtR.new f hR (aT5 _),aT5 _,hY⟩
 case rest=>
  clear ai ab ad ae HP n2 n4;obtain⟨a,rfl,rfl,rfl,t,ha,af⟩:=hcut;have b:=xQ (q.out.trans t);have M3:=(M2.blkOf t af ha)
  clear M2 t ha af;cases o with
  |false=>
   have x:Hid (¬(false=true∧aG+amt-bk≤99999)):=by show¬_;simp
   go_wp2
   exact bodyPost_ret (v:= .tuple #[(-1:Int),.bool false]) (by simp[results,results62,go_sem, *]) rfl (by
    have c:=x.out
    first|exact .inl ⟨rfl,c,b.out⟩|exact .inl ⟨rfl,by omega,b.out⟩|exact .inl ⟨by omega,b.out⟩|exact .inl ⟨rfl,b.out⟩|exact .inl b.out|exact b.out|(simp at c;first|exact .inl ⟨rfl,c,b.out⟩|exact .inl ⟨c,b.out⟩|exact .inl ⟨rfl,by omega,b.out⟩|exact .inl ⟨by omega,b.out⟩))
  |true=>
   obtain⟨o1,o2,o3⟩:=al rfl;have k1:=aVw (aG+amt);have k2:=aVw (aG+amt-bk);have k3:=aVw (amt-bk);have k4:IntKind.i64.wrap (aG+(amt-bk))=aG+amt-bk:=by rw[aT8 _ (by omega)];omega
   have h8:=(M3.bk 3).cl 8;by_cases hq:aG+amt-bk≤99999
   ·have hd:decide (99999<aG+amt-bk)=false:=by simp;omega
    have y:=xQ hq;clear hq;go_upto_region 7 with fail;clear h8;have d9:=(M3.bk 3).cl 9;have am:=(M3.bk 0).tri;have y1:wc.cell? ⟨gq,k*4+1,none⟩=some (I a1):=((M3.ow 2).cellAt (k*4+1) (by omega)).trans (eP aE 4 (fun _=>rfl) vs k _ l.out 1 (by omega));have z1:wc.frozen? ⟨gq,k*4+1,none⟩=false:=(M3.ow 2).frozenAt (k*4+1);have y2:wc.cell? ⟨gq,k*4+2,none⟩=some (I a2):=((M3.ow 2).cellAt (k*4+2) (by omega)).trans (eP aE 4 (fun _=>rfl) vs k _ l.out 2 (by omega));have z2:wc.frozen? ⟨gq,k*4+2,none⟩=false:=(M3.ow 2).frozenAt (k*4+2);have y3:wc.cell? ⟨gq,k*4+3,none⟩=some (I a3):=((M3.ow 2).cellAt (k*4+3) (by omega)).trans (eP aE 4 (fun _=>rfl) vs k _ l.out 3 (by omega));have z3:wc.frozen? ⟨gq,k*4+3,none⟩=false:=(M3.ow 2).frozenAt (k*4+3);go_region;clear d9 am y1 z1 y2 z2 y3 z3;have ak:Hid ((((vs.flatMap aE).set (k*4+1) (I S1)).set (k*4+2) (I S2)).set (k*4+3) (I S3)=(vs.set k (a0,S1,S2,S3)).flatMap aE):=aB5 l S1 S2 S3;have MX:=(show Mem w0 (((wc.setCell ⟨gq,k*4+1,none⟩ (I S1)).setCell ⟨gq,k*4+2,none⟩ (I S2)).setCell ⟨gq,k*4+3,none⟩ (I S3)).drew [aI w0 (a) TS3 #[S1,S2,S3],aJ w0 TI 1 (p) (n) (j) (ivs xs),aJ w0 TV 4 (some ⟨gq,0,none⟩) (m) (c2) ((vs.set k (a0,S1,S2,S3)).flatMap aE),aI w0 (gA) aK #[aA,aB,.slice p n j,d,h,aD,aF,aC,aG,.slice (some ⟨gq,0,none⟩) m c2],R]from by rw[←ak.out];exact(((M3.ostore (i:=2) rfl (k*4+1) (I S1)).ostore (i:=2) rfl (k*4+2) (I S2)).ostore (i:=2) rfl (k*4+3) (I S3)).adv (Ext.drew (Ext.refl _)))
    generalize ag:World.drew _=w7;rw[ag]at MX;clear ag M3;have d8:=(MX.bk 3).cl 8;have aj:=(MX.bk 3).frozen 8;go_wp2;clear d8 aj;exact bodyPost_ret (v:= .tuple #[bk,.bool true]) (by simp[results,results62,go_sem, *]) rfl (by have r:Hid (Mem w0 _ [aJ w0 TI 1 (p) (n) (j) (ivs xs),aJ w0 TV 4 (some ⟨gq,0,none⟩) (m) (c2) ((vs.set k (a0,S1,S2,S3)).flatMap aE),aI w0 (gA) aK #[aA,aB,.slice p n j,d,h,aD,aF,aC,(aG+amt-bk:Int),.slice (some ⟨gq,0,none⟩) m c2],R]):=((MX.store (i:=3) rfl 8 (I (aG+amt-bk))).pick [1,2,3,4] (by decide) rfl);first|exact .inr ⟨rfl,y.out,rfl,r.out⟩|exact .inr ⟨y.out,rfl,r.out⟩|exact .inr ⟨y.out,r.out⟩)
   have x:Hid (¬(true=true∧aG+amt-bk≤99999)):=by show¬_;simp[hq]
   have hd:decide (99999<aG+amt-bk)=true:=by simp;omega
   go_wp2
   exact bodyPost_ret (v:= .tuple #[(-1:Int),.bool false]) (by simp[results,results62,go_sem, *]) rfl (by
    have c:=x.out
    first|exact .inl ⟨rfl,c,b.out⟩|exact .inl ⟨rfl,by omega,b.out⟩|exact .inl ⟨by omega,b.out⟩|exact .inl ⟨rfl,b.out⟩|exact .inl b.out|exact b.out|(simp at c;first|exact .inl ⟨rfl,c,b.out⟩|exact .inl ⟨c,b.out⟩|exact .inl ⟨rfl,by omega,b.out⟩|exact .inl ⟨by omega,b.out⟩))
theorem aIw (w:World)(gA:Nat)(aA aB a b aD aF aC aG id d:Int)(p:OA)(n c:Nat)(q:OA)(m c2:Nat)(hA:Hid (Blk w gA aK #[aA,aB,.slice p n c,a,b,aD,aF,aC,aG,.slice q m c2]))
  (f:xB 71 #[.agg #[aA,aB,.slice p n c,a,b,aD,aF,aC,aG,.slice q m c2],id] w false):
  U 63 #[.pointer (some ⟨gA,0,none⟩),id] w (O (.tuple #[(-1:Int),.bool false]) w):=by
 go_enter func63,ntmps63;have a_:=hA.out.ten;go_wp2_with fail;clear a_;refine Z (f _ (Ext.refl _)) fun w1 hx=>?_
 have hX:=xQ hx;clear hx;go_wp2;exact bodyPost_ret (v:= .tuple #[(-1:Int),.bool false]) (by simp[results,results63,go_sem, *]) rfl ⟨rfl,hX.out⟩
theorem aMb (w:World)(gA:Nat)(aA aB b d aD aF aC aG id a:Int)(p:OA)(n f:Nat)(q:OA)(m c2:Nat)(ys:List Int)(h0:a<0)(hA:Hid (Blk w gA aK #[aA,aB,.slice p n f,b,d,aD,aF,aC,aG,.slice q m c2]))
  (h:xB 71 #[.agg #[aA,aB,.slice p n f,b,d,aD,aF,aC,aG,.slice q m c2],id] w true)
  (HF:xC 100 #[aH aA aB p n f,id] w fun w' e w''=> ∃q c,e= .returned (.tuple #[aH aA aB q n c,a])∧w''.ownsRow w' TI 1 (.slice q n c) n (ivs ys)∧Ext w' w''):
  U 63 #[.pointer (some ⟨gA,0,none⟩),id] w (O (.tuple #[(-1:Int),.bool false]) w):=by
 go_enter func63,ntmps63;have a_:=hA.out.ten;go_wp2_with fail;clear a_;refine Z (h _ (Ext.refl _)) fun w1 hx=>?_
 have hX:=xQ hx;clear hx;have a_:=(hA.out.ext hX.out).ten;go_wp2_with fail;clear a_;refine(HF _ hX.out).mono ?_;rintro e w2 ⟨p1,c1,rfl,_,g⟩;have i:=xQ (hX.out.trans g);clear g;go_wp2;exact bodyPost_ret (v:= .tuple #[(-1:Int),.bool false]) (by simp[results,results63,go_sem, *]) rfl ⟨rfl,by have:=i.out;exact xE⟩
theorem aIv (w0 w:World)(R:Item)(gA:Nat)(aA aB b d aD aF aC aG id a:Int)(p:OA)(n h:Nat)(gq:Nat)(m c2:Nat)(k:Nat)(xs ys:List Int)(vs:List aR)(hk:k<m)(hm:m≤1000)(h0:0≤a)(hM:Hid (Mem w0 w [aJ w0 TI 1 (p) (n) (h) (ivs (xs)),aJ w0 TV 4 (some ⟨gq,0,none⟩) (m) (c2) (vs.flatMap aE),aI w0 (gA) aK #[aA,aB,.slice p n h,b,d,aD,aF,aC,aG,.slice (some ⟨gq,0,none⟩) m c2],R]))
  (ab:xB 71 #[.agg #[aA,aB,.slice p n h,b,d,aD,aF,aC,aG,.slice (some ⟨gq,0,none⟩) m c2],id] w true)
  (HF:xC 100 #[aH aA aB p n h,id] w fun w' e w''=> ∃q c,e= .returned (.tuple #[aH aA aB q n c,a])∧w''.ownsRow w' TI 1 (.slice q n c) n (ivs ys)∧Ext w' w'')
  (HX:Hid (∀w' p' cap',Sl w' (some ⟨gq,0,none⟩) m c2 4 (vs.flatMap aE)→U 98 #[.agg #[aA,aB,.slice p' n cap',b,d,aD,aF,aC,aG,.slice (some ⟨gq,0,none⟩) m c2],id] w' (O (I k) w'))):
  U 63 #[.pointer (some ⟨gA,0,none⟩),id] w fun e w'=> ∃p1 c1,e= .returned (.tuple #[a,.bool true])∧Mem w0 w' [aJ w0 TI 1 (p1) (n) (c1) (ivs (ys)),aJ w0 TV 4 (some ⟨gq,0,none⟩) (m-1) (c2) ((vs.eraseIdx k).flatMap aE),aI w0 (gA) aK #[aA,aB,.slice p1 n c1,b,d,aD,aF,aC,aG,.slice (some ⟨gq,0,none⟩) (m-1) c2],R]:=by
 go_enter func63,ntmps63;obtain⟨a0,a1,a2,a3,a4,a5,a6,a7,a8,a9⟩:=(hM.out.bk 2).ten;go_wp2_with fail;clear a0 a1 a2 a3 a4 a5 a6 a7 a8 a9;refine Z (ab _ (Ext.refl _)) fun w1 s=>?_
 have ah:=xQ s;have M1:=(hM.out.adv s)
 clear hM s;have a0:=(M1.bk 2).cl 0;have a1:=(M1.bk 2).cl 1;have a2:=(M1.bk 2).cl 2;go_wp2_with fail;clear a0 a1 a2;refine(HF _ ah.out).mono ?_;rintro e w2 ⟨p1,c1,rfl,x,aa⟩;have M2:=(M1.call aa x)
 clear M1 aa x;go_upto_region 4 with fail;obtain⟨gV,r⟩: ∃gV,gV=w2.heap.size:=⟨_,rfl⟩
 rw[←r];have M3:=(M2.blkNew TH3 #[aA,aB,.slice p1 n c1] gV r.symm)
 generalize World.alloc _ _=w3 at M3⊢;clear M2 r;have t0: ¬(a<0):=by omega
 have v_:=(M3.bk 0).tri;have a0:=(M3.bk 4).cl 0;have ad:=(M3.bk 4).frozen 0;have a1:=(M3.bk 4).cl 1;have ae:=(M3.bk 4).frozen 1;have a2:=(M3.bk 4).cl 2;have af:=(M3.bk 4).frozen 2;go_upto_region 7 with fail;clear v_ a0 ad a1 ae a2 af;have M4:=((M3.st 4 0 (I aA)).st 4 1 (I aB))
 have M5:=(M4.st 4 2 (.slice p1 n c1))
 have M6:=(M5)
 generalize z:World.setCell _ _ _=w5;rw[z]at M6;clear z M3 M4 M5;have g:=(show Mem w0 w5 [aJ w0 TI 1 (p1) (n) (c1) (ivs (ys)),aJ w0 TV 4 (some ⟨gq,0,none⟩) (m) (c2) (vs.flatMap aE),aI w0 (gA) aK #[aA,aB,.slice p1 n c1,b,d,aD,aF,aC,aG,.slice (some ⟨gq,0,none⟩) m c2],R]from(M6.pick [1,3,4,5] (by decide) rfl))
 clear M6;obtain⟨a0,a1,a2,a3,a4,a5,a6,a7,a8,a9⟩:=(g.bk 2).ten;go_wp2_with fail;clear a0 a1 a2 a3 a4 a5 a6 a7 a8 a9;have t:=xQ (g.sq 1);refine Z (HX _ _ _ t.out) fun ai j=>?_
 have f:=(g.adv j)
 clear g j t;have l:=xQ (aPx gq m c2 w0 k (k+1) vs ai (by omega) hk rfl (f.ow 1));rw[show((k+1:Nat):Int)=(k:Int)+1 by omega]at l;have aj:=aVw ((k:Int)+1);have a9:=(f.bk 2).cl 9;go_wp2_with fail;clear a9;refine l.out.mono ?_;rintro e w8 ⟨rfl,y,u⟩;have o:=(show Mem w0 w8 [aJ w0 TI 1 (p1) (n) (c1) (ivs (ys)),aJ w0 TV 4 (some ⟨gq,0,none⟩) (m-1) (c2) ((vs.eraseIdx k).flatMap aE),aI w0 (gA) aK #[aA,aB,.slice p1 n c1,b,d,aD,aF,aC,aG,.slice (some ⟨gq,0,none⟩) m c2],R]from f.app (i:=1) rfl y u (.inl rfl))
 clear f y u l;have a9:=(o.bk 2).cl 9;have ag:=(o.bk 2).frozen 9;go_wp2;clear a9 ag;exact bodyPost_ret (v:= .tuple #[a,.bool true]) (by simp[results,results63,go_sem, *]) rfl ⟨p1,c1,rfl,(o.st 2 9 (.slice (some ⟨gq,0,none⟩) (m-1) c2))⟩
theorem aIu (aA aB a b aD aF aC aG c f g:Int)(p:OA)(n d:Nat)(q:OA)(m c2:Nat)(xs:List Int)(vs:List aR)(w:World)
  (h:xB 19 #[.agg #[aA,aB,.slice p n d,a,b,aD,aF,aC,aG,.slice q m c2]] w false):
  U 31 #[.agg #[aA,aB,.slice p n d,a,b,aD,aF,aC,aG,.slice q m c2],.agg #[c,f,g]] w (O (.tuple #[.agg #[(),(),((),()),(),(),(),(),(),(),((),())],(-1:Int),.bool false]) w):=by
 go_enter func31,ntmps31;go_wp2_with fail;refine Z (h _ ((((Mem.start w).c0 aK #[aA,aB,.slice p n d,a,b,aD,aF,aC,aG,.slice q m c2]).c1 THD #[c,f,g]).c2 aK zT).ext) fun w1 k=>?_
 have M1:=(((((Mem.start w).c0 aK #[aA,aB,.slice p n d,a,b,aD,aF,aC,aG,.slice q m c2]).c1 THD #[c,f,g]).c2 aK zT).adv k)
 clear k h;have f_:=(M1.bk 0).tenf;go_wp2;clear f_;have M2:=(M1.put10 (i:=0) rfl (I 0) (I 0) (.slice none 0 0) (I 0) (I 0) (I 0) (I 0) (I 0) (I 0) (.slice none 0 0))
 generalize j:World.setCell _ _ _=wz;rw[j]at M2;clear j M1;have y_:=(M2.bk 0).ten;exact bodyPost_ret (v:= .tuple #[.agg #[(),(),((),()),(),(),(),(),(),(),((),())],(-1:Int),.bool false]) (by simp[results,results31,go_sem, *]) rfl ⟨rfl,M2.ext⟩
theorem iX (aA aB a b aD aF aC aG d j u:Int)(p:OA)(n o:Nat)(q:OA)(m c2:Nat)(xs ys:List Int)(vs:List aR)(w:World)
  (y:xB 19 #[.agg #[aA,aB,.slice p n o,a,b,aD,aF,aC,aG,.slice q m c2]] w true)
  (HL:xC 20 #[.agg #[aA,aB,.slice p n o,a,b,aD,aF,aC,aG,.slice q m c2]] w fun w' e w''=> ∃p' cap' q' c2',e= .returned (.agg #[aA,aB,.slice p' n cap',a,b,aD,aF,aC,aG,.slice q' m c2'])∧w''.ownsRow w' TI 1 (.slice p' n cap') n (ivs xs)∧w''.ownsRow w' TV 4 (.slice q' m c2') m (vs.flatMap aE)∧Ext w' w'')
  (D:(d≠0∧d≠1∧d≠2∧d≠3∧d≠4)∨(d=3∧0≤aC∧aC≤9999∧j<1)∨(d=3∧0≤aC∧aC≤9999∧1≤j∧9999-aC<j)∨(d=4∧(∀w',Ext w w'→U 64 #[aH aA aB p n o,eK j u] w' fun e w''=> ∃q c,e= .returned (.tuple #[aH aA aB q n c,.bool false])∧w''.ownsRow w' TI 1 (.slice q n c) n (ivs ys)∧Ext w' w''))∨(d=0∧(∀w' R gA p1 cp1 q1 cq1,Mem w w' ([aJ w TI 1 (p1) (n) (cp1) (ivs xs),aJ w TV 4 (q1) (m) (cq1) (vs.flatMap aE),aI w (gA) aK #[aA,aB,.slice p1 n cp1,a,b,aD,aF,aC,aG,.slice q1 m cq1]]++ [R])→U 61 #[.pointer (some ⟨gA,0,none⟩),j] w' (O (.tuple #[(-1:Int),.bool false]) w')))∨(d=1∧(∀w' R gA p1 cp1 q1 cq1,Mem w w' ([aJ w TI 1 (p1) (n) (cp1) (ivs xs),aJ w TV 4 (q1) (m) (cq1) (vs.flatMap aE),aI w (gA) aK #[aA,aB,.slice p1 n cp1,a,b,aD,aF,aC,aG,.slice q1 m cq1]]++ [R])→U 62 #[.pointer (some ⟨gA,0,none⟩),j,u] w' (O (.tuple #[(-1:Int),.bool false]) w')))∨(d=2∧(∀w' R gA p1 cp1 q1 cq1,Mem w w' ([aJ w TI 1 (p1) (n) (cp1) (ivs xs),aJ w TV 4 (q1) (m) (cq1) (vs.flatMap aE),aI w (gA) aK #[aA,aB,.slice p1 n cp1,a,b,aD,aF,aC,aG,.slice q1 m cq1]]++ [R])→U 63 #[.pointer (some ⟨gA,0,none⟩),j] w' (O (.tuple #[(-1:Int),.bool false]) w')))):
  U 31 #[.agg #[aA,aB,.slice p n o,a,b,aD,aF,aC,aG,.slice q m c2],.agg #[d,j,u]] w fun e w'=> ∃p' cap' q' c2',e= .returned (.tuple #[.agg #[aA,aB,.slice p' n cap',a,b,aD,aF,aC,aG,.slice q' m c2'],(-1:Int),.bool false])∧w'.ownsRow w TI 1 (.slice p' n cap') n (ivs xs)∧w'.ownsRow w TV 4 (.slice q' m c2') m (vs.flatMap aE)∧Ext w w':=by
 go_enter func31,ntmps31;go_wp2_with fail;refine Z (y _ ((((Mem.start w).c0 aK #[aA,aB,.slice p n o,a,b,aD,aF,aC,aG,.slice q m c2]).c1 THD #[d,j,u]).c2 aK zT).ext) fun w1 aa=>?_
 have M1:=(((((Mem.start w).c0 aK #[aA,aB,.slice p n o,a,b,aD,aF,aC,aG,.slice q m c2]).c1 THD #[d,j,u]).c2 aK zT).adv aa)
 clear aa y;have k:=(M1.bk 2).ten;go_wp2_with fail;clear k;refine(HL _ M1.ext).mono ?_;rintro e w2 ⟨p1,cp1,q1,cq1,rfl,ho,hq,hx⟩;have M2:=(M1.own2 hx ho hq (aT5 _) (by decide))
 clear M1 hx ho hq;go_upto_region 5 with fail;obtain⟨gA,x⟩: ∃gA,gA=w2.heap.size:=⟨_,rfl⟩
 rw[←x];have M3:=(M2.blkNew aK #[aA,aB,.slice p1 n cp1,a,b,aD,aF,aC,aG,.slice q1 m cq1] gA x.symm)
 generalize World.alloc _ _=w3 at M3⊢;clear M2 x;rcases D with⟨h0,h1,h2,h3,h4⟩|⟨rfl,hc,hc2,h1⟩|⟨rfl,hc,hc2,h1,h2⟩|⟨rfl,hS⟩|⟨rfl,hN⟩|⟨rfl,hN⟩|⟨rfl,hN⟩
 ·have k:=(M3.bk 5).ten;have l:=(M3.bk 4).cl 0;have k0:(d==0)=false:=by simp;omega
  have k1:(d==1)=false:=by simp;omega
  have k2:(d==2)=false:=by simp;omega
  have k3:(d==3)=false:=by simp;omega
  have k4:(d==4)=false:=by simp;omega
  go_wp2_with fail;clear k l;refine(HL _ M3.ext).mono ?_;rintro e w9 ⟨p9,f,q9,g,rfl,ho,hq,hx⟩;have M4:=(M3.own2 hx ho hq (aT5 _) (by decide))
  clear M3 hx ho hq HL;have f_:=(M4.bk 5).tenf;go_wp2;clear f_;have M5:=(M4.put10 (i:=5) rfl (I aA) (I aB) (.slice p9 n f) (I a) (I b) (I aD) (I aF) (I aC) (I aG) (.slice q9 m g))
  generalize h:World.setCell _ _ _=wz;rw[h]at M5;clear h M4;have y_:=(M5.bk 5).ten;exact bodyPost_ret (v:= .tuple #[.agg #[aA,aB,.slice p9 n f,a,b,aD,aF,aC,aG,.slice q9 m g],(-1:Int),.bool false]) (by simp[results,results31,go_sem, *]) rfl ⟨p9,f,q9,g,rfl,(M5.ow 0),(M5.ow 1),M5.ext⟩
 ·have k:=(M3.bk 5).ten;obtain⟨l,r,s⟩:=(M3.bk 4).tri;have k1:=aVw (9999-aC);have d1:decide (1≤j)=false:=by simp;omega
  go_wp2_with fail;clear k l r s;refine(HL _ M3.ext).mono ?_;rintro e w9 ⟨p9,f,q9,g,rfl,ho,hq,hx⟩;have M4:=(M3.own2 hx ho hq (aT5 _) (by decide))
  clear M3 hx ho hq HL;have f_:=(M4.bk 5).tenf;go_wp2;clear f_;have M5:=(M4.put10 (i:=5) rfl (I aA) (I aB) (.slice p9 n f) (I a) (I b) (I aD) (I aF) (I aC) (I aG) (.slice q9 m g))
  generalize h:World.setCell _ _ _=wz;rw[h]at M5;clear h M4;have y_:=(M5.bk 5).ten;exact bodyPost_ret (v:= .tuple #[.agg #[aA,aB,.slice p9 n f,a,b,aD,aF,aC,aG,.slice q9 m g],(-1:Int),.bool false]) (by simp[results,results31,go_sem, *]) rfl ⟨p9,f,q9,g,rfl,(M5.ow 0),(M5.ow 1),M5.ext⟩
 ·have k:=(M3.bk 5).ten;obtain⟨l,r,s⟩:=(M3.bk 4).tri;have k1:=aVw (9999-aC);have d1:decide (1≤j)=true:=by simp;omega
  have d2:decide (j≤9999-aC)=false:=by simp;omega
  go_wp2_with fail;clear k l r s;refine(HL _ M3.ext).mono ?_;rintro e w9 ⟨p9,f,q9,g,rfl,ho,hq,hx⟩;have M4:=(M3.own2 hx ho hq (aT5 _) (by decide))
  clear M3 hx ho hq HL;have f_:=(M4.bk 5).tenf;go_wp2;clear f_;have M5:=(M4.put10 (i:=5) rfl (I aA) (I aB) (.slice p9 n f) (I a) (I b) (I aD) (I aF) (I aC) (I aG) (.slice q9 m g))
  generalize h:World.setCell _ _ _=wz;rw[h]at M5;clear h M4;have y_:=(M5.bk 5).ten;exact bodyPost_ret (v:= .tuple #[.agg #[aA,aB,.slice p9 n f,a,b,aD,aF,aC,aG,.slice q9 m g],(-1:Int),.bool false]) (by simp[results,results31,go_sem, *]) rfl ⟨p9,f,q9,g,rfl,(M5.ow 0),(M5.ow 1),M5.ext⟩
 ·have k:=(M3.bk 5).ten;obtain⟨l,r,s⟩:=(M3.bk 4).tri;have HS:=xQ hS;clear hS;go_wp2_with fail;clear k l r s;refine(HS _ M3.ext).mono ?_;rintro e w4 ⟨p5,c5,rfl,z,t⟩;have M4:=(M3.call t z)
  clear M3 t z;have d0:=(M4.bk 1).cl 0;have ab:=(M4.bk 1).frozen 0;have d1:=(M4.bk 1).cl 1;have ad:=(M4.bk 1).frozen 1;have d2:=(M4.bk 1).cl 2;have ae:=(M4.bk 1).frozen 2;go_upto_region 19 with fail;clear d0 ab d1 ad d2 ae;have M5:=((M4.st 1 0 (I aA)).st 1 1 (I aB))
  have M6:=(M5.st 1 2 (.slice p5 n c5))
  have M7:=(M6)
  generalize h:World.setCell _ _ _=w5;rw[h]at M7;clear h M4 M5 M6;have k:=(M7.bk 6).ten;go_wp2_with fail;clear k;refine(HL _ M7.ext).mono ?_;rintro e w9 ⟨p9,f,q9,g,rfl,ho,hq,hx⟩;have M8:=(M7.own2 hx ho hq (aT5 _) (by decide))
  clear M7 hx ho hq HL;have f_:=(M8.bk 6).tenf;go_wp2;clear f_;have M9:=(M8.put10 (i:=6) rfl (I aA) (I aB) (.slice p9 n f) (I a) (I b) (I aD) (I aF) (I aC) (I aG) (.slice q9 m g))
  generalize h:World.setCell _ _ _=wz;rw[h]at M9;clear h M8;have y_:=(M9.bk 6).ten;exact bodyPost_ret (v:= .tuple #[.agg #[aA,aB,.slice p9 n f,a,b,aD,aF,aC,aG,.slice q9 m g],(-1:Int),.bool false]) (by simp[results,results31,go_sem, *]) rfl ⟨p9,f,q9,g,rfl,(M9.ow 0),(M9.ow 1),M9.ext⟩
 ·obtain⟨l,r,s⟩:=(M3.bk 4).tri;have HN:=xQ hN;clear hN;have MK:=(show Mem w w3 ([aJ w TI 1 (p1) (n) (cp1) (ivs xs),aJ w TV 4 (q1) (m) (cq1) (vs.flatMap aE),aI w (gA) aK #[aA,aB,.slice p1 n cp1,a,b,aD,aF,aC,aG,.slice q1 m cq1]]++ [aI w (w.heap.size+1+1) aK #[(),(),((),()),(),(),(),(),(),(),((),())],aI w (w.heap.size+1) THD #[(),j,u],aI w w aK #[aA,aB,.slice p n o,a,b,aD,aF,aC,aG,.slice q m c2]])from M3.pick [1,2,0,3,4,5] (by decide) rfl)
  go_wp2_with fail;clear l r s;refine Z (HN _ (aA2 [aI w (w.heap.size+1+1) aK #[(),(),((),()),(),(),(),(),(),(),((),())],aI w (w.heap.size+1) THD #[(),j,u],aI w w aK #[aA,aB,.slice p n o,a,b,aD,aF,aC,aG,.slice q m c2]]) gA p1 cp1 q1 cq1 (MK.fold [aJ w TI 1 (p1) (n) (cp1) (ivs xs),aJ w TV 4 (q1) (m) (cq1) (vs.flatMap aE),aI w (gA) aK #[aA,aB,.slice p1 n cp1,a,b,aD,aF,aC,aG,.slice q1 m cq1]])) fun w4 t=>?_
  have M4:=(M3.adv t)
  clear M3 t HN MK;have k:=(M4.bk 5).ten;go_wp2_with fail;clear k;refine(HL _ M4.ext).mono ?_;rintro e w9 ⟨p9,f,q9,g,rfl,ho,hq,hx⟩;have M5:=(M4.own2 hx ho hq (aT5 _) (by decide))
  clear M4 hx ho hq HL;have f_:=(M5.bk 5).tenf;go_wp2;clear f_;have M6:=(M5.put10 (i:=5) rfl (I aA) (I aB) (.slice p9 n f) (I a) (I b) (I aD) (I aF) (I aC) (I aG) (.slice q9 m g))
  generalize h:World.setCell _ _ _=wz;rw[h]at M6;clear h M5;have y_:=(M6.bk 5).ten;exact bodyPost_ret (v:= .tuple #[.agg #[aA,aB,.slice p9 n f,a,b,aD,aF,aC,aG,.slice q9 m g],(-1:Int),.bool false]) (by simp[results,results31,go_sem, *]) rfl ⟨p9,f,q9,g,rfl,(M6.ow 0),(M6.ow 1),M6.ext⟩
 ·obtain⟨l,r,s⟩:=(M3.bk 4).tri;have HN:=xQ hN;clear hN;have MK:=(show Mem w w3 ([aJ w TI 1 (p1) (n) (cp1) (ivs xs),aJ w TV 4 (q1) (m) (cq1) (vs.flatMap aE),aI w (gA) aK #[aA,aB,.slice p1 n cp1,a,b,aD,aF,aC,aG,.slice q1 m cq1]]++ [aI w (w.heap.size+1+1) aK #[(),(),((),()),(),(),(),(),(),(),((),())],aI w (w.heap.size+1) THD #[I 1,j,u],aI w w aK #[aA,aB,.slice p n o,a,b,aD,aF,aC,aG,.slice q m c2]])from M3.pick [1,2,0,3,4,5] (by decide) rfl)
  go_wp2_with fail;clear l r s;refine Z (HN _ (aA2 [aI w (w.heap.size+1+1) aK #[(),(),((),()),(),(),(),(),(),(),((),())],aI w (w.heap.size+1) THD #[I 1,j,u],aI w w aK #[aA,aB,.slice p n o,a,b,aD,aF,aC,aG,.slice q m c2]]) gA p1 cp1 q1 cq1 (MK.fold [aJ w TI 1 (p1) (n) (cp1) (ivs xs),aJ w TV 4 (q1) (m) (cq1) (vs.flatMap aE),aI w (gA) aK #[aA,aB,.slice p1 n cp1,a,b,aD,aF,aC,aG,.slice q1 m cq1]])) fun w4 t=>?_
  have M4:=(M3.adv t)
  clear M3 t HN MK;have k:=(M4.bk 5).ten;go_wp2_with fail;clear k;refine(HL _ M4.ext).mono ?_;rintro e w9 ⟨p9,f,q9,g,rfl,ho,hq,hx⟩;have M5:=(M4.own2 hx ho hq (aT5 _) (by decide))
  clear M4 hx ho hq HL;have f_:=(M5.bk 5).tenf;go_wp2;clear f_;have M6:=(M5.put10 (i:=5) rfl (I aA) (I aB) (.slice p9 n f) (I a) (I b) (I aD) (I aF) (I aC) (I aG) (.slice q9 m g))
  generalize h:World.setCell _ _ _=wz;rw[h]at M6;clear h M5;have y_:=(M6.bk 5).ten;exact bodyPost_ret (v:= .tuple #[.agg #[aA,aB,.slice p9 n f,a,b,aD,aF,aC,aG,.slice q9 m g],(-1:Int),.bool false]) (by simp[results,results31,go_sem, *]) rfl ⟨p9,f,q9,g,rfl,(M6.ow 0),(M6.ow 1),M6.ext⟩
 obtain⟨l,r,s⟩:=(M3.bk 4).tri;have HN:=xQ hN;clear hN;have MK:=(show Mem w w3 ([aJ w TI 1 (p1) (n) (cp1) (ivs xs),aJ w TV 4 (q1) (m) (cq1) (vs.flatMap aE),aI w (gA) aK #[aA,aB,.slice p1 n cp1,a,b,aD,aF,aC,aG,.slice q1 m cq1]]++ [aI w (w.heap.size+1+1) aK #[(),(),((),()),(),(),(),(),(),(),((),())],aI w (w.heap.size+1) THD #[I 2,j,u],aI w w aK #[aA,aB,.slice p n o,a,b,aD,aF,aC,aG,.slice q m c2]])from M3.pick [1,2,0,3,4,5] (by decide) rfl)
 go_wp2_with fail;clear l r s;refine Z (HN _ (aA2 [aI w (w.heap.size+1+1) aK #[(),(),((),()),(),(),(),(),(),(),((),())],aI w (w.heap.size+1) THD #[I 2,j,u],aI w w aK #[aA,aB,.slice p n o,a,b,aD,aF,aC,aG,.slice q m c2]]) gA p1 cp1 q1 cq1 (MK.fold [aJ w TI 1 (p1) (n) (cp1) (ivs xs),aJ w TV 4 (q1) (m) (cq1) (vs.flatMap aE),aI w (gA) aK #[aA,aB,.slice p1 n cp1,a,b,aD,aF,aC,aG,.slice q1 m cq1]])) fun w4 t=>?_
 have M4:=(M3.adv t)
 clear M3 t HN MK;have k:=(M4.bk 5).ten;go_wp2_with fail;clear k;refine(HL _ M4.ext).mono ?_;rintro e w9 ⟨p9,f,q9,g,rfl,ho,hq,hx⟩;have M5:=(M4.own2 hx ho hq (aT5 _) (by decide))
 clear M4 hx ho hq HL;have f_:=(M5.bk 5).tenf;go_wp2;clear f_;have M6:=(M5.put10 (i:=5) rfl (I aA) (I aB) (.slice p9 n f) (I a) (I b) (I aD) (I aF) (I aC) (I aG) (.slice q9 m g))
 generalize h:World.setCell _ _ _=wz;rw[h]at M6;clear h M5;have y_:=(M6.bk 5).ten;exact bodyPost_ret (v:= .tuple #[.agg #[aA,aB,.slice p9 n f,a,b,aD,aF,aC,aG,.slice q9 m g],(-1:Int),.bool false]) (by simp[results,results31,go_sem, *]) rfl ⟨p9,f,q9,g,rfl,(M6.ow 0),(M6.ow 1),M6.ext⟩
theorem mS (aA aB a b aD aF aC aG o f l j d x:Int)(p:OA)(n k:Nat)(q:OA)(m c2 m2:Nat)(xs ys:List Int)(vs r:List aR)(w:World)
  (ah:xB 19 #[.agg #[aA,aB,.slice p n k,a,b,aD,aF,aC,aG,.slice q m c2]] w true)
  (HL:xC 20 #[.agg #[aA,aB,.slice p n k,a,b,aD,aF,aC,aG,.slice q m c2]] w fun w' e w''=> ∃p' cap' q' c2',e= .returned (.agg #[aA,aB,.slice p' n cap',a,b,aD,aF,aC,aG,.slice q' m c2'])∧w''.ownsRow w' TI 1 (.slice p' n cap') n (ivs xs)∧w''.ownsRow w' TV 4 (.slice q' m c2') m (vs.flatMap aE)∧Ext w' w'')
  (D:(o=3∧0≤aC∧aC≤9999∧1≤f∧f≤9999-aC∧aC+f=j∧aG=d∧aC+f=x∧xs=ys∧vs=r∧m=m2)∨(o=4∧aC=j∧aG=d∧0=x∧vs=r∧m=m2∧(∀w',Ext w w'→U 64 #[aH aA aB p n k,eK f l] w' fun e w''=> ∃q c,e= .returned (.tuple #[aH aA aB q n c,.bool true])∧w''.ownsRow w' TI 1 (.slice q n c) n (ivs ys)∧Ext w' w''))∨(o=0∧aC=j∧(∀w' R gA p1 cp1 q1 cq1,Mem w w' ([aJ w TI 1 (p1) (n) (cp1) (ivs xs),aJ w TV 4 (q1) (m) (cq1) (vs.flatMap aE),aI w (gA) aK #[aA,aB,.slice p1 n cp1,a,b,aD,aF,aC,aG,.slice q1 m cq1]]++ [R])→U 61 #[.pointer (some ⟨gA,0,none⟩),f] w' fun e w''=> ∃p5 c5 q5 d5,e= .returned (.tuple #[x,.bool true])∧Mem w w'' ([aJ w TI 1 (p5) (n) (c5) (ivs ys),aJ w TV 4 (q5) (m2) (d5) (r.flatMap aE),aI w (gA) aK #[aA,aB,.slice p5 n c5,a,b,aD,aF,aC,d,.slice q5 m2 d5]]++ [R])))∨(o=1∧aC=j∧(∀w' R gA p1 cp1 q1 cq1,Mem w w' ([aJ w TI 1 (p1) (n) (cp1) (ivs xs),aJ w TV 4 (q1) (m) (cq1) (vs.flatMap aE),aI w (gA) aK #[aA,aB,.slice p1 n cp1,a,b,aD,aF,aC,aG,.slice q1 m cq1]]++ [R])→U 62 #[.pointer (some ⟨gA,0,none⟩),f,l] w' fun e w''=> ∃p5 c5 q5 d5,e= .returned (.tuple #[x,.bool true])∧Mem w w'' ([aJ w TI 1 (p5) (n) (c5) (ivs ys),aJ w TV 4 (q5) (m2) (d5) (r.flatMap aE),aI w (gA) aK #[aA,aB,.slice p5 n c5,a,b,aD,aF,aC,d,.slice q5 m2 d5]]++ [R])))∨(o=2∧aC=j∧(∀w' R gA p1 cp1 q1 cq1,Mem w w' ([aJ w TI 1 (p1) (n) (cp1) (ivs xs),aJ w TV 4 (q1) (m) (cq1) (vs.flatMap aE),aI w (gA) aK #[aA,aB,.slice p1 n cp1,a,b,aD,aF,aC,aG,.slice q1 m cq1]]++ [R])→U 63 #[.pointer (some ⟨gA,0,none⟩),f] w' fun e w''=> ∃p5 c5 q5 d5,e= .returned (.tuple #[x,.bool true])∧Mem w w'' ([aJ w TI 1 (p5) (n) (c5) (ivs ys),aJ w TV 4 (q5) (m2) (d5) (r.flatMap aE),aI w (gA) aK #[aA,aB,.slice p5 n c5,a,b,aD,aF,aC,d,.slice q5 m2 d5]]++ [R])))):
  U 31 #[.agg #[aA,aB,.slice p n k,a,b,aD,aF,aC,aG,.slice q m c2],.agg #[o,f,l]] w fun e w'=> ∃p' cap' q' c2',e= .returned (.tuple #[.agg #[aA,aB,.slice p' n cap',a,b,aD,aF,j,d,.slice q' m2 c2'],x,.bool true])∧w'.ownsRow w TI 1 (.slice p' n cap') n (ivs ys)∧w'.ownsRow w TV 4 (.slice q' m2 c2') m2 (r.flatMap aE)∧Ext w w':=by
 go_enter func31,ntmps31;go_wp2_with fail;refine Z (ah _ ((((Mem.start w).c0 aK #[aA,aB,.slice p n k,a,b,aD,aF,aC,aG,.slice q m c2]).c1 THD #[o,f,l]).c2 aK zT).ext) fun w1 aj=>?_
 have M1:=(((((Mem.start w).c0 aK #[aA,aB,.slice p n k,a,b,aD,aF,aC,aG,.slice q m c2]).c1 THD #[o,f,l]).c2 aK zT).adv aj)
 clear aj ah;have z:=(M1.bk 2).ten;go_wp2_with fail;clear z;refine(HL _ M1.ext).mono ?_;rintro e w2 ⟨p1,cp1,q1,cq1,rfl,ho,hq,hx⟩;have M2:=(M1.own2 hx ho hq (aT5 _) (by decide))
 clear M1 hx ho hq;go_upto_region 5 with fail;obtain⟨gA,ag⟩: ∃gA,gA=w2.heap.size:=⟨_,rfl⟩
 rw[←ag];have M3:=(M2.blkNew aK #[aA,aB,.slice p1 n cp1,a,b,aD,aF,aC,aG,.slice q1 m cq1] gA ag.symm)
 generalize World.alloc _ _=w3 at M3⊢;clear M2 ag;rcases D with⟨rfl,hc,hc2,h1,h2,rfl,rfl,rfl,rfl,rfl,rfl⟩|⟨rfl,rfl,rfl,rfl,rfl,rfl,hS⟩|⟨rfl,rfl,hY⟩|⟨rfl,rfl,hY⟩|⟨rfl,rfl,hY⟩
 ·have z:=(M3.bk 5).ten;obtain⟨t,s,u⟩:=(M3.bk 4).tri;have k1:=aVw (9999-aC);have d1:decide (1≤f)=true:=by simp;omega
  have d2:decide (f≤9999-aC)=true:=by simp;omega
  go_upto_region 15 with fail;clear z t s u;have s:=(M3.bk 4).cl 1;obtain⟨d0,ad,d1,ae,d2,af,d3,al,d4,am,d5,an,d6,ao,d7,ap,d8,aq,d9,ar⟩:=(M3.bk 0).tenf;have f_:=(M3.bk 3).tenf;obtain⟨aa,ab⟩:=M3.nq 0 3;have k2:=aVw (aC+f);clear HL;have M4:=(M3.st 0 7 (I (aC+f)))
  go_wp2;clear s d0 ad d1 ae d2 af d3 al d4 am d5 an d6 ao d7 ap d8 aq d9 ar f_ aa ab;have M5:=(M4.put10 (i:=3) rfl (I aA) (I aB) (.slice p1 n cp1) (I a) (I b) (I aD) (I aF) (I (aC+f)) (I aG) (.slice q1 m cq1))
  generalize h:World.setCell _ _ _=wz;rw[h]at M5;clear h M3 M4;have y_:=(M5.bk 3).ten;exact bodyPost_ret (v:= .tuple #[.agg #[aA,aB,.slice p1 n cp1,a,b,aD,aF,(aC+f:Int),aG,.slice q1 m cq1],(aC+f:Int),.bool true]) (by simp[results,results31,go_sem, *]) rfl ⟨p1,cp1,q1,cq1,rfl,(M5.ow 1),(M5.ow 2),M5.ext⟩
 ·have z:=(M3.bk 5).ten;obtain⟨t,s,u⟩:=(M3.bk 4).tri;have HS:=xQ hS;clear hS;go_wp2_with fail;clear z t s u;refine(HS _ M3.ext).mono ?_;rintro e w4 ⟨p5,c5,rfl,ai,ak⟩;have M4:=(M3.call ak ai)
  clear M3 ak ai;have d0:=(M4.bk 1).cl 0;have ad:=(M4.bk 1).frozen 0;have d1:=(M4.bk 1).cl 1;have ae:=(M4.bk 1).frozen 1;have d2:=(M4.bk 1).cl 2;have af:=(M4.bk 1).frozen 2;go_upto_region 19 with fail;clear d0 ad d1 ae d2 af;have M5:=((M4.st 1 0 (I aA)).st 1 1 (I aB))
  have M6:=(M5.st 1 2 (.slice p5 n c5))
  have M7:=(M6)
  generalize h:World.setCell _ _ _=w5;rw[h]at M7;clear h M4 M5 M6;have e_:=(M7.bk 1).ten;have f_:=(M7.bk 4).tenf;clear HL;go_wp2;clear e_ f_;have M8:=(M7.put10 (i:=4) rfl (I aA) (I aB) (.slice p5 n c5) (I a) (I b) (I aD) (I aF) (I aC) (I aG) (.slice q1 m cq1))
  generalize h:World.setCell _ _ _=wz;rw[h]at M8;clear h M7;have y_:=(M8.bk 4).ten;exact bodyPost_ret (v:= .tuple #[.agg #[aA,aB,.slice p5 n c5,a,b,aD,aF,aC,aG,.slice q1 m cq1],(),.bool true]) (by simp[results,results31,go_sem, *]) rfl ⟨p5,c5,q1,cq1,rfl,(M8.ow 0),(M8.ow 3),M8.ext⟩
 ·obtain⟨t,s,u⟩:=(M3.bk 4).tri;have HY:=xQ hY;clear hY;have MK:=(show Mem w w3 ([aJ w TI 1 (p1) (n) (cp1) (ivs xs),aJ w TV 4 (q1) (m) (cq1) (vs.flatMap aE),aI w (gA) aK #[aA,aB,.slice p1 n cp1,a,b,aD,aF,aC,aG,.slice q1 m cq1]]++ [aI w (w.heap.size+1+1) aK #[(),(),((),()),(),(),(),(),(),(),((),())],aI w (w.heap.size+1) THD #[(),f,l],aI w w aK #[aA,aB,.slice p n k,a,b,aD,aF,aC,aG,.slice q m c2]])from M3.pick [1,2,0,3,4,5] (by decide) rfl)
  go_wp2_with fail;clear t s u;refine(HY _ (aA2 [aI w (w.heap.size+1+1) aK #[(),(),((),()),(),(),(),(),(),(),((),())],aI w (w.heap.size+1) THD #[(),f,l],aI w w aK #[aA,aB,.slice p n k,a,b,aD,aF,aC,aG,.slice q m c2]]) gA p1 cp1 q1 cq1 (MK.fold [aJ w TI 1 (p1) (n) (cp1) (ivs xs),aJ w TV 4 (q1) (m) (cq1) (vs.flatMap aE),aI w (gA) aK #[aA,aB,.slice p1 n cp1,a,b,aD,aF,aC,aG,.slice q1 m cq1]])).mono ?_;rintro e w5 ⟨p5,c5,q5,d5,rfl,y⟩;clear M3;have M8:=(show Mem w w5 [aJ w TI 1 (p5) (n) (c5) (ivs ys),aJ w TV 4 (q5) (m2) (d5) (r.flatMap aE),aI w (gA) aK #[aA,aB,.slice p5 n c5,a,b,aD,aF,aC,d,.slice q5 m2 d5],aI w (w.heap.size+1+1) aK #[(),(),((),()),(),(),(),(),(),(),((),())],aI w (w.heap.size+1) THD #[(),f,l],aI w w aK #[aA,aB,.slice p n k,a,b,aD,aF,aC,aG,.slice q m c2]]from Mem.frame [aJ w TI 1 (p1) (n) (cp1) (ivs xs),aJ w TV 4 (q1) (m) (cq1) (vs.flatMap aE),aI w (gA) aK #[aA,aB,.slice p1 n cp1,a,b,aD,aF,aC,aG,.slice q1 m cq1]] [aJ w TI 1 (p5) (n) (c5) (ivs ys),aJ w TV 4 (q5) (m2) (d5) (r.flatMap aE),aI w (gA) aK #[aA,aB,.slice p5 n c5,a,b,aD,aF,aC,d,.slice q5 m2 d5]] MK y)
  clear y MK HY HL;have e_:=(M8.bk 2).ten;have f_:=(M8.bk 3).tenf;go_wp2;clear e_ f_;have g:=(M8.put10 (i:=3) rfl (I aA) (I aB) (.slice p5 n c5) (I a) (I b) (I aD) (I aF) (I aC) (I d) (.slice q5 m2 d5))
  generalize h:World.setCell _ _ _=wz;rw[h]at g;clear h M8;have y_:=(g.bk 3).ten;exact bodyPost_ret (v:= .tuple #[.agg #[aA,aB,.slice p5 n c5,a,b,aD,aF,aC,d,.slice q5 m2 d5],x,.bool true]) (by simp[results,results31,go_sem, *]) rfl ⟨p5,c5,q5,d5,rfl,(g.ow 0),(g.ow 1),g.ext⟩
 ·obtain⟨t,s,u⟩:=(M3.bk 4).tri;have HY:=xQ hY;clear hY;have MK:=(show Mem w w3 ([aJ w TI 1 (p1) (n) (cp1) (ivs xs),aJ w TV 4 (q1) (m) (cq1) (vs.flatMap aE),aI w (gA) aK #[aA,aB,.slice p1 n cp1,a,b,aD,aF,aC,aG,.slice q1 m cq1]]++ [aI w (w.heap.size+1+1) aK #[(),(),((),()),(),(),(),(),(),(),((),())],aI w (w.heap.size+1) THD #[I 1,f,l],aI w w aK #[aA,aB,.slice p n k,a,b,aD,aF,aC,aG,.slice q m c2]])from M3.pick [1,2,0,3,4,5] (by decide) rfl)
  go_wp2_with fail;clear t s u;refine(HY _ (aA2 [aI w (w.heap.size+1+1) aK #[(),(),((),()),(),(),(),(),(),(),((),())],aI w (w.heap.size+1) THD #[I 1,f,l],aI w w aK #[aA,aB,.slice p n k,a,b,aD,aF,aC,aG,.slice q m c2]]) gA p1 cp1 q1 cq1 (MK.fold [aJ w TI 1 (p1) (n) (cp1) (ivs xs),aJ w TV 4 (q1) (m) (cq1) (vs.flatMap aE),aI w (gA) aK #[aA,aB,.slice p1 n cp1,a,b,aD,aF,aC,aG,.slice q1 m cq1]])).mono ?_;rintro e w5 ⟨p5,c5,q5,d5,rfl,y⟩;clear M3;have M8:=(show Mem w w5 [aJ w TI 1 (p5) (n) (c5) (ivs ys),aJ w TV 4 (q5) (m2) (d5) (r.flatMap aE),aI w (gA) aK #[aA,aB,.slice p5 n c5,a,b,aD,aF,aC,d,.slice q5 m2 d5],aI w (w.heap.size+1+1) aK #[(),(),((),()),(),(),(),(),(),(),((),())],aI w (w.heap.size+1) THD #[I 1,f,l],aI w w aK #[aA,aB,.slice p n k,a,b,aD,aF,aC,aG,.slice q m c2]]from Mem.frame [aJ w TI 1 (p1) (n) (cp1) (ivs xs),aJ w TV 4 (q1) (m) (cq1) (vs.flatMap aE),aI w (gA) aK #[aA,aB,.slice p1 n cp1,a,b,aD,aF,aC,aG,.slice q1 m cq1]] [aJ w TI 1 (p5) (n) (c5) (ivs ys),aJ w TV 4 (q5) (m2) (d5) (r.flatMap aE),aI w (gA) aK #[aA,aB,.slice p5 n c5,a,b,aD,aF,aC,d,.slice q5 m2 d5]] MK y)
  clear y MK HY HL;have e_:=(M8.bk 2).ten;have f_:=(M8.bk 3).tenf;go_wp2;clear e_ f_;have g:=(M8.put10 (i:=3) rfl (I aA) (I aB) (.slice p5 n c5) (I a) (I b) (I aD) (I aF) (I aC) (I d) (.slice q5 m2 d5))
  generalize h:World.setCell _ _ _=wz;rw[h]at g;clear h M8;have y_:=(g.bk 3).ten;exact bodyPost_ret (v:= .tuple #[.agg #[aA,aB,.slice p5 n c5,a,b,aD,aF,aC,d,.slice q5 m2 d5],x,.bool true]) (by simp[results,results31,go_sem, *]) rfl ⟨p5,c5,q5,d5,rfl,(g.ow 0),(g.ow 1),g.ext⟩
 obtain⟨t,s,u⟩:=(M3.bk 4).tri;have HY:=xQ hY;clear hY;have MK:=(show Mem w w3 ([aJ w TI 1 (p1) (n) (cp1) (ivs xs),aJ w TV 4 (q1) (m) (cq1) (vs.flatMap aE),aI w (gA) aK #[aA,aB,.slice p1 n cp1,a,b,aD,aF,aC,aG,.slice q1 m cq1]]++ [aI w (w.heap.size+1+1) aK #[(),(),((),()),(),(),(),(),(),(),((),())],aI w (w.heap.size+1) THD #[I 2,f,l],aI w w aK #[aA,aB,.slice p n k,a,b,aD,aF,aC,aG,.slice q m c2]])from M3.pick [1,2,0,3,4,5] (by decide) rfl)
 go_wp2_with fail;clear t s u;refine(HY _ (aA2 [aI w (w.heap.size+1+1) aK #[(),(),((),()),(),(),(),(),(),(),((),())],aI w (w.heap.size+1) THD #[I 2,f,l],aI w w aK #[aA,aB,.slice p n k,a,b,aD,aF,aC,aG,.slice q m c2]]) gA p1 cp1 q1 cq1 (MK.fold [aJ w TI 1 (p1) (n) (cp1) (ivs xs),aJ w TV 4 (q1) (m) (cq1) (vs.flatMap aE),aI w (gA) aK #[aA,aB,.slice p1 n cp1,a,b,aD,aF,aC,aG,.slice q1 m cq1]])).mono ?_;rintro e w5 ⟨p5,c5,q5,d5,rfl,y⟩;clear M3;have M8:=(show Mem w w5 [aJ w TI 1 (p5) (n) (c5) (ivs ys),aJ w TV 4 (q5) (m2) (d5) (r.flatMap aE),aI w (gA) aK #[aA,aB,.slice p5 n c5,a,b,aD,aF,aC,d,.slice q5 m2 d5],aI w (w.heap.size+1+1) aK #[(),(),((),()),(),(),(),(),(),(),((),())],aI w (w.heap.size+1) THD #[I 2,f,l],aI w w aK #[aA,aB,.slice p n k,a,b,aD,aF,aC,aG,.slice q m c2]]from Mem.frame [aJ w TI 1 (p1) (n) (cp1) (ivs xs),aJ w TV 4 (q1) (m) (cq1) (vs.flatMap aE),aI w (gA) aK #[aA,aB,.slice p1 n cp1,a,b,aD,aF,aC,aG,.slice q1 m cq1]] [aJ w TI 1 (p5) (n) (c5) (ivs ys),aJ w TV 4 (q5) (m2) (d5) (r.flatMap aE),aI w (gA) aK #[aA,aB,.slice p5 n c5,a,b,aD,aF,aC,d,.slice q5 m2 d5]] MK y)
 clear y MK HY HL;have e_:=(M8.bk 2).ten;have f_:=(M8.bk 3).tenf;go_wp2;clear e_ f_;have g:=(M8.put10 (i:=3) rfl (I aA) (I aB) (.slice p5 n c5) (I a) (I b) (I aD) (I aF) (I aC) (I d) (.slice q5 m2 d5))
 generalize h:World.setCell _ _ _=wz;rw[h]at g;clear h M8;have y_:=(g.bk 3).ten;exact bodyPost_ret (v:= .tuple #[.agg #[aA,aB,.slice p5 n c5,a,b,aD,aF,aC,d,.slice q5 m2 d5],x,.bool true]) (by simp[results,results31,go_sem, *]) rfl ⟨p5,c5,q5,d5,rfl,(g.ow 0),(g.ow 1),g.ext⟩
end Go.Proofs.YthfmmibomhhmpaaGreatDoor
