/-
  Texts of this proof, packed (@packed).
-/
import Derived.Test.YthfmmibomhhmpaaGreatDoorY17
namespace Go.Proofs.YthfmmibomhhmpaaGreatDoor
open Go.RowKit
set_option linter.unusedSimpArgs false
set_option linter.unusedVariables false
set_option maxHeartbeats 8000000
set_option maxRecDepth 100000
section
open Go.Proofs.Tryz
abbrev TT4:TypeId:=27
abbrev TS3:TypeId:=52
def gC (f s p c i pd a now amt:Int):(Int×Int×Int)×Int×Bool:=
 if 1≤amt∧amt≤300 then
  (if cF f s p c i pd a now=0 then((i,pd,a),amt,false)else((i,pd+min (cF f s p c i pd a now) amt,now),amt-min (cF f s p c i pd a now) amt,true))
 else((0,0,0),amt,false)
theorem kR {f s p c i pd a now:Int}(h:bJ f s p c=true)(h2:dI i pd a=true)(h3:a≤now)(h4:now≤9999):0≤cF f s p c i pd a now∧cF f s p c i pd a now≤693:=by obtain⟨b1,b2,b3,b4,b5,b6⟩:=fJ h2;have hb:=qS (m:=now-i) h (by omega) (by omega);unfold cF;rw[if_pos (by simp[h,h2,h3,h4])];omega
theorem aKv (i pd a now f s p c amt D:Int)(w:World)(hD:0≤D)(j:D≤693)(k:0≤pd)(hp:pd≤9999)
  (HD:Hid (∀w,U 125 #[aS f s p c,bX i pd a,now] w (O (I D) w)))
  (HI:Hid (∀w,U 27 #[amt,I 1,I 300] w fun e w'=>e= .returned (.bool false)∧w=w'))(ha:amt<1∨300<amt):
  U 114 #[aS f s p c,bX i pd a,now,amt] w (O (.tuple #[bX 0 0 0,amt,.bool false]) w):=by
 go_enter func114,ntmps114;go_wp2_with fail;refine Z (HD _) fun w1 b=>?_
 have M1:=(((((Mem.start w).c0 TT4 #[f,s,p,c]).c1 TS3 #[i,pd,a]).c2 TS3 #[(),(),()]).adv b)
 clear b;go_wp2_with fail;refine(HI _).mono ?_;rintro e _ ⟨rfl,rfl⟩;have d_:=(M1.bk 0).tri;have d:=(M1.bk 0).frozen 0;have g:=(M1.bk 0).frozen 1;have h:=(M1.bk 0).frozen 2;clear HD HI;go_wp2;clear d_ d g h;have M2:=(((M1.st 0 0 (I 0)).st 0 1 (I 0)).st 0 2 (I 0))
 generalize World.setCell _ _ _=wz at M2⊢;clear M1;have y_:=(M2.bk 0).tri;exact bodyPost_ret (v:= .tuple #[.agg #[(),(),()],amt,.bool false]) (by simp[results,results114,go_sem, *]) rfl ⟨rfl,M2.ext⟩
theorem aEf (i pd a now f s p c amt:Int)(w:World)(j:0≤pd)(hp:pd≤9999)
  (HD:Hid (∀w,U 125 #[aS f s p c,bX i pd a,now] w (O (I 0) w)))
  (HI:Hid (∀w,U 27 #[amt,I 1,I 300] w fun e w'=>e= .returned (.bool true)∧w=w'))(ha:1≤amt)(hb:amt≤300):
  U 114 #[aS f s p c,bX i pd a,now,amt] w (O (.tuple #[bX i pd a,amt,.bool false]) w):=by
 go_enter func114,ntmps114;go_wp2_with fail;refine Z (HD _) fun w1 b=>?_
 have M1:=(((((Mem.start w).c0 TT4 #[f,s,p,c]).c1 TS3 #[i,pd,a]).c2 TS3 #[(),(),()]).adv b)
 clear b;go_wp2_with fail;refine(HI _).mono ?_;rintro e _ ⟨rfl,rfl⟩;have c_:=(M1.bk 1).tri;have d_:=(M1.bk 0).tri;have d:=(M1.bk 0).frozen 0;have g:=(M1.bk 0).frozen 1;have h:=(M1.bk 0).frozen 2;clear HD HI;go_wp2;clear c_ d_ d g h;have M2:=(((M1.st 0 0 (I i)).st 0 1 (I pd)).st 0 2 (I a))
 generalize World.setCell _ _ _=wz at M2⊢;clear M1;have y_:=(M2.bk 0).tri;exact bodyPost_ret (v:= .tuple #[.agg #[i,pd,a],amt,.bool false]) (by simp[results,results114,go_sem, *]) rfl ⟨rfl,M2.ext⟩
theorem aGz (i pd a now f s p c amt D:Int)(w:World)(hD:0≤D)(k:D≤693)(m:0≤pd)(hp:pd≤9999)
  (HD:Hid (∀w,U 125 #[aS f s p c,bX i pd a,now] w (O (I D) w)))
  (HI:Hid (∀w,U 27 #[amt,I 1,I 300] w fun e w'=>e= .returned (.bool true)∧w=w'))(ha:1≤amt)(hb:amt≤300)(j:1≤D):
  U 114 #[aS f s p c,bX i pd a,now,amt] w (O (.tuple #[bX i (pd+min D amt) now,(amt-min D amt:Int),.bool true]) w):=by
 go_enter func114,ntmps114;go_wp2_with fail;refine Z (HD _) fun w1 b=>?_
 have M1:=(((((Mem.start w).c0 TT4 #[f,s,p,c]).c1 TS3 #[i,pd,a]).c2 TS3 #[(),(),()]).adv b)
 clear b;go_wp2_with fail;refine(HI _).mono ?_;rintro e _ ⟨rfl,rfl⟩;have c_:=(M1.bk 1).tri;have d_:=(M1.bk 0).tri;have d:=(M1.bk 0).frozen 0;have g:=(M1.bk 0).frozen 1;have h:=(M1.bk 0).frozen 2;clear HD HI;have k1:=aVw (pd+min D amt);have k2:=aVw (amt-min D amt);have l:(D==0)=false:=by simp;omega
 go_wp2;clear c_ d_ d g h;have M2:=(((M1.st 0 0 (I i)).st 0 1 (I (pd+min D amt))).st 0 2 (I now))
 generalize World.setCell _ _ _=wz at M2⊢;clear M1;have y_:=(M2.bk 0).tri;exact bodyPost_ret (v:= .tuple #[.agg #[i,(pd+min D amt:Int),now],(amt-min D amt:Int),.bool true]) (by simp[results,results114,go_sem, *]) rfl ⟨rfl,M2.ext⟩
theorem aF2 (f s p c i pd a now amt:Int)(w:World)(h:bJ f s p c=true)(h2:dI i pd a=true)(h3:a≤now)(h4:now≤9999):
  U 114 #[aS f s p c,bX i pd a,now,amt] w (O (.tuple #[bX (gC f s p c i pd a now amt).1.1 (gC f s p c i pd a now amt).1.2.1 (gC f s p c i pd a now amt).1.2.2,I (gC f s p c i pd a now amt).2.1,.bool (gC f s p c i pd a now amt).2.2]) w):=by
 obtain⟨b1,b2,b3,b4,b5,b6⟩:=fJ h2;obtain⟨e1,e2⟩:=kR h h2 h3 h4;have HD:=xQ (fun w=>aCc f s p c i pd a now w h h2 h3 h4);unfold gC;generalize cF f s p c i pd a now=D at*;by_cases ha:1≤amt∧amt≤300
 ·have HI:Hid (∀w,U 27 #[amt,I 1,I 300] w fun e w'=>e= .returned (.bool true)∧w=w'):=fun w=>oF amt 1 300 w ha.1 ha.2
  rw[if_pos ha];by_cases hd:D=0
  ·subst hd;rw[if_pos rfl];exact aEf i pd a now f s p c amt w b3 b4 HD HI ha.1 ha.2
  rw[if_neg hd];exact aGz i pd a now f s p c amt D w e1 e2 b3 b4 HD HI ha.1 ha.2 (by omega)
 have HI:Hid (∀w,U 27 #[amt,I 1,I 300] w fun e w'=>e= .returned (.bool false)∧w=w'):=fun w=>xP amt 1 300 w (by omega)
 rw[if_neg ha];exact aKv i pd a now f s p c amt D w e1 e2 b3 b4 HD HI (by omega)
end
section
open Go.Proofs.Tryz
section
variable {w0 w w':World} {L:List Item}
theorem Mem.own2 {b n c sz n2 c2 sz2:Nat}{e e2:TypeId}{q q2:OA}{xs i:List Value}(h:Mem w0 w L)(hx:Ext w w')(a:w'.ownsRow b e sz (.slice q n c) n xs)(g:w'.ownsRow b e2 sz2 (.slice q2 n2 c2) n2 i)(hb:w.heap.size≤b)(ht:e≠e2):
  Mem w0 w' (aJ w0 e sz q n c xs::aJ w0 e2 sz2 q2 n2 c2 i::L):=by
 refine(h.ownNew hx g hb).cons (dZ _ _ _ _ _ _ _) (cH a (aTg h.ext.sz hb)) (fun g' hg' j hj e'=> ?_);replace hg':(Value.slice q n c).ownBlock=Option.some g':=hg';have h1:=(aU0 a g' hg').1;rcases aTi.1 hj with rfl|hj
 ·replace e':(Value.slice q2 n2 c2).ownBlock=Option.some g':=e';rcases a.2 with⟨h2,_⟩|⟨g2,cap',cur,h2,_,h3,_⟩
  ·rw[h2]at hg';cases hg'
  rcases g.2 with⟨k2,_⟩|⟨g3,cap3,cur3,k2,_,k3,_⟩
  ·rw[k2]at e';cases e'
  rw[h2]at hg';rw[k2]at e';injection hg' with hg';injection e' with e';have f:g2=g':=hg';have d:g3=g':=e';subst f;subst d;rw[h3]at k3;injection k3 with k3;injection k3 with _ k3;exact ht k3
 have h2:=((h.good j hj).lt w (h.ok j hj) g' e').2;omega
end
theorem aCe (aA aB a c aD aF aC aG id amt:Int)(p:OA)(n d:Nat)(q:OA)(m c2:Nat)(xs:List Int)(vs:List aR)(w:World)
  (HL:xC 21 #[.agg #[aA,aB,.slice p n d,a,c,aD,aF,aC,aG,.slice q m c2]] w fun w' e w''=> ∃p' cap' q' c2',e= .returned (.agg #[aA,aB,.slice p' n cap',a,c,aD,aF,aC,aG,.slice q' m c2'])∧w''.ownsRow w' TI 1 (.slice p' n cap') n (ivs xs)∧w''.ownsRow w' TV 4 (.slice q' m c2') m (vs.flatMap aE)∧Ext w' w'')
  (HF:xC 78 #[.agg #[aA,aB,.slice p n d,a,c,aD,aF,aC,aG,.slice q m c2],id] w fun w' e w''=>e= .returned (I (-1))∧Ext w' w''):
  U 76 #[.agg #[aA,aB,.slice p n d,a,c,aD,aF,aC,aG,.slice q m c2],id,amt] w fun e w'=> ∃p' cap' q' c2' b,e= .returned (.tuple #[.agg #[aA,aB,.slice p' n cap',a,c,aD,aF,aC,aG,.slice q' m c2'],b,.bool false])∧Ext w w':=by
 go_enter func76,ntmps76;go_wp2_with fail;refine(HL _ (((Mem.start w).c0 aK #[aA,aB,.slice p n d,a,c,aD,aF,aC,aG,.slice q m c2]).c1 aK zT).ext).mono ?_;rintro e w1 ⟨p1,f,q1,g,rfl,j,k,o⟩;have M1:=((((Mem.start w).c0 aK #[aA,aB,.slice p n d,a,c,aD,aF,aC,aG,.slice q m c2]).c1 aK zT).own2 o j k (aT5 _) (by decide))
 have h:=M1.hi 3;clear o j k HL;have s:=(M1.bk 3).ten;go_wp2_with fail;clear s;refine Z (HF _ (M1.c0 aK #[aA,aB,.slice p1 n f,a,c,aD,aF,aC,aG,.slice q1 m g]).ext) fun w2 r=>?_
 have M2:=((M1.c0 aK #[aA,aB,.slice p1 n f,a,c,aD,aF,aC,aG,.slice q1 m g]).adv r)
 clear M1 h r HF;have d_:=(M2.bk 0).ten;have f_:=(M2.bk 3).tenf;go_wp2;clear d_ f_;have M3:=(M2.put10 (i:=3) rfl (I aA) (I aB) (.slice p1 n f) (I a) (I c) (I aD) (I aF) (I aC) (I aG) (.slice q1 m g))
 generalize l:World.setCell _ _ _=wz;rw[l]at M3;clear l M2;have y_:=(M3.bk 3).ten;exact bodyPost_ret (v:= .tuple #[.agg #[aA,aB,.slice p1 n f,a,c,aD,aF,aC,aG,.slice q1 m g],amt,.bool false]) (by simp[results,results76,go_sem, *]) rfl ⟨p1,f,q1,g,amt,rfl,M3.ext⟩
theorem aB5 {vs:List aR}{k:Nat}{a0 a1 a2 a3:Int}(h:vs[k]? =some (a0,a1,a2,a3)) (S1 S2 S3:Int):
  (((vs.flatMap aE).set (k*4+1) (I S1)).set (k*4+2) (I S2)).set (k*4+3) (I S3)=(vs.set k (a0,S1,S2,S3)).flatMap aE:=by
 induction vs generalizing k with
 |nil=>simp at h
 |cons v vs ih=>
  cases k with
  |zero=>simp at h;subst h;simp[aE]
  |succ k=>
   have h':vs[k]? =some (a0,a1,a2,a3):=by simpa using h
   rw[aTj,aUc,aUc,←ih h'];simp only[aE,aUu,aUx];rw[show(k+1)*4+1=(k*4+1)+1+1+1+1 by omega,show(k+1)*4+2=(k*4+2)+1+1+1+1 by omega,show(k+1)*4+3=(k*4+3)+1+1+1+1 by omega];simp only[aTj]
theorem aKw (aA aB c d aD aF aC aG id amt:Int)(p:OA)(n q b h m c2 k:Nat)(xs:List Int)(vs:List aR)(a0 a1 a2 a3 S1 S2 S3 bk:Int)(r:Bool)(w:World)(hk:k<m)(hm:m≤1000)(hb:b<w.heap.size)(b5:0≤aG)(bu:aG≤99999)(bj:r=true→0≤bk∧bk≤amt∧amt≤300)(a8:Hid (vs[k]? =some (a0,a1,a2,a3)))
  (g1:w.cell? ⟨b,h+k*4+1,none⟩=some (I a1)) (g2:w.cell? ⟨b,h+k*4+2,none⟩=some (I a2)) (g3:w.cell? ⟨b,h+k*4+3,none⟩=some (I a3))
  (HL:xC 21 #[.agg #[aA,aB,.slice p n q,c,d,aD,aF,aC,aG,.slice (some ⟨b,h,none⟩) m c2]] w fun w' e w''=> ∃p' cap' q' c2',e= .returned (.agg #[aA,aB,.slice p' n cap',c,d,aD,aF,aC,aG,.slice q' m c2'])∧w''.ownsRow w' TI 1 (.slice p' n cap') n (ivs xs)∧w''.ownsRow w' TV 4 (.slice q' m c2') m (vs.flatMap aE)∧Ext w' w'')
  (HF:xC 78 #[.agg #[aA,aB,.slice p n q,c,d,aD,aF,aC,aG,.slice (some ⟨b,h,none⟩) m c2],id] w fun w' e w''=>e= .returned (I k)∧Ext w' w'')
  (HP:Hid (∀w',U 114 #[aS c d aD aF,bX a1 a2 a3,aC,amt] w' (O (.tuple #[bX S1 S2 S3,bk,.bool r]) w'))):
  U 76 #[.agg #[aA,aB,.slice p n q,c,d,aD,aF,aC,aG,.slice (some ⟨b,h,none⟩) m c2],id,amt] w fun e w'=>(∃p' cap' q' c2' b,e= .returned (.tuple #[.agg #[aA,aB,.slice p' n cap',c,d,aD,aF,aC,aG,.slice q' m c2'],b,.bool false])∧ ¬(r=true∧aG+amt-bk≤99999)∧Ext w w')∨
   (r=true∧aG+amt-bk≤99999∧ ∃p' cap' q' c2',e= .returned (.tuple #[.agg #[aA,aB,.slice p' n cap',c,d,aD,aF,aC,(aG+amt-bk:Int),.slice q' m c2'],bk,.bool true])∧w'.ownsRow w TI 1 (.slice p' n cap') n (ivs xs)∧w'.ownsRow w TV 4 (.slice q' m c2') m ((vs.set k (a0,S1,S2,S3)).flatMap aE)∧Ext w w'):=by
 go_enter func76,ntmps76;go_wp2_with fail;refine(HL _ (((Mem.start w).c0 aK #[aA,aB,.slice p n q,c,d,aD,aF,aC,aG,.slice (some ⟨b,h,none⟩) m c2]).c1 aK zT).ext).mono ?_;rintro e w1 ⟨p1,f,q1,g,rfl,ay,az,a5⟩;have M1:=((((Mem.start w).c0 aK #[aA,aB,.slice p n q,c,d,aD,aF,aC,aG,.slice (some ⟨b,h,none⟩) m c2]).c1 aK zT).own2 a5 ay az (aT5 _) (by decide))
 have am:=M1.hi 3;clear a5 ay az HL;have ak:=(M1.bk 3).ten;go_wp2_with fail;clear ak;refine Z (HF _ (M1.c0 aK #[aA,aB,.slice p1 n f,c,d,aD,aF,aC,aG,.slice q1 m g]).ext) fun w2 a6=>?_
 have M2:=((M1.c0 aK #[aA,aB,.slice p1 n f,c,d,aD,aF,aC,aG,.slice q1 m g]).adv a6)
 clear M1 am a6 HF;have an:=M2.hi 3;have ak:=(M2.bk 4).ten;have s:=M2.ext;have ao:w2.cell? ⟨b,h+k*4+1,none⟩=some (I a1):=(s.cells.1 _ _ hb).trans g1;have ap:w2.cell? ⟨b,h+k*4+2,none⟩=some (I a2):=(s.cells.1 _ _ hb).trans g2;have aq:w2.cell? ⟨b,h+k*4+3,none⟩=some (I a3):=(s.cells.1 _ _ hb).trans g3;have u:b<w2:=aT4 hb s.sz;clear s;have i1:=aVt k;have i2:=aVu k m;have n2: ¬(w2.heap.size=w.heap.size):=by omega
 have n4: ¬(w2.heap.size=b):=by omega
 go_upto_region 5 with fail;go_cut [11,12,13] (fun s11 s12 s13 wx=> ∃a:Nat,s11= .pointer (some ⟨a,0,none⟩)∧s12=I bk∧s13= .bool r∧Ext w2 wx∧w2.heap.size≤a∧Blk wx a TS3 #[S1,S2,S3])
 case first=>
  go_region_held3 (fun w'=>w'.cell? ⟨w,3,none⟩=some (I c)∧w'.cell? ⟨w,4,none⟩=some (I d)∧w'.cell? ⟨w,5,none⟩=some (I aD)∧w'.cell? ⟨w,6,none⟩=some (I aF)∧w'.cell? ⟨w,7,none⟩=some (I aC)∧w'.cell? ⟨w,9,none⟩=some (.slice (some ⟨b,h,none⟩) m c2)∧w'.cell? ⟨b,h+k*4+1,none⟩=some (I a1)∧w'.cell? ⟨b,h+k*4+2,none⟩=some (I a2)∧w'.cell? ⟨b,h+k*4+3,none⟩=some (I a3))
   (first|(refine⟨?_,?_,?_,?_,?_,?_,?_,?_,?_⟩<;>assumption)|go_keep)
   ((go_at_call 114
     refine Z (HP _) fun w5 a7=>?_
     have j:Ext w2 w5:=xE;have bv:=((M2.bk 4).ext j).cl 3;have bw:=((M2.bk 4).ext j).cl 4;have bx:=((M2.bk 4).ext j).cl 5;have bz:=((M2.bk 4).ext j).cl 6;have b0:=((M2.bk 4).ext j).cl 7;have b1:=((M2.bk 4).ext j).cl 9;have b2:w5.cell? ⟨b,h+k*4+1,none⟩=some (I a1):=(j.cells.1 _ _ u).trans ao;have b3:w5.cell? ⟨b,h+k*4+2,none⟩=some (I a2):=(j.cells.1 _ _ u).trans ap;have b4:w5.cell? ⟨b,h+k*4+3,none⟩=some (I a3):=(j.cells.1 _ _ u).trans aq
     first
      |(have al:Ext (w2.alloc (.cells #[(),(),()] TS3)) w5:=a7
        have BB:=(Blk.new w2 TS3 #[(),(),()]).ext al;have bo:=BB.cl 0;have br:=BB.frozen 0;have bp:=BB.cl 1;have bs:=BB.frozen 1;have bq:=BB.cl 2
        have bt:w5.frozen? ⟨w2,2,none⟩=false:=BB.frozen 2)
      |(have al:Ext (w2.alloc (.cells #[(),(),()] TS3)) w5:=a7.of_drew
        have BB:=(Blk.new w2 TS3 #[(),(),()]).ext al;have bo:=BB.cl 0;have br:=BB.frozen 0;have bp:=BB.cl 1;have bs:=BB.frozen 1;have bq:=BB.cl 2
        have bt:w5.frozen? ⟨w2,2,none⟩=false:=BB.frozen 2)
      |skip))
  ·go_wp2_with fail;go_meet;exact⟨w5.heap.size,rfl,rfl,rfl,by exact .alloc j _,by have:=j.sz;omega,Blk.new _ _ _⟩
  have hR:ExtR w2 w5 _:=(((ExtR.refl w2 w5).setCell (p:=⟨w2,0,none⟩) (.inl rfl) (I S1)).setCell (p:=⟨w2,1,none⟩) (.inl rfl) (I S2)).setCell (p:=⟨w2,2,none⟩) (.inl rfl) (I S3);have hY:=((BB.set 0 (I S1)).set 1 (I S2)).set 2 (I S3);simp only[aTm,aTk,aTj]at hY;go_wp2_with fail;go_meet;exact⟨w2.heap.size,rfl,rfl,rfl,ExtR.new j hR (aT5 _),aT5 _,hY⟩
 case rest=>
  clear ak ao ap aq u HP n2 n4;obtain⟨a,rfl,rfl,rfl,au,ha,ar⟩:=hcut;have M3:=(M2.blkOf au ar ha)
  clear M2 an au ha ar;cases r with
  |false=>
   have t:Hid (¬(false=true∧aG+amt-bk≤99999)):=by show¬_;simp
   obtain⟨d0,d1,d2,d3,d4,d5,d6,d7,d8,d9⟩:=(M3.bk 1).ten;have f_:=(M3.bk 4).tenf;go_wp2;clear d0 d1 d2 d3 d4 d5 d6 d7 d8 d9 f_;have M4:=(M3.put10 (i:=4) rfl (I aA) (I aB) (.slice p1 n f) (I c) (I d) (I aD) (I aF) (I aC) (I aG) (.slice q1 m g))
   generalize o:World.setCell _ _ _=wz;rw[o]at M4;clear o M3;obtain⟨y0,y1,y2,y3,y4,y5,y6,y7,y8,y9⟩:=(M4.bk 4).ten;exact bodyPost_ret (v:= .tuple #[.agg #[aA,aB,.slice p1 n f,c,d,aD,aF,aC,aG,.slice q1 m g],amt,.bool false]) (by simp[results,results76,go_sem, *]) rfl (by first|exact .inl ⟨p1,f,q1,g,amt,rfl,t.out,M4.ext⟩|(have l:=t.out;simp at l;first|exact .inl ⟨p1,f,q1,g,amt,rfl,l,M4.ext⟩|exact .inl ⟨p1,f,q1,g,amt,rfl,by omega,M4.ext⟩|exact .inl ⟨⟨p1,f,q1,g,amt,rfl⟩,l,M4.ext⟩|exact .inl ⟨⟨p1,f,q1,g,amt,rfl⟩,by omega,M4.ext⟩|exact .inl ⟨⟨p1,f,q1,g,amt,rfl⟩,M4.ext⟩|exact⟨⟨p1,f,q1,g,amt,rfl⟩,M4.ext⟩))
  |true=>
   obtain⟨o1,o2,o3⟩:=bj rfl;have k1:=aVw (aG+amt);have k2:=aVw (aG+amt-bk);have h8:=(M3.bk 5).cl 8;by_cases hq:aG+amt-bk≤99999
   ·have hd:decide (99999<aG+amt-bk)=false:=by simp;omega
    have a4:=xQ hq;clear hq;obtain⟨gq,rfl,aw,ax⟩:=M3.so 3;obtain⟨b9,o9,x0,x1,x2,x3,e9,bl,_,y0,y1,y2,y3⟩:=eN (M3.sq 3) hk;injection e9 with e9;injection e9 with e9 e8;subst e9 e8;simp only[aUf]at y1 y2 y3;clear bl y0 aw;obtain⟨d0,a9,d1,ba,d2,bb,d3,bc,d4,bd,d5,be,d6,bf,d7,bg,d8,bh,d9,bi⟩:=(M3.bk 1).tenf;have f_:=(M3.bk 4).tenf;have bm:=(M3.bk 0).tri;have z1:wc.frozen? ⟨gq,k*4+1,none⟩=false:=(M3.ow 3).frozenAt (k*4+1);have z2:wc.frozen? ⟨gq,k*4+2,none⟩=false:=(M3.ow 3).frozenAt (k*4+2);have z3:wc.frozen? ⟨gq,k*4+3,none⟩=false:=(M3.ow 3).frozenAt (k*4+3);obtain⟨x,y⟩:=M3.nq 1 4;obtain⟨z,aa⟩:=M3.nq 0 4;obtain⟨ab,ad⟩:=M3.nq 3 4;obtain⟨ae,af⟩:=M3.nq 0 1;obtain⟨ag,ah⟩:=M3.nq 1 3;obtain⟨ai,aj⟩:=M3.nq 0 3;have M4:=(show Mem w (((wc.setCell ⟨gq,k*4+1,none⟩ (I S1)).setCell ⟨gq,k*4+2,none⟩ (I S2)).setCell ⟨gq,k*4+3,none⟩ (I S3)) [aI w (a) TS3 #[S1,S2,S3],aI w w1 aK #[aA,aB,.slice p1 n f,c,d,aD,aF,aC,aG,.slice (some ⟨gq,0,none⟩) m g],aJ w TI 1 (p1) (n) (f) (ivs xs),aJ w TV 4 (some ⟨gq,0,none⟩) (m) (g) ((((vs.flatMap aE).set (k*4+1) (I S1)).set (k*4+2) (I S2)).set (k*4+3) (I S3)),aI w (w.heap.size+1) aK #[(),(),((),()),(),(),(),(),(),(),((),())],aI w w aK #[aA,aB,.slice p n q,c,d,aD,aF,aC,aG,.slice (some ⟨b,h,none⟩) m c2]]from(((M3.ostore (i:=3) rfl (k*4+1) (I S1)).ostore (i:=3) rfl (k*4+2) (I S2)).ostore (i:=3) rfl (k*4+3) (I S3)))
    have M5:=(M4.st 1 8 (I (aG+amt-bk)))
    have av:Hid ((((vs.flatMap aE).set (k*4+1) (I S1)).set (k*4+2) (I S2)).set (k*4+3) (I S3)=(vs.set k (a0,S1,S2,S3)).flatMap aE):=aB5 a8 S1 S2 S3;go_wp2;clear d0 a9 d1 ba d2 bb d3 bc d4 bd d5 be d6 bf d7 bg d8 bh d9 bi f_ bm z1 z2 z3 x y z aa ab ad ae af ag ah ai aj y1 y2 y3 ax h8;have M6:=(M5.put10 (i:=4) rfl (I aA) (I aB) (.slice p1 n f) (I c) (I d) (I aD) (I aF) (I aC) (I (aG+amt-bk)) (.slice (some ⟨gq,0,none⟩) m g))
    generalize o:World.setCell _ _ _=wz;rw[o]at M6;clear o M3 M4 M5;obtain⟨y0,y1,y2,y3,y4,y5,y6,y7,y8,y9⟩:=(M6.bk 4).ten;exact bodyPost_ret (v:= .tuple #[.agg #[aA,aB,.slice p1 n f,c,d,aD,aF,aC,(aG+amt-bk:Int),.slice (some ⟨gq,0,none⟩) m g],bk,.bool true]) (by simp[results,results76,go_sem, *]) rfl (by first|exact .inr ⟨rfl,a4.out,p1,f,some ⟨gq,0,none⟩,g,rfl,(M6.ow 2),by rw[←av.out];exact(M6.ow 3),M6.ext⟩|exact .inr ⟨a4.out,p1,f,some ⟨gq,0,none⟩,g,rfl,(M6.ow 2),by rw[←av.out];exact(M6.ow 3),M6.ext⟩)
   have t:Hid (¬(true=true∧aG+amt-bk≤99999)):=by show¬_;simp[hq]
   have hd:decide (99999<aG+amt-bk)=true:=by simp;omega
   obtain⟨d0,d1,d2,d3,d4,d5,d6,d7,d8,d9⟩:=(M3.bk 1).ten;have f_:=(M3.bk 4).tenf;go_wp2;clear d0 d1 d2 d3 d4 d5 d6 d7 d8 d9 f_;have M4:=(M3.put10 (i:=4) rfl (I aA) (I aB) (.slice p1 n f) (I c) (I d) (I aD) (I aF) (I aC) (I aG) (.slice q1 m g))
   generalize o:World.setCell _ _ _=wz;rw[o]at M4;clear o M3;obtain⟨y0,y1,y2,y3,y4,y5,y6,y7,y8,y9⟩:=(M4.bk 4).ten;exact bodyPost_ret (v:= .tuple #[.agg #[aA,aB,.slice p1 n f,c,d,aD,aF,aC,aG,.slice q1 m g],amt,.bool false]) (by simp[results,results76,go_sem, *]) rfl (by first|exact .inl ⟨p1,f,q1,g,amt,rfl,t.out,M4.ext⟩|(have l:=t.out;simp at l;first|exact .inl ⟨p1,f,q1,g,amt,rfl,l,M4.ext⟩|exact .inl ⟨p1,f,q1,g,amt,rfl,by omega,M4.ext⟩|exact .inl ⟨⟨p1,f,q1,g,amt,rfl⟩,l,M4.ext⟩|exact .inl ⟨⟨p1,f,q1,g,amt,rfl⟩,by omega,M4.ext⟩|exact .inl ⟨⟨p1,f,q1,g,amt,rfl⟩,M4.ext⟩|exact⟨⟨p1,f,q1,g,amt,rfl⟩,M4.ext⟩))
theorem Mem.st4 {P:Program}{f:FuncId}{s:Array Value}{w0 w:World}{L:List Item}{F:OA→Nat→OA→Nat→Value}{t1 t2:TypeId}{n1 s1 n2 s2:Nat}{xs ys:List Value}{K:Ending→World→Prop}(M:Mem w0 w L)(H:Mem w0 w L→Calls P f s w fun e w'=> ∃p c q d,e= .returned (F p c q d)∧w'.ownsRow w t1 s1 (.slice p n1 c) n1 xs∧w'.ownsRow w t2 s2 (.slice q n2 d) n2 ys∧Ext w w')(k: ∀w' p c q d,Mem w0 w' (aJ w0 t1 s1 p n1 c xs::aJ w0 t2 s2 q n2 d ys::L)→K (.returned (F p c q d)) w')(a:t1≠t2:=by decide):Calls P f s w K:=(H M).mono (by rintro e w' ⟨p,c,q,d,rfl,ho,hv,hx⟩;exact k w' p c q d (M.own2 hx ho hv (aT5 _) a))
end
theorem aCw {f s p c i pd a now amt:Int}(hD:0≤cF f s p c i pd a now)(h:(gC f s p c i pd a now amt).2.2=true):0≤(gC f s p c i pd a now amt).2.1∧(gC f s p c i pd a now amt).2.1≤amt∧amt≤300:=by
 unfold gC at h⊢;split at h
 ·rename_i h1;rw[if_pos h1];split at h
  ·cases h
  rename_i h2;rw[if_neg h2];dsimp only;omega
 cases h
def oY (h:aL)(id amt:Int):Option (aL×Int):=
 match bT id h.vs with
 |none=>none
 |some v=>if(gC h.free h.step h.aD h.aF v.2.1 v.2.2.1 v.2.2.2 h.aC amt).2.2=true∧h.aG+amt-(gC h.free h.step h.aD h.aF v.2.1 v.2.2.1 v.2.2.2 h.aC amt).2.1≤99999 then
   some ({h with aG:=h.aG+amt-(gC h.free h.step h.aD h.aF v.2.1 v.2.2.1 v.2.2.2 h.aC amt).2.1,vs:=h.vs.set (vix id h.vs).toNat (id,(gC h.free h.step h.aD h.aF v.2.1 v.2.2.1 v.2.2.2 h.aC amt).1)},(gC h.free h.step h.aD h.aF v.2.1 v.2.2.1 v.2.2.2 h.aC amt).2.1)
  else none
def aQ6 (h:aL)(r:Option (aL×Int))(w:World)(e:Ending)(w':World):Prop:=
 match r with
 |none=> ∃p cap q c2 b,e= .returned (.tuple #[bG h p h.cells.length cap q h.vs.length c2,b,.bool false])∧Ext w w'
 |some (h',b)=> ∃p cap q c2,e= .returned (.tuple #[bG h' p h'.cells.length cap q h'.vs.length c2,b,.bool true])∧w'.ownsRow w.heap.size TI 1 (.slice p h'.cells.length cap) h'.cells.length (ivs h'.cells)∧w'.ownsRow w.heap.size TV 4 (.slice q h'.vs.length c2) h'.vs.length (h'.vs.flatMap aE)∧Ext w w'
theorem aLt (h:aL)(id amt:Int)(p:OA)(n c:Nat)(q:OA)(m c2:Nat)(w:World)(hn:n≤1000)(hm:m≤1000)(hi:IsHouse w h p n c q m c2)
  (ht:bJ h.free h.step h.aD h.aF=true)(o: ∀v∈h.vs,dI v.2.1 v.2.2.1 v.2.2.2=true∧v.2.2.2≤h.aC)(hc:h.aC≤9999)(i:0≤h.aG)(hb:h.aG≤99999):
  U 76 #[bG h p n c q m c2,id,amt] w (aQ6 h (oY h id amt) w):=by
 have hl:=hi.clen;have l:=hi.vlen;have HL:=fun(w':World) (hx:Ext w w')=>mQ h p n c q m c2 w' hn hm (hi.ext hx)
 have HF:=fun(w':World) (hx:Ext w w')=>sQ h.aA h.aB h.free h.step h.aD h.aF h.aC h.aG id p n c q m c2 h.vs w' (hi.vs.ext hx)
 unfold RetHouse at HL;subst hl l;rcases oA id h.vs with⟨h1,h2⟩|⟨k,a1,a2,a3,hk,h1,hx,h2⟩
 ·rw[h1]at HF;have hr:oY h id amt=none:=by unfold oY;rw[h2]
  rw[hr];refine(aCe h.aA h.aB h.free h.step h.aD h.aF h.aC h.aG id amt p _ c q _ c2 h.cells h.vs w HL HF).mono ?_;rintro e w' ⟨p',a,q',d,b,rfl,hE⟩;exact⟨p',a,q',d,b,rfl,hE⟩
 rw[h1]at HF;obtain⟨b,s,x0,x1,x2,x3,rfl,f,j,_,g1,g2,g3⟩:=eN hi.vs hk;rw[hx]at f;injection f with f;simp only[aTu]at f;obtain⟨_,rfl,rfl,rfl⟩:=f;obtain⟨s1,s2⟩:=o _ (aT7 hx);dsimp only at s1 s2;have hD:=(kR ht s1 s2 hc).1;have HP:=fun(w':World)=>aF2 h.free h.step h.aD h.aF a1 a2 a3 h.aC amt w' ht s1 s2 hc
 have g:=aCw (amt:=amt) hD;have hr:oY h id amt=if(gC h.free h.step h.aD h.aF a1 a2 a3 h.aC amt).2.2=true∧h.aG+amt-(gC h.free h.step h.aD h.aF a1 a2 a3 h.aC amt).2.1≤99999 then some ({h with aG:=h.aG+amt-(gC h.free h.step h.aD h.aF a1 a2 a3 h.aC amt).2.1,vs:=h.vs.set k (id,(gC h.free h.step h.aD h.aF a1 a2 a3 h.aC amt).1)},(gC h.free h.step h.aD h.aF a1 a2 a3 h.aC amt).2.1)else none:=by unfold oY;rw[h2,h1];rfl
 rw[hr];generalize gC h.free h.step h.aD h.aF a1 a2 a3 h.aC amt=r at*;obtain⟨⟨S1,S2,S3⟩,bk,t⟩:=r;dsimp only at HP g⊢;refine(aKw h.aA h.aB h.free h.step h.aD h.aF h.aC h.aG id amt p _ c b s _ c2 k h.cells h.vs id a1 a2 a3 S1 S2 S3 bk t w hk hm j i hb g hx g1 g2 g3 HL HF HP).mono ?_;rintro e w' (⟨p',a,q',d,b',rfl,hno,hE⟩|⟨rfl,hle,p',a,q',d,rfl,ho1,ho2,hE⟩)
 ·rw[if_neg hno];exact⟨p',a,q',d,b',rfl,hE⟩
 rw[if_pos ⟨rfl,hle⟩];refine⟨p',a,q',d,?_,ho1,?_,hE⟩
 ·simp[bG]
 simpa using ho2
theorem nM {xs ys:List Int}(h:List.Perm xs ys):cS xs=cS ys:=
 oR ((fW _).trans (h.filter _)) (mA _)
theorem aC9 (aC:Int): ∀(cs:List Int) (vs:List aR),cE aC cs vs=true↔vs.map (·.1)=cs∧ ∀v∈vs,fP aC v=true:=by
 intro cs;induction cs with
 |nil=>intro vs;cases vs<;>simp[cE]
 |cons c cs ih=>
  intro vs;cases vs with
  |nil=>simp[cE]
  |cons v vs=>
   simp only[cE,aTf,decide_eq_true_eq,ih,aUp,List.cons.injEq,List.forall_mem_cons];constructor
   ·rintro⟨⟨a,b⟩,c,d⟩;exact⟨⟨a,c⟩,b,d⟩
   rintro⟨⟨a,c⟩,b,d⟩;exact⟨⟨a,b⟩,c,d⟩
theorem dF (h:aL):aP h=true↔aN h.aA h.aB h.cells=true∧bJ h.free h.step h.aD h.aF=true∧(0≤h.aC∧h.aC≤9999∧0≤h.aG∧h.aG≤99999)∧h.vs.map (·.1)=cS h.cells∧ ∀v∈h.vs,fP h.aC v=true:=by
 unfold aP sP;simp only[aTf,decide_eq_true_eq,aC9];constructor
 ·rintro⟨⟨⟨a,b⟩,c⟩,d,e⟩;exact⟨a,b,c,d,e⟩
 rintro⟨a,b,c,d,e⟩;exact⟨⟨⟨a,b⟩,c⟩,d,e⟩
theorem iT (aC:Int)(v:aR):fP aC v=true↔dI v.2.1 v.2.2.1 v.2.2.2=true∧v.2.2.2≤aC:=by unfold fP;simp
theorem yQ (v:aR): ∀vs:List aR,(lX v vs).map (·.1)=mR v.1 (vs.map (·.1))
 | []=>rfl
 |u::vs=>by
  by_cases hc:u.1<v.1
  ·have e:lX v (u::vs)=u::lX v vs:=by simp[lX,hc]
   rw[e,aUp,yQ v vs,aUp];simp[mR,hc]
  have e:lX v (u::vs)=v::u::vs:=by simp[lX,hc]
  rw[e];simp[mR,hc]
theorem aO6 (v:aR)(vs:List aR): ∀u∈lX v vs,u=v∨u∈vs:=by
 intro u hu;unfold lX at hu;rcases aTn.1 hu with h|h
 ·exact .inr ((List.takeWhile_sublist _).subset h)
 rcases aTi.1 h with h|h
 ·exact .inl h
 exact .inr ((List.dropWhile_sublist _).subset h)
theorem qH (v:aR)(vs:List aR):(lX v vs).length=vs.length+1:=by have:=congrArg List.length (yQ v vs);rw[(oG _ _).length_eq]at this;simpa using this
theorem aQ1 {zs:List Int}{id:Int}(h0:zs.getD 0 0=0)(hl:0<zs.length)(hi:1≤id):cS (zs.set 0 id)=mR id (cS zs):=by
 cases zs with
 |nil=>simp at hl
 |cons z t=>
  obtain rfl:z=0:=by simpa using h0
  symm;refine oR ?_ (wN _ _ (mA _));have e:dL ((0::t).set 0 id)=id::dL (0::t):=by unfold dL;rw[aTk,aV6 (by simp;omega),aV7 (by simp)]
  rw[e];exact(oG _ _).trans (List.Perm.cons _ (fW _))
theorem aC2 {zs:List Int}{id:Int}(h0:zs[0]? =some id) (hi:1≤id):cS (zs.set 0 0)=(cS zs).erase id:=by
 cases zs with
 |nil=>simp at h0
 |cons z t=>
  obtain rfl:z=id:=by simpa using h0
  symm;refine oR ?_ ((mA _).sublist List.erase_sublist);have e:dL (z::t)=z::dL ((z::t).set 0 0):=by unfold dL;rw[aTk,aV6 (by simp;omega),aV7 (by simp)]
  have hp:=(fW (dL (z::t))).erase z;rw[e,List.erase_cons_head,←e]at hp;exact hp
theorem zQ (id:Int): ∀vs:List aR,vs.any (fun v=>v.1==id)=true→(vs.eraseIdx (vs.findIdx (fun v=>v.1==id))).map (·.1)=(vs.map (·.1)).erase id
 | [],h=>by simp at h
 |v::vs,h=>by
  by_cases hv:v.1=id
  ·have e:(v::vs).findIdx (fun v=>v.1==id)=0:=by simp[List.findIdx_cons,hv]
   rw[e,aUp,hv,List.erase_cons_head];rfl
  have hb:(v.1==id)=false:=by simpa using hv
  have e:(v::vs).findIdx (fun v=>v.1==id)=vs.findIdx (fun v=>v.1==id)+1:=by simp[List.findIdx_cons,hb]
  have h':vs.any (fun v=>v.1==id)=true:=by simpa[hv]using h
  rw[e,List.eraseIdx_cons_succ,aUp,zQ id vs h',aUp,List.erase_cons_tail (by simpa using hv)]
theorem gI {id:Int}{vs:List aR}{v:aR}(h:bT id vs=some v):vs.any (fun v=>v.1==id)=true∧v.1=id∧vs[(vix id vs).toNat]? =some v∧(vix id vs).toNat<vs.length∧vix id vs=((vix id vs).toNat:Int)∧(vix id vs).toNat=vs.findIdx (fun v=>v.1==id):=by
 have ha:vs.any (fun v=>v.1==id)=true:=by unfold bT at h;exact List.any_eq_true.2 ⟨v,aUa h,by simpa using List.find?_some h⟩
 rcases oA id vs with⟨h1,h2⟩|⟨k,a1,a2,a3,hk,h1,hx,h2⟩
 ·rw[h2]at h;cases h
 rw[h2]at h;injection h with h;subst h;have e:vix id vs=(vs.findIdx (fun v=>v.1==id):Int):=by unfold vix;rw[if_pos ha]
 refine⟨ha,rfl,by rw[h1];simpa using hx,by rw[h1];simpa using hk,by rw[h1];simp,by rw[e];simp⟩
theorem aNu {α:Type}{l:List α}{k:Nat}{a:α}(h:l[k]? =some a):l.set k a=l:=by
 refine List.ext_getElem? (fun i=> ?_);rw[List.getElem?_set];split
 ·rename_i e;subst e;split
  ·exact h.symm
  rename_i hl;rw[aUn (by omega)]at h;cases h
 rfl
theorem aNw {vs:List aR}{k:Nat}{u:aR}(s:Int×Int×Int)(hk:vs[k]? =some u):(vs.set k (u.1,s)).map (·.1)=vs.map (·.1):=by rw[List.map_set];exact aNu (by rw[aTo,hk];rfl)
def bY (h:aL)(k a b:Int):Option (aL×Int):=
 if k=0 then
  (if 0≤(cN h.aA h.aB h.cells a).2 then some ({h with cells:=(cN h.aA h.aB h.cells a).1,vs:=lX (a,h.aC,0,h.aC) h.vs},(cN h.aA h.aB h.cells a).2)else none)
 else if k=1 then oY h a b
 else if k=2 then
  (if cZ h a=true∧0≤(bW h.aA h.aB h.cells a).2 then some ({h with cells:=(bW h.aA h.aB h.cells a).1,vs:=h.vs.eraseIdx (vix a h.vs).toNat},(bW h.aA h.aB h.cells a).2)else none)
 else if k=3 then(if 1≤a∧a≤9999-h.aC then some ({h with aC:=h.aC+a},h.aC+a)else none)
 else if k=4 then(if bH h.aA h.aB h.cells a b=true then some ({h with cells:=bL h.aA h.aB h.cells a b},0)else none)
 else none
theorem oN {aA aB:Int}{xs:List Int}{id:Int}(a:aN aA aB xs=true)(h:0≤(cN aA aB xs id).2):
  ∃zs,List.Perm zs xs∧zs.getD 0 0=0∧1≤id∧(cN aA aB xs id).1=zs.set 0 id∧aN aA aB (zs.set 0 id)=true∧(cN aA aB xs id).2≤5:=by
 unfold cN nA at h⊢;cases hr:jA aA xs with
 |none=>rw[hr]at h;simp at h
 |some r=>
  rw[hr]at h;obtain⟨f1,f2,f3,f4,f5⟩:=qX a hr;have hp:=(qC r.2 xs a).2.2;rw[f1]at hp;unfold dE at h⊢;by_cases hc:r.1.getD 0 0=0∧1≤id∧aN aA aB (r.1.set 0 id)=true
  ·simp only[hc,and_self,if_true]at h⊢;exact⟨r.1,hp,hc.1,trivial,rfl,hc.2.2,by omega⟩
  simp only[if_neg hc]at h;simp at h
theorem lD {aA aB:Int}{xs:List Int}{id:Int}(a:aN aA aB xs=true)(h:0≤(bW aA aB xs id).2):
  ∃ys,List.Perm ys xs∧ys[0]? =some id∧1≤id∧(bW aA aB xs id).1=ys.set 0 0∧(bW aA aB xs id).2≤60:=by
 unfold bW mE at h⊢;by_cases hc:id<1∨id∉xs
 ·rw[if_pos hc]at h;simp at h
 rw[if_neg hc]at h⊢;have hm:id∈xs:=by
  by_cases hm:id∈xs
  ·exact hm
  exact absurd (.inr hm) hc
 obtain⟨c,hx,hi⟩:=uA hm;rw[hi]at h⊢;rw[aUz]at h⊢;cases hb:dX aA xs c with
 |none=>rw[hb]at h;simp at h
 |some l=>
  rw[hb]at h;obtain⟨g1,ys,g2,g3,g4,g5⟩:=(nN a hx (by omega)).2 l hb;have hp:=(qC l xs a).2.2;rw[g2]at hp;refine⟨ys,hp,g5,by omega,?_,?_⟩
  ·simp[g2]
  simp;omega
theorem aG5 {aA aB:Int}{xs:List Int}(h:aN aA aB xs=true):aN aA aB (xs.set 0 0)=true:=by
 unfold aN at*;rw[aTf]at*;refine⟨by rw[aUi];exact h.1,?_⟩;obtain⟨h1,h2,h3⟩:=(eI _ _).1 h.2;refine(eI _ _).2 ⟨fun x hx=> ?_,fun x hx=>by simp,?_⟩
 ·rcases aU9 hx with hx|rfl
  ·exact h1 x hx
  omega
 cases xs with
 |nil=>simp
 |cons x t=>
  rw[aTk,aV7 (by simp)];refine h3.sublist ?_;rw[List.filter_cons];split
  ·exact List.sublist_cons_self _ _
  exact List.Sublist.refl _
theorem aPk {f s p c i pd a now:Int}(h:bJ f s p c=true)(hi:0≤i)(h3:i≤now)(h4:now≤9999):0≤nK f s p c (now-i)∧nK f s p c (now-i)≤693:=by have hb:=qS (m:=now-i) h (by omega) (by omega);omega
theorem kZ {h:aL}(e:aP h=true){k a b:Int}{h':aL}{n:Int}(hd:bY h k a b=some (h',n)):
  aP h'=true∧(0≤n∧n≤9999)∧h'.cells.length=h.cells.length∧h'.aA=h.aA∧h'.aB=h.aB∧h'.free=h.free∧h'.step=h.step∧h'.aD=h.aD∧h'.aF=h.aF:=by
 obtain⟨q1,q2,q3,q4,q5⟩:=(dF h).1 e;have d:0<h.cells.length:=by have:=cG (cY q1);omega
 unfold bY at hd;split at hd
 ·split at hd
  ·rename_i h0;obtain⟨zs,s1,s2,s3,s4,s5,s6⟩:=oN q1 h0;injection hd with hd;simp only[aTu]at hd;obtain⟨rfl,rfl⟩:=hd;rw[s4];refine⟨(dF _).2 ⟨s5,q2,q3,?_,?_⟩,⟨h0,by omega⟩,by rw[aUi,s1.length_eq],rfl,rfl,rfl,rfl,rfl,rfl⟩
   ·dsimp only;rw[yQ,aQ1 s2 (by rw[s1.length_eq];exact d) s3,q4,nM s1]
   intro v hv;rcases aO6 _ _ v hv with rfl|hv
   ·exact(iT _ _).2 ⟨by simp[dI];omega,Int.le_refl _⟩
   exact q5 v hv
  cases hd
 split at hd
 ·unfold oY at hd;split at hd
  ·cases hd
  rename_i v hv;obtain⟨v1,v2,v3,v4,v5,v6⟩:=gI hv;obtain⟨s1,s2⟩:=(iT _ _).1 (q5 v (aT7 v3));obtain⟨b1,b2⟩:=kR q2 s1 s2 q3.2.1;obtain⟨t1,t2,t3,t4,t5,t6⟩:=fJ s1;split at hd
  ·rename_i hp;have f:=aCw b1 hp.1;injection hd with hd;simp only[aTu]at hd;obtain⟨rfl,rfl⟩:=hd;refine⟨(dF _).2 ⟨q1,q2,⟨q3.1,q3.2.1,?_,hp.2⟩,?_,?_⟩,⟨f.1,by omega⟩,rfl,rfl,rfl,rfl,rfl,rfl,rfl⟩
   ·dsimp only;omega
   ·dsimp only;rw[←q4,←v2];rw[←v2]at v3;exact aNw _ v3
   intro u hu;rcases aU9 hu with hu|rfl
   ·exact q5 u hu
   refine(iT _ _).2 ?_;have hf:=aPk (pd:=v.2.2.1) (a:=v.2.2.2) (now:=h.aC) q2 t1 (by omega) q3.2.1;have g:cF h.free h.step h.aD h.aF v.2.1 v.2.2.1 v.2.2.2 h.aC=max (nK h.free h.step h.aD h.aF (h.aC-v.2.1)-v.2.2.1) 0:=by unfold cF;rw[if_pos (by simp[q2,s1,s2,q3.2.1])]
   have c:=hp.1;unfold gC at c⊢;split at c
   ·rename_i ha;rw[if_pos ha];split at c
    ·cases c
    rename_i hn;rw[if_neg hn];dsimp only;refine⟨?_,by omega⟩;unfold dI;simp only[decide_eq_true_eq];omega
   cases c
  cases hd
 split at hd
 ·split at hd
  ·rename_i hm;obtain⟨ys,s1,s2,s3,s4,s5⟩:=lD q1 hm.2;injection hd with hd;simp only[aTu]at hd;obtain⟨rfl,rfl⟩:=hd;rw[s4];refine⟨(dF _).2 ⟨aG5 (wQ q1 s1),q2,q3,?_,?_⟩,⟨hm.2,by omega⟩,by rw[aUi,s1.length_eq],rfl,rfl,rfl,rfl,rfl,rfl⟩
   ·dsimp only;have hv: ∃v,bT a h.vs=some v:=by
     have:=hm.1;unfold cZ cT at this;rw[if_pos e]at this;cases hv:bT a h.vs with
     |none=>rw[hv]at this;simp at this
     |some v=>exact⟨v,rfl⟩
    obtain⟨v,hv⟩:=hv;obtain⟨v1,v2,v3,v4,v5,v6⟩:=gI hv;rw[v6,zQ a h.vs v1,aC2 s2 s3,q4,nM s1]
   intro v hv;exact q5 v (List.mem_of_mem_eraseIdx hv)
  cases hd
 split at hd
 ·split at hd
  ·rename_i hw;injection hd with hd;simp only[aTu]at hd;obtain⟨rfl,rfl⟩:=hd;refine⟨(dF _).2 ⟨q1,q2,⟨by dsimp only;omega,by dsimp only;omega,q3.2.2⟩,q4,fun v hv=> ?_⟩,⟨by omega,by omega⟩,rfl,rfl,rfl,rfl,rfl,rfl,rfl⟩;obtain⟨s1,s2⟩:=(iT _ _).1 (q5 v hv);exact(iT _ _).2 ⟨s1,by dsimp only;omega⟩
  cases hd
 split at hd
 ·split at hd
  ·injection hd with hd;simp only[aTu]at hd;obtain⟨rfl,rfl⟩:=hd;refine⟨(dF _).2 ⟨jK a b q1,q2,q3,?_,q5⟩,⟨by omega,by omega⟩,dG _ _ _ _ _,rfl,rfl,rfl,rfl,rfl,rfl⟩;dsimp only;rw[q4,nM (oT a b)]
  cases hd
 cases hd
section
open Go.Proofs.Tryz
def wH (h:aL)(id:Int):Value:=match cT h id with
 |some s=> .tuple #[.agg #[s.1,s.2.1,s.2.2],.bool true]
 |none=> .tuple #[.agg #[(),(),()],.bool false]
theorem aFt (aA aB a b aD aF aC aG id:Int)(p:OA)(n c:Nat)(q:OA)(m c2:Nat)(w:World)
  (HV:xB 19 #[.agg #[aA,aB,.slice p n c,a,b,aD,aF,aC,aG,.slice q m c2]] w false):
  U 108 #[.agg #[aA,aB,.slice p n c,a,b,aD,aF,aC,aG,.slice q m c2],id] w (O (.tuple #[.agg #[(),(),()],.bool false]) w):=by
 go_enter func108,ntmps108;go_wp2_with fail;refine Z (HV _ (by exact .alloc (.alloc (.refl _) _) _)) fun w1 d=>?_
 have g:Blk w1 w 30 #[aA,aB,.slice p n c,a,b,aD,aF,aC,aG,.slice q m c2]:=((Blk.new w _ _).alloc _).ext d;have f:Blk w1 (w.heap.size+1) 52 #[(),(),()]:=by have:=(Blk.new (w.alloc (.cells #[aA,aB,.slice p n c,a,b,aD,aF,aC,aG,.slice q m c2] 30)) 52 #[(),(),()]).ext d;simpa using this
 have X1:Ext w w1:=(((Ext.refl w).alloc _).alloc _).trans d;replace g:=xQ g;replace f:=xQ f;clear d;have h:=f.out.trif;go_wp2;exact bodyPost_ret (v:= .tuple #[.agg #[(),(),()],.bool false]) (by simp[results,results108,go_sem, *]) rfl ⟨rfl,xE⟩
theorem aIm (aA aB a b aD aF aC aG id:Int)(p:OA)(n c:Nat)(q:OA)(m c2:Nat)(w:World)
  (HV:xB 19 #[.agg #[aA,aB,.slice p n c,a,b,aD,aF,aC,aG,.slice q m c2]] w true)
  (HX:xC 98 #[.agg #[aA,aB,.slice p n c,a,b,aD,aF,aC,aG,.slice q m c2],id] w fun w' e w''=>e= .returned (I (-1))∧Ext w' w''):
  U 108 #[.agg #[aA,aB,.slice p n c,a,b,aD,aF,aC,aG,.slice q m c2],id] w (O (.tuple #[.agg #[(),(),()],.bool false]) w):=by
 go_enter func108,ntmps108;go_wp2_with fail;refine Z (HV _ (by exact .alloc (.alloc (.refl _) _) _)) fun w1 g=>?_
 have d:Blk w1 w 30 #[aA,aB,.slice p n c,a,b,aD,aF,aC,aG,.slice q m c2]:=((Blk.new w _ _).alloc _).ext g;have f:Blk w1 (w.heap.size+1) 52 #[(),(),()]:=by have:=(Blk.new (w.alloc (.cells #[aA,aB,.slice p n c,a,b,aD,aF,aC,aG,.slice q m c2] 30)) 52 #[(),(),()]).ext g;simpa using this
 have X1:Ext w w1:=(((Ext.refl w).alloc _).alloc _).trans g;replace d:=xQ d;replace f:=xQ f;clear g;have i:=d.out.ten;go_wp2_with fail;refine Z (HX _ (by exact X1)) fun w2 h=>?_
 have j:=xQ (f.out.ext h);have X2:Ext w w2:=X1.trans h;clear i h d f;have k:=j.out.trif;go_wp2;exact bodyPost_ret (v:= .tuple #[.agg #[(),(),()],.bool false]) (by simp[results,results108,go_sem, *]) rfl ⟨rfl,xE⟩
theorem aFs (aA aB a c aD aF aC aG id:Int)(p:OA)(n f:Nat)(q:OA)(m c2:Nat)(w:World)
  (k:Nat)(a1 a2 a3:Int)(vs:List aR)(HK:Hid (vs[k]? =some (id,a1,a2,a3))) (hk:k<m) (hm:m≤9223372036854775807) (HS:Hid (Sl w q m c2 4 (vs.flatMap aE)))
  (HV:xB 19 #[.agg #[aA,aB,.slice p n f,a,c,aD,aF,aC,aG,.slice q m c2]] w true)
  (HX:xC 98 #[.agg #[aA,aB,.slice p n f,a,c,aD,aF,aC,aG,.slice q m c2],id] w fun w' e w''=>e= .returned (I k)∧Ext w' w''):
  U 108 #[.agg #[aA,aB,.slice p n f,a,c,aD,aF,aC,aG,.slice q m c2],id] w (O (.tuple #[.agg #[a1,a2,a3],.bool true]) w):=by
 go_enter func108,ntmps108;go_wp2_with fail;refine Z (HV _ (by exact .alloc (.alloc (.refl _) _) _)) fun w1 h=>?_
 have d:Blk w1 w 30 #[aA,aB,.slice p n f,a,c,aD,aF,aC,aG,.slice q m c2]:=((Blk.new w _ _).alloc _).ext h;have g:Blk w1 (w.heap.size+1) 52 #[(),(),()]:=by have:=(Blk.new (w.alloc (.cells #[aA,aB,.slice p n f,a,c,aD,aF,aC,aG,.slice q m c2] 30)) 52 #[(),(),()]).ext h;simpa using this
 have X1:Ext w w1:=(((Ext.refl w).alloc _).alloc _).trans h;replace d:=xQ d;replace g:=xQ g;clear h;have j:=d.out.ten;go_wp2_with fail;refine Z (HX _ (by exact X1)) fun w2 i=>?_
 have l:=xQ (d.out.ext i);have o:=xQ (g.out.ext i);have X2:Ext w w2:=X1.trans i;clear j i d g;have r:=l.out.ten;have s:=o.out.trif;obtain⟨b,u,b0,b1,b2,b3,rfl,hv,hb,g0,g1,g2,g3⟩:=eN (HS.out.ext X2) hk;obtain⟨rfl,rfl,rfl,rfl⟩:id=b0∧a1=b1∧a2=b2∧a3=b3:=by have t:=HK.out;rw[hv]at t;simp only[aUq,aTu]at t;exact⟨t.1.symm,t.2.1.symm,t.2.2.1.symm,t.2.2.2.symm⟩
 have i1:=aVt k;have i2:=aVu k m;clear hv;go_wp2;exact bodyPost_ret (v:= .tuple #[.agg #[a1,a2,a3],.bool true]) (by simp[results,results108,go_sem, *]) rfl ⟨rfl,xE⟩
theorem aEj (aA aB a b aD aF aC aG id:Int)(p:OA)(n c:Nat)(q:OA)(m c2:Nat)(w:World)
  (x:Int)
  (HX:xC 78 #[.agg #[aA,aB,.slice p n c,a,b,aD,aF,aC,aG,.slice q m c2],id] w fun w' e w''=>e= .returned (I x)∧Ext w' w'')
  (HV:xB 9 #[.agg #[aA,aB,.slice p n c,a,b,aD,aF,aC,aG,.slice q m c2]] w false):
  U 117 #[.agg #[aA,aB,.slice p n c,a,b,aD,aF,aC,aG,.slice q m c2],id] w (O (.tuple #[.agg #[(),(),()],.bool false]) w):=by
 go_enter func117,ntmps117;go_wp2_with fail;refine Z (HX _ (by exact .alloc (.alloc (.refl _) _) _)) fun w1 g=>?_
 have d:Blk w1 w 30 #[aA,aB,.slice p n c,a,b,aD,aF,aC,aG,.slice q m c2]:=((Blk.new w _ _).alloc _).ext g;have f:Blk w1 (w.heap.size+1) 52 #[(),(),()]:=by have:=(Blk.new (w.alloc (.cells #[aA,aB,.slice p n c,a,b,aD,aF,aC,aG,.slice q m c2] 30)) 52 #[(),(),()]).ext g;simpa using this
 have X1:Ext w w1:=(((Ext.refl w).alloc _).alloc _).trans g;replace d:=xQ d;replace f:=xQ f;clear g;have i:=d.out.ten;go_wp2_with fail;refine Z (HV _ (by exact X1)) fun w2 h=>?_
 have j:=xQ (f.out.ext h);have X2:Ext w w2:=X1.trans h;clear i h d f;have k:=j.out.trif;go_wp2;exact bodyPost_ret (v:= .tuple #[.agg #[(),(),()],.bool false]) (by simp[results,results117,go_sem, *]) rfl ⟨rfl,xE⟩
theorem aH5 (aA aB a b aD aF aC aG id:Int)(p:OA)(n c:Nat)(q:OA)(m c2:Nat)(w:World)
  (HX:xC 78 #[.agg #[aA,aB,.slice p n c,a,b,aD,aF,aC,aG,.slice q m c2],id] w fun w' e w''=>e= .returned (I (-1))∧Ext w' w'')
  (HV:xB 9 #[.agg #[aA,aB,.slice p n c,a,b,aD,aF,aC,aG,.slice q m c2]] w true):
  U 117 #[.agg #[aA,aB,.slice p n c,a,b,aD,aF,aC,aG,.slice q m c2],id] w (O (.tuple #[.agg #[(),(),()],.bool false]) w):=by
 go_enter func117,ntmps117;go_wp2_with fail;refine Z (HX _ (by exact .alloc (.alloc (.refl _) _) _)) fun w1 g=>?_
 have d:Blk w1 w 30 #[aA,aB,.slice p n c,a,b,aD,aF,aC,aG,.slice q m c2]:=((Blk.new w _ _).alloc _).ext g;have f:Blk w1 (w.heap.size+1) 52 #[(),(),()]:=by have:=(Blk.new (w.alloc (.cells #[aA,aB,.slice p n c,a,b,aD,aF,aC,aG,.slice q m c2] 30)) 52 #[(),(),()]).ext g;simpa using this
 have X1:Ext w w1:=(((Ext.refl w).alloc _).alloc _).trans g;replace d:=xQ d;replace f:=xQ f;clear g;have i:=d.out.ten;go_wp2_with fail;refine Z (HV _ (by exact X1)) fun w2 h=>?_
 have j:=xQ (f.out.ext h);have X2:Ext w w2:=X1.trans h;clear i h d f;have k:=j.out.trif;go_wp2;exact bodyPost_ret (v:= .tuple #[.agg #[(),(),()],.bool false]) (by simp[results,results117,go_sem, *]) rfl ⟨rfl,xE⟩
theorem aEi (aA aB a c aD aF aC aG id:Int)(p:OA)(n f:Nat)(q:OA)(m c2:Nat)(w:World)
  (k:Nat)(a1 a2 a3:Int)(vs:List aR)(HK:Hid (vs[k]? =some (id,a1,a2,a3))) (hk:k<m) (hm:m≤9223372036854775807) (HS:Hid (Sl w q m c2 4 (vs.flatMap aE)))
  (HX:xC 78 #[.agg #[aA,aB,.slice p n f,a,c,aD,aF,aC,aG,.slice q m c2],id] w fun w' e w''=>e= .returned (I k)∧Ext w' w'')
  (HV:xB 9 #[.agg #[aA,aB,.slice p n f,a,c,aD,aF,aC,aG,.slice q m c2]] w true):
  U 117 #[.agg #[aA,aB,.slice p n f,a,c,aD,aF,aC,aG,.slice q m c2],id] w (O (.tuple #[.agg #[a1,a2,a3],.bool true]) w):=by
 go_enter func117,ntmps117;go_wp2_with fail;refine Z (HX _ (by exact .alloc (.alloc (.refl _) _) _)) fun w1 h=>?_
 have d:Blk w1 w 30 #[aA,aB,.slice p n f,a,c,aD,aF,aC,aG,.slice q m c2]:=((Blk.new w _ _).alloc _).ext h;have g:Blk w1 (w.heap.size+1) 52 #[(),(),()]:=by have:=(Blk.new (w.alloc (.cells #[aA,aB,.slice p n f,a,c,aD,aF,aC,aG,.slice q m c2] 30)) 52 #[(),(),()]).ext h;simpa using this
 have X1:Ext w w1:=(((Ext.refl w).alloc _).alloc _).trans h;replace d:=xQ d;replace g:=xQ g;clear h;have j:=d.out.ten;go_wp2_with fail;refine Z (HV _ (by exact X1)) fun w2 i=>?_
 have l:=xQ (d.out.ext i);have o:=xQ (g.out.ext i);have X2:Ext w w2:=X1.trans i;clear j i d g;have r:=l.out.ten;have s:=o.out.trif;obtain⟨b,u,b0,b1,b2,b3,rfl,hv,hb,g0,g1,g2,g3⟩:=eN (HS.out.ext X2) hk;obtain⟨rfl,rfl,rfl,rfl⟩:id=b0∧a1=b1∧a2=b2∧a3=b3:=by have t:=HK.out;rw[hv]at t;simp only[aUq,aTu]at t;exact⟨t.1.symm,t.2.1.symm,t.2.2.1.symm,t.2.2.2.symm⟩
 have i1:=aVt k;have i2:=aVu k m;clear hv;go_wp2;exact bodyPost_ret (v:= .tuple #[.agg #[a1,a2,a3],.bool true]) (by simp[results,results117,go_sem, *]) rfl ⟨rfl,xE⟩
theorem aJr (h:aL)(id:Int)(p:OA)(n c:Nat)(q:OA)(m c2:Nat)(w:World)(hi:IsHouse w h p n c q m c2):
  U 108 #[bG h p n c q m c2,id] w (O (wH h id) w):=by
 have HV:=fun(w':World) (hx:Ext w w')=>iW h p n c q m c2 w' (hi.ext hx)
 have f:=hi.vlen;obtain⟨aA,aB,d,a,b,aD,aF,aC,aG,vs⟩:=h;have HX:=fun(w':World) (hx:Ext w w')=>kE aA aB a b aD aF aC aG id p n c q m c2 vs w' (hi.vs.ext hx)
 unfold wH cT;simp only at f HV HX⊢;cases hok:aP ⟨aA,aB,d,a,b,aD,aF,aC,aG,vs⟩with
 |false=>rw[hok]at HV;simpa using aFt aA aB a b aD aF aC aG id p n c q m c2 w HV
 |true=>
  rw[hok]at HV;rcases oA id vs with⟨hx,hv⟩|⟨k,a1,a2,a3,hk,hx,hv,hf⟩
  ·rw[hx]at HX;rw[hv];simpa using aIm aA aB a b aD aF aC aG id p n c q m c2 w HV HX
  rw[hx]at HX;rw[hf];simpa using aFs aA aB a b aD aF aC aG id p n c q m c2 w k a1 a2 a3 vs hv (by omega) hi.vs.bd hi.vs HV HX
theorem aJj (h:aL)(id:Int)(p:OA)(n c:Nat)(q:OA)(m c2:Nat)(w:World)(hi:IsHouse w h p n c q m c2):
  U 117 #[bG h p n c q m c2,id] w (O (wH h id) w):=by
 have HV:=fun(w':World) (hx:Ext w w')=>iA h p n c q m c2 w' (hi.ext hx)
 have f:=hi.vlen;obtain⟨aA,aB,d,a,b,aD,aF,aC,aG,vs⟩:=h;have HX:=fun(w':World) (hx:Ext w w')=>sQ aA aB a b aD aF aC aG id p n c q m c2 vs w' (hi.vs.ext hx)
 unfold wH cT;simp only at f HV HX⊢;cases hok:aP ⟨aA,aB,d,a,b,aD,aF,aC,aG,vs⟩with
 |false=>rw[hok]at HV;simpa using aEj aA aB a b aD aF aC aG id p n c q m c2 w _ HX HV
 |true=>
  rw[hok]at HV;rcases oA id vs with⟨hx,hv⟩|⟨k,a1,a2,a3,hk,hx,hv,hf⟩
  ·rw[hx]at HX;rw[hv];simpa using aH5 aA aB a b aD aF aC aG id p n c q m c2 w HX HV
  rw[hx]at HX;rw[hf];simpa using aEi aA aB a b aD aF aC aG id p n c q m c2 w k a1 a2 a3 vs hv (by omega) hi.vs.bd hi.vs HX HV
end
end Go.Proofs.YthfmmibomhhmpaaGreatDoor
