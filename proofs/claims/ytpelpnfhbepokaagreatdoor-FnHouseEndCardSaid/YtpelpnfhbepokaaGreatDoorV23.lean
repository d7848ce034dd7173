/-
  Texts of this proof, packed (@packed).
-/
import Derived.Test.YtpelpnfhbepokaaGreatDoorV22
namespace Go.Proofs.YtpelpnfhbepokaaGreatDoor
open Go.RowKit
set_option linter.unusedVariables false
set_option maxHeartbeats 40000000
set_option maxRecDepth 100000
def aDv (R k:Nat)(w:World)(e:Ending)(w':World):Prop:= ∃f s p c:Int,e= .returned (aQ f s p c)∧Rand w' R (k+7)∧ExtR R w w'
theorem Blk.fourf {w:World}{g:Nat}{t:TypeId}{a b c d:Value}(h:Blk w g t #[a,b,c,d]):w.cell? ⟨g,0,none⟩=some a∧w.cell? ⟨g,1,none⟩=some b∧w.cell? ⟨g,2,none⟩=some c∧w.cell? ⟨g,3,none⟩=some d∧w.frozen? ⟨g,0,none⟩=false∧w.frozen? ⟨g,1,none⟩=false∧w.frozen? ⟨g,2,none⟩=false∧w.frozen? ⟨g,3,none⟩=false:=
 ⟨h.cell 0,h.cell 1,h.cell 2,h.cell 3,h.frozen 0,h.frozen 1,h.frozen 2,h.frozen 3⟩
theorem Blk.two {w:World}{g:Nat}{t:TypeId}{a b:Value}(h:Blk w g t #[a,b]):w.cell? ⟨g,0,none⟩=some a∧w.cell? ⟨g,1,none⟩=some b:=⟨h.cell 0,h.cell 1⟩
theorem vJ (R k:Nat)(n:Int)(w:World)(hr:Rand w R k)(hk:k≤1099511627700)(hn:0≤n)(j:n≤1000000):
  Calls Tryz.prog 76 #[.pointer (some ⟨R,0,none⟩),n] w (aDv R k w):=by
 have hR:=hr.lt;go_enter Tryz.func76,Tryz.ntmps76;go_wp2_with fail;refine(cL R (k) (4) _ (hr.ext (by exact .alloc (.refl _) _)) (by omega)).mono ?_;rintro e w1 ⟨a,rfl,a0,a1,r1,x1⟩;replace a1:a<4:=by omega
 have B1:Blk w1 w.heap.size 27 #[(),(),(),()]:=x1.blk (Blk.new _ _ _) (by omega);go_wp2_with fail;refine(cL R (k+1) (6) _ (r1) (by omega)).mono ?_;rintro e w2 ⟨b,rfl,b0,b1,r2,x2⟩;replace b1:b<6:=by omega
 go_wp2_with fail;refine(cL R (k+2) (9) _ (r2) (by omega)).mono ?_;rintro e w3 ⟨c,rfl,c0,c1,r3,x3⟩;replace c1:c<9:=by omega
 go_wp2_with fail;refine(cL R (k+3) (60) _ (r3) (by omega)).mono ?_;rintro e w4 ⟨d,rfl,d0,d1,r4,x4⟩;replace d1:d<60:=by omega
 have B4:=x4.blk (x3.blk (x2.blk B1 (by omega)) (by omega)) (by omega);have X4:ExtR R w w4:=(((((ExtR.refl R w).alloc _).trans x1).trans x2).trans x3).trans x4;have s4:=B4.lt;have l:=r4.lt;clear B1 x1 x2 x3 x4 r1 r2 r3 hr;go_wp2_with fail;refine(aE9 R (k+4) n _ (r4.ext (by exact .alloc (.refl _) _)) (by omega) hn j).mono ?_;rintro e w5 ⟨t,rfl,r5,x5⟩;have B5:=x5.blk (B4.alloc _) (by omega);have T5:=x5.blk (Blk.new w4 _ _) (by omega);have X5:ExtR R w w5:=(X4.alloc _).trans x5;have s5:=T5.lt;have m:=r5.lt;clear B4 X4 x5 r4;cases t with
 |false=>
  obtain⟨p0,p1,p2,p3,p4,p5,p6,p7⟩:=B5.fourf;obtain⟨q0,q1,q2,q3,q4,q5,q6,q7⟩:=T5.fourf;have h:w4.heap.size≠w.heap.size:=by omega
  clear B5 T5;go_wp2;refine bodyPost_ret (v:=aQ (a*10) (10+b*20) c (10+d)) (by simp[results,Tryz.results76,go_sem, *]) rfl ⟨_,_,_,_,rfl,?_,?_⟩
  ·exact Rand.mono (k:=k+4+1) xN (by omega)
  exact xR
 |true=>
  go_wp2_with fail;refine(cL R (k+5) (3) _ (r5) (by omega)).mono ?_;rintro e w6 ⟨u,rfl,u0,u1,r6,x6⟩;replace u1:u<3:=by omega
  have B6:=x6.blk B5 (by omega);have T6:=x6.blk T5 (by omega);have X6:=xQ (X5.trans x6);have s6:=T6.lt;have o:=r6.lt;clear B5 T5 x6 X5 r5;have hu:u=0∨u=1∨u=2:=by omega
  clear u0 u1;rcases hu with rfl|rfl|rfl
  ·skip;go_wp2_with fail;refine(cL R (k+6) (2) _ (r6.ext (by exact .alloc (.refl _) _)) (by omega)).mono ?_;rintro e w7 ⟨v,rfl,v0,v1,r7,x7⟩;replace v1:v<2:=by omega
   have B7:=x7.blk (B6.alloc _) (by omega);have T7:=x7.blk (T6.alloc _) (by omega);have S7:=x7.blk (Blk.new w6 _ _) (by omega);have X7:=xQ ((X6.out.alloc _).trans x7);have s7:=S7.lt;have i:=r7.lt;obtain⟨p0,p1,p2,p3,p4,p5,p6,p7⟩:=B7.fourf;obtain⟨q0,q1,q2,q3,q4,q5,q6,q7⟩:=T7.fourf;obtain⟨g0,g1⟩:=S7.two;have h:w4.heap.size≠w.heap.size:=by omega
   have f:w6.heap.size≠w4.heap.size:=by omega
   have g:w6.heap.size≠w.heap.size:=by omega
   clear B6 T6 B7 T7 S7 x7 r6;have XX:=X7.out;have hv:v=0∨v=1:=by omega
   clear v0 v1 X6 X7;rcases hv with rfl|rfl
   ·go_wp2;refine bodyPost_ret (v:=aQ (a*10) 0 c (10+d)) (by simp[results,Tryz.results76,go_sem, *]) rfl ⟨_,_,_,_,rfl,?_,?_⟩
    ·exact xN
    exact xR
   go_wp2;refine bodyPost_ret (v:=aQ (a*10) 1441 c (10+d)) (by simp[results,Tryz.results76,go_sem, *]) rfl ⟨_,_,_,_,rfl,?_,?_⟩
   ·exact xN
   exact xR
  ·skip;go_wp2_with fail;refine(cL R (k+6) (2) _ (r6.ext (by exact .alloc (.refl _) _)) (by omega)).mono ?_;rintro e w7 ⟨v,rfl,v0,v1,r7,x7⟩;replace v1:v<2:=by omega
   have B7:=x7.blk (B6.alloc _) (by omega);have T7:=x7.blk (T6.alloc _) (by omega);have S7:=x7.blk (Blk.new w6 _ _) (by omega);have X7:=xQ ((X6.out.alloc _).trans x7);have s7:=S7.lt;have i:=r7.lt;obtain⟨p0,p1,p2,p3,p4,p5,p6,p7⟩:=B7.fourf;obtain⟨q0,q1,q2,q3,q4,q5,q6,q7⟩:=T7.fourf;obtain⟨g0,g1⟩:=S7.two;have h:w4.heap.size≠w.heap.size:=by omega
   have f:w6.heap.size≠w4.heap.size:=by omega
   have g:w6.heap.size≠w.heap.size:=by omega
   clear B6 T6 B7 T7 S7 x7 r6;have XX:=X7.out;have hv:v=0∨v=1:=by omega
   clear v0 v1 X6 X7;rcases hv with rfl|rfl
   ·go_wp2;refine bodyPost_ret (v:=aQ (-1) (10+b*20) c (10+d)) (by simp[results,Tryz.results76,go_sem, *]) rfl ⟨_,_,_,_,rfl,?_,?_⟩
    ·exact xN
    exact xR
   go_wp2;refine bodyPost_ret (v:=aQ 1440 (10+b*20) c (10+d)) (by simp[results,Tryz.results76,go_sem, *]) rfl ⟨_,_,_,_,rfl,?_,?_⟩
   ·exact xN
   exact xR
  skip;go_wp2_with fail;refine(cL R (k+6) (2) _ (r6.ext (by exact .alloc (.refl _) _)) (by omega)).mono ?_;rintro e w7 ⟨v,rfl,v0,v1,r7,x7⟩;replace v1:v<2:=by omega
  have B7:=x7.blk (B6.alloc _) (by omega);have T7:=x7.blk (T6.alloc _) (by omega);have S7:=x7.blk (Blk.new w6 _ _) (by omega);have X7:=xQ ((X6.out.alloc _).trans x7);have s7:=S7.lt;have i:=r7.lt;obtain⟨p0,p1,p2,p3,p4,p5,p6,p7⟩:=B7.fourf;obtain⟨q0,q1,q2,q3,q4,q5,q6,q7⟩:=T7.fourf;obtain⟨g0,g1⟩:=S7.two;have h:w4.heap.size≠w.heap.size:=by omega
  have f:w6.heap.size≠w4.heap.size:=by omega
  have g:w6.heap.size≠w.heap.size:=by omega
  clear B6 T6 B7 T7 S7 x7 r6;have XX:=X7.out;have hv:v=0∨v=1:=by omega
  clear v0 v1 X6 X7;rcases hv with rfl|rfl
  ·go_wp2;refine bodyPost_ret (v:=aQ (a*10) (10+b*20) c (-1)) (by simp[results,Tryz.results76,go_sem, *]) rfl ⟨_,_,_,_,rfl,?_,?_⟩
   ·exact xN
   exact xR
  go_wp2;refine bodyPost_ret (v:=aQ (a*10) (10+b*20) c 100) (by simp[results,Tryz.results76,go_sem, *]) rfl ⟨_,_,_,_,rfl,?_,?_⟩
  ·exact xN
  exact xR
end Go.Proofs.YtpelpnfhbepokaaGreatDoor
namespace Go.Proofs.YtpelpnfhbepokaaGreatDoor
open Go.RowKit
set_option linter.unusedVariables false
set_option linter.unusedSimpArgs false
set_option maxHeartbeats 8000000
set_option maxRecDepth 100000
def nI (aA aB f s p c:Int):aO:=if bD f s p c=true∧2≤aA∧aA≤4∧2≤aB∧aB≤3 then⟨aA,aB,List.replicate (aA*aB).toNat 0,f,s,p,c,0,0,[]⟩else gH
theorem aCg {w w':World}{W D:Int}{xs:List Int}{f s p c:Int}{q:OA}{a:Nat}(ho:w'.ownsRow w.heap.size TI 1 (.slice q xs.length a) xs.length (ivs xs))(hx:Ext w w'):
  dG ⟨W,D,xs,f,s,p,c,0,0,[]⟩ w (.returned (bK ⟨W,D,xs,f,s,p,c,0,0,[]⟩ q xs.length a none 0 0)) w':=⟨q,a,none,0,rfl,ho,World.ownsRow_nil _ _ _ _,hx⟩
theorem aCo {w:World}{B n:Nat}{q:OA}{a:Nat}{xs:List Value}{g:Nat}{t:TypeId}{cs:Array Value}(ho:w.ownsRow B TI 1 (.slice q n a) n xs)(hb:Blk w g t cs)(ht:t≠TI):(Value.slice q n a).ownBlock≠some g:=by
 intro he;rcases ho.2 with⟨h1,h2⟩|⟨g',cap',cur,h1,hb',hg,hn,hm,hs,ht'⟩
 ·injection h1 with e1;subst e1;simp[Value.ownBlock]at he
 injection h1 with e1 e2 e3;subst e1;simp[Value.ownBlock]at he;subst he;unfold Blk at hb;rw[hb]at hg;injection hg with e;injection e with e1 e2;exact ht e2
theorem aBz (aA aB a b aE aF W D:Int)(xs:List Int)(w:World)(l:Bool)(HE:Hid (∀w',Ext w w'→Calls Tryz.prog 128 #[aA,aB] w' (cY W D xs w')))
  (HV:Hid (∀w' p c,Sl w' p xs.length c 1 (ivs xs)→Calls Tryz.prog 41 #[aH W D p xs.length c] w' fun e w''=>e= .returned (.bool false)∧Ext w' w''))
  (HT:Hid (∀w',Calls Tryz.prog 42 #[aQ a b aE aF] w' fun e w''=>e= .returned (.bool l)∧Ext w' w'')):
  Calls Tryz.prog 75 #[aA,aB,aQ a b aE aF] w (dG gH w):=by
 go_enter Tryz.func75,Tryz.ntmps75;go_wp2_with fail;refine(HE _ (by exact .alloc (.alloc (.refl _) _) _)).mono ?_;rintro e w1 ⟨p1,c1,rfl,o1,f⟩;have BT:Blk w1 (w.heap.size) 27 #[a,b,aE,aF]:=by have:=(Blk.new w 27 #[a,b,aE,aF]).ext (((Ext.refl _).alloc _).trans f);simpa using this
 have BZ:Blk w1 (w.heap.size+1) 30 #[(),(),((),()),(),(),(),(),(),(),((),())]:=by have:=(Blk.new (w.alloc (.cells #[a,b,aE,aF] 27)) 30 #[(),(),((),()),(),(),(),(),(),(),((),())]).ext ((Ext.refl _).trans f);simpa using this
 have X1:=xQ (show Ext w w1 by exact .trans (.alloc (.alloc (.refl _) _) _) f);have O1:=xQ (bE o1 (show w.heap.size≤_ by simp;omega));have H1:=xQ (Sl.own O1.out);have h:=xQ BT;have i:=xQ BZ;have s1:w.heap.size+1<w1.heap.size:=BZ.lt;clear BT BZ o1 f;go_wp2_with fail;refine(HV _ _ _ (H1.out.ext (by exact .alloc (.refl _) _))).mono ?_;rintro e w2 ⟨rfl,g⟩;have j:=xQ ((Blk.new w1 25 #[W,D,.slice p1 xs.length c1]).ext g);have d:Ext w1 w2:=by exact .trans (.alloc (.refl _) _) g
 have m:=xQ (h.out.ext d);have k:=xQ (i.out.ext d);have O2:=xQ (bG O1 d);have X2:=xQ (X1.out.trans d);have s2:w1.heap.size<w2.heap.size:=j.out.lt;clear g d h i O1 X1 H1;obtain⟨z0,n,z1,o,z2,q,z3,r,z4,s,z5,t,z6,u,z7,x,z8,y,z9,z⟩:=k.out.tenf;go_wp2;exact bodyPost_ret (v:= .agg #[(),(),((),()),(),(),(),(),(),(),((),())]) (by simp[results,Tryz.results75,go_sem, *]) rfl ⟨none,0,none,0,rfl,World.ownsRow_nil _ _ _ _,World.ownsRow_nil _ _ _ _,((((((((((X2.out.setCell (p:=⟨w.heap.size+1,0,none⟩) (by dsimp only;omega) (.int .i64 0)).setCell (p:=⟨w.heap.size+1,1,none⟩) (by dsimp only;omega) (.int .i64 0)).setCell (p:=⟨w.heap.size+1,2,none⟩) (by dsimp only;omega) (.slice none 0 0)).setCell (p:=⟨w.heap.size+1,3,none⟩) (by dsimp only;omega) (.int .i64 0)).setCell (p:=⟨w.heap.size+1,4,none⟩) (by dsimp only;omega) (.int .i64 0)).setCell (p:=⟨w.heap.size+1,5,none⟩) (by dsimp only;omega) (.int .i64 0)).setCell (p:=⟨w.heap.size+1,6,none⟩) (by dsimp only;omega) (.int .i64 0)).setCell (p:=⟨w.heap.size+1,7,none⟩) (by dsimp only;omega) (.int .i64 0)).setCell (p:=⟨w.heap.size+1,8,none⟩) (by dsimp only;omega) (.int .i64 0)).setCell (p:=⟨w.heap.size+1,9,none⟩) (by dsimp only;omega) (.slice none 0 0))⟩
theorem aBy (aA aB a b aE aF W D:Int)(xs:List Int)(w:World)(r:Bool)(HE:Hid (∀w',Ext w w'→Calls Tryz.prog 128 #[aA,aB] w' (cY W D xs w')))
  (HV:Hid (∀w' p c,Sl w' p xs.length c 1 (ivs xs)→Calls Tryz.prog 41 #[aH W D p xs.length c] w' fun e w''=>e= .returned (.bool true)∧Ext w' w''))
  (HT:Hid (∀w',Calls Tryz.prog 42 #[aQ a b aE aF] w' fun e w''=>e= .returned (.bool false)∧Ext w' w'')):
  Calls Tryz.prog 75 #[aA,aB,aQ a b aE aF] w (dG gH w):=by
 go_enter Tryz.func75,Tryz.ntmps75;go_wp2_with fail;refine(HE _ (by exact .alloc (.alloc (.refl _) _) _)).mono ?_;rintro e w1 ⟨p1,c1,rfl,o1,h⟩;have BT:Blk w1 (w.heap.size) 27 #[a,b,aE,aF]:=by have:=(Blk.new w 27 #[a,b,aE,aF]).ext (((Ext.refl _).alloc _).trans h);simpa using this
 have BZ:Blk w1 (w.heap.size+1) 30 #[(),(),((),()),(),(),(),(),(),(),((),())]:=by have:=(Blk.new (w.alloc (.cells #[a,b,aE,aF] 27)) 30 #[(),(),((),()),(),(),(),(),(),(),((),())]).ext ((Ext.refl _).trans h);simpa using this
 have X1:=xQ (show Ext w w1 by exact .trans (.alloc (.alloc (.refl _) _) _) h);have O1:=xQ (bE o1 (show w.heap.size≤_ by simp;omega));have H1:=xQ (Sl.own O1.out);have k:=xQ BT;have m:=xQ BZ;have s1:w.heap.size+1<w1.heap.size:=BZ.lt;clear BT BZ o1 h;go_wp2_with fail;refine(HV _ _ _ (H1.out.ext (by exact .alloc (.refl _) _))).mono ?_;rintro e w2 ⟨rfl,j⟩;have i:=xQ ((Blk.new w1 25 #[W,D,.slice p1 xs.length c1]).ext j);have g:Ext w1 w2:=by exact .trans (.alloc (.refl _) _) j
 have f:=xQ (k.out.ext g);have l:=xQ (m.out.ext g);have O2:=xQ (bG O1 g);have X2:=xQ (X1.out.trans g);have s2:w1.heap.size<w2.heap.size:=i.out.lt;clear j g k m O1 X1 H1;have t0:=f.out.cl 0;have t1:=f.out.cl 1;have t2:=f.out.cl 2;have t3:=f.out.cl 3;go_wp2_with fail;clear t0 t1 t2 t3;refine(HT _).mono ?_;rintro e w3 ⟨rfl,d⟩;have q:=xQ (f.out.ext d);have n:=xQ (l.out.ext d);have o:=xQ (i.out.ext d);have O3:=xQ (bG O2 d);have X3:=xQ (X2.out.trans d);have s3:w2.heap.size≤w3.heap.size:=d.sz;clear d f l i O2 X2;obtain⟨z0,s,z1,t,z2,u,z3,x,z4,y,z5,z,z6,aa,z7,ab,z8,ad,z9,ae⟩:=n.out.tenf;go_wp2;exact bodyPost_ret (v:= .agg #[(),(),((),()),(),(),(),(),(),(),((),())]) (by simp[results,Tryz.results75,go_sem, *]) rfl ⟨none,0,none,0,rfl,World.ownsRow_nil _ _ _ _,World.ownsRow_nil _ _ _ _,((((((((((X3.out.setCell (p:=⟨w.heap.size+1,0,none⟩) (by dsimp only;omega) (.int .i64 0)).setCell (p:=⟨w.heap.size+1,1,none⟩) (by dsimp only;omega) (.int .i64 0)).setCell (p:=⟨w.heap.size+1,2,none⟩) (by dsimp only;omega) (.slice none 0 0)).setCell (p:=⟨w.heap.size+1,3,none⟩) (by dsimp only;omega) (.int .i64 0)).setCell (p:=⟨w.heap.size+1,4,none⟩) (by dsimp only;omega) (.int .i64 0)).setCell (p:=⟨w.heap.size+1,5,none⟩) (by dsimp only;omega) (.int .i64 0)).setCell (p:=⟨w.heap.size+1,6,none⟩) (by dsimp only;omega) (.int .i64 0)).setCell (p:=⟨w.heap.size+1,7,none⟩) (by dsimp only;omega) (.int .i64 0)).setCell (p:=⟨w.heap.size+1,8,none⟩) (by dsimp only;omega) (.int .i64 0)).setCell (p:=⟨w.heap.size+1,9,none⟩) (by dsimp only;omega) (.slice none 0 0))⟩
theorem aBx (aA aB a b aE aF W D:Int)(xs:List Int)(w:World)(af:Bool)(HE:Hid (∀w',Ext w w'→Calls Tryz.prog 128 #[aA,aB] w' (cY W D xs w')))
  (HV:Hid (∀w' p c,Sl w' p xs.length c 1 (ivs xs)→Calls Tryz.prog 41 #[aH W D p xs.length c] w' fun e w''=>e= .returned (.bool true)∧Ext w' w''))
  (HT:Hid (∀w',Calls Tryz.prog 42 #[aQ a b aE aF] w' fun e w''=>e= .returned (.bool true)∧Ext w' w'')):
  Calls Tryz.prog 75 #[aA,aB,aQ a b aE aF] w (dG ⟨W,D,xs,a,b,aE,aF,0,0,[]⟩ w):=by
 go_enter Tryz.func75,Tryz.ntmps75;go_wp2_with fail;refine(HE _ (by exact .alloc (.alloc (.refl _) _) _)).mono ?_;rintro e w1 ⟨p1,c1,rfl,o1,i⟩;have BT:Blk w1 (w.heap.size) 27 #[a,b,aE,aF]:=by have:=(Blk.new w 27 #[a,b,aE,aF]).ext (((Ext.refl _).alloc _).trans i);simpa using this
 have BZ:Blk w1 (w.heap.size+1) 30 #[(),(),((),()),(),(),(),(),(),(),((),())]:=by have:=(Blk.new (w.alloc (.cells #[a,b,aE,aF] 27)) 30 #[(),(),((),()),(),(),(),(),(),(),((),())]).ext ((Ext.refl _).trans i);simpa using this
 have X1:=xQ (show Ext w w1 by exact .trans (.alloc (.alloc (.refl _) _) _) i);have O1:=xQ (bE o1 (show w.heap.size≤_ by simp;omega));have H1:=xQ (Sl.own O1.out);have o:=xQ BT;have r:=xQ BZ;have s1:w.heap.size+1<w1.heap.size:=BZ.lt;clear BT BZ o1 i;go_wp2_with fail;refine(HV _ _ _ (H1.out.ext (by exact .alloc (.refl _) _))).mono ?_;rintro e w2 ⟨rfl,n⟩;have j:=xQ ((Blk.new w1 25 #[W,D,.slice p1 xs.length c1]).ext n);have g:Ext w1 w2:=by exact .trans (.alloc (.refl _) _) n
 have f:=xQ (o.out.ext g);have q:=xQ (r.out.ext g);have O2:=xQ (bG O1 g);have X2:=xQ (X1.out.trans g);have s2:w1.heap.size<w2.heap.size:=j.out.lt;clear n g o r O1 X1 H1;have t0:=f.out.cl 0;have t1:=f.out.cl 1;have t2:=f.out.cl 2;have t3:=f.out.cl 3;go_wp2_with fail;clear t0 t1 t2 t3;refine(HT _).mono ?_;rintro e w3 ⟨rfl,d⟩;have h:=xQ (f.out.ext d);have l:=xQ (q.out.ext d);have k:=xQ (j.out.ext d);have O3:=xQ (bG O2 d);have X3:=xQ (X2.out.trans d);have s3:w2.heap.size≤w3.heap.size:=d.sz;clear d f q j O2 X2;have t0:=h.out.cl 0;have t1:=h.out.cl 1;have t2:=h.out.cl 2;have t3:=h.out.cl 3;have h0:=k.out.cl 0;have h1:=k.out.cl 1;have h2:=k.out.cl 2;obtain⟨z0,s,z1,t,z2,u,z3,x,z4,y,z5,z,z6,aa,z7,ab,z8,ad,z9,ae⟩:=l.out.tenf;go_wp2;generalize m:World.setCell _ _ _=w5;have hR:ExtR (w.heap.size+1) w3 w5:=by rw[←m];exact((((((((((ExtR.refl (w.heap.size+1) w3).setCell (p:=⟨w.heap.size+1,0,none⟩) (.inl rfl) (.int .i64 W)).setCell (p:=⟨w.heap.size+1,1,none⟩) (.inl rfl) (.int .i64 D)).setCell (p:=⟨w.heap.size+1,2,none⟩) (.inl rfl) (.slice p1 xs.length c1)).setCell (p:=⟨w.heap.size+1,3,none⟩) (.inl rfl) (.int .i64 a)).setCell (p:=⟨w.heap.size+1,4,none⟩) (.inl rfl) (.int .i64 b)).setCell (p:=⟨w.heap.size+1,5,none⟩) (.inl rfl) (.int .i64 aE)).setCell (p:=⟨w.heap.size+1,6,none⟩) (.inl rfl) (.int .i64 aF)).setCell (p:=⟨w.heap.size+1,7,none⟩) (.inl rfl) (.int .i64 0)).setCell (p:=⟨w.heap.size+1,8,none⟩) (.inl rfl) (.int .i64 0)).setCell (p:=⟨w.heap.size+1,9,none⟩) (.inl rfl) (.slice none 0 0)
 have O5:=O3.out.kept hR (.inr (aCo O3 l.out (by decide)));have X5:=ExtR.new X3 hR (by omega);have Y5:=(((((((((l.out.set 0 (.int .i64 W)).set 1 (.int .i64 D)).set 2 (.slice p1 xs.length c1)).set 3 (.int .i64 a)).set 4 (.int .i64 b)).set 5 (.int .i64 aE)).set 6 (.int .i64 aF)).set 7 (.int .i64 0)).set 8 (.int .i64 0)).set 9 (.slice none 0 0);simp only[List.setIfInBounds_toArray,List.set_cons_zero,List.set_cons_succ]at Y5;rw[m]at Y5;clear m z0 s z1 t z2 u z3 x z4 y z5 z z6 aa z7 ab z8 ad z9 ae t0 t1 t2 t3 h0 h1 h2;obtain⟨y0,y1,y2,y3,y4,y5,y6,y7,y8,y9⟩:=Y5.ten;exact bodyPost_ret (v:= .agg #[W,D,.slice p1 xs.length c1,a,b,aE,aF,(),(),((),())]) (by simp[results,Tryz.results75,go_sem, *]) rfl (aCg O5 X5)
theorem aKt (aA aB:Int)(w:World):Calls Tryz.prog 128 #[aA,aB] w (cY (cH aA aB).1 (cH aA aB).2.1 (cH aA aB).2.2 w):=by
 by_cases h:2≤aA∧aA≤4∧2≤aB∧aB≤3
 ·have h1:cH aA aB=(aA,aB,List.replicate (aA*aB).toNat 0):=by unfold cH;rw[if_pos h]
  rw[h1];obtain⟨a,b,c,d⟩:=h;have h4:0≤aA*aB:=Int.mul_nonneg (by omega) (by omega);have h5:aA*aB≤12:=by have:=Int.mul_le_mul b d (by omega) (by omega);omega
  exact aF6 aA aB (aA*aB).toNat w a b c d h4 h5 (by omega) (by omega)
 have h1:cH aA aB=(0,0,[]):=by unfold cH;rw[if_neg h]
 rw[h1];exact aC3 aA aB w (by omega)
theorem uO {aA aB:Int}(h:2≤aA∧aA≤4∧2≤aB∧aB≤3):aM aA aB (List.replicate (aA*aB).toNat 0)=true:=by
 obtain⟨h0,h1,h2,h3⟩:=h;have h4:0≤aA*aB:=Int.mul_nonneg (by omega) (by omega);unfold aM;rw[Bool.and_eq_true];refine⟨by simp only[fN,decide_eq_true_eq,List.length_replicate];omega,?_⟩;rw[dO];refine⟨fun x hx=> ?_,fun x hx h=> ?_,?_⟩
 ·rw[List.mem_replicate]at hx;omega
 ·rw[List.mem_replicate]at hx;omega
 have:(List.replicate (aA*aB).toNat (0:Int)).filter (fun x=>decide (0<x))= []:=by rw[List.filter_eq_nil_iff];intro x hx;rw[List.mem_replicate]at hx;simp[hx.2]
 rw[this];exact List.nodup_nil
theorem aAx (aA aB f s p c:Int):nI aA aB f s p c=(if aM (cH aA aB).1 (cH aA aB).2.1 (cH aA aB).2.2&&bD f s p c then⟨(cH aA aB).1,(cH aA aB).2.1,(cH aA aB).2.2,f,s,p,c,0,0,[]⟩else gH):=by
 unfold nI;by_cases h:2≤aA∧aA≤4∧2≤aB∧aB≤3
 ·have h1:cH aA aB=(aA,aB,List.replicate (aA*aB).toNat 0):=by unfold cH;rw[if_pos h]
  rw[h1,uO h,Bool.true_and];cases bD f s p c<;>simp[h]
 have h1:cH aA aB=(0,0,[]):=by unfold cH;rw[if_neg h]
 rw[h1];have h2:aM 0 0 []=false:=by simp[aM,fN]
 rw[h2,Bool.false_and];have h3: ¬(bD f s p c=true∧2≤aA∧aA≤4∧2≤aB∧aB≤3):=fun k=>h k.2
 rw[if_neg h3];rfl
theorem aKs (aA aB a b aE aF:Int)(w:World):Calls Tryz.prog 75 #[aA,aB,aQ a b aE aF] w (dG (nI aA aB a b aE aF) w):=by
 have HE:=fun(w':World) (hx:Ext w w')=>aKt aA aB w'
 have HV:=fun(w':World) p c (hS:Sl w' p (cH aA aB).2.2.length c 1 (ivs (cH aA aB).2.2))=>fV (cH aA aB).1 (cH aA aB).2.1 p _ c (cH aA aB).2.2 w' hS
 have HT:=fun(w':World)=>tS a b aE aF w'
 rw[aAx];cases h1:aM (cH aA aB).1 (cH aA aB).2.1 (cH aA aB).2.2 with
 |false=>rw[h1]at HV;cases h2:bD a b aE aF<;>(rw[h2]at HT;exact aBz aA aB a b aE aF _ _ _ w _ HE HV HT)
 |true=>
  rw[h1]at HV;cases h2:bD a b aE aF with
  |false=>rw[h2]at HT;exact aBy aA aB a b aE aF _ _ _ w true HE HV HT
  |true=>rw[h2]at HT;exact aBx aA aB a b aE aF _ _ _ w true HE HV HT
end Go.Proofs.YtpelpnfhbepokaaGreatDoor
namespace Go.Proofs.YtpelpnfhbepokaaGreatDoor
open Go.RowKit
set_option linter.unusedVariables false
set_option linter.unusedSimpArgs false
def Good (h:aO):Prop:=aT h=true∨h=gH
theorem Good.small {h:aO}(hg:Good h):h.cells.length≤12∧h.vs.length≤12:=by
 rcases hg with hg|rfl
 ·have:=iH hg;omega
 simp[gH]
theorem vN (a b f s p c:Int):Good (nI a b f s p c):=by
 unfold nI;split
 ·rename_i hc;left;have hk:=uO hc.2;refine(dS _).2 ⟨hk,hc.1,by simp,?_,by simp⟩;have e:dA (List.replicate (a*b).toNat (0:Int))= []:=by
   unfold dA;rw[List.filter_eq_nil_iff];intro x hx;rw[(List.mem_replicate.1 hx).2];simp
  unfold cJ;rw[e];rfl
 exact .inr rfl
def zE (w:World)(e:Ending)(w':World):Prop:=
 ∃(h:aO) (p:OA) (cap:Nat) (q:OA) (c2:Nat) (nn:Int) (ok:Bool),e= .returned (.tuple #[bK h p h.cells.length cap q h.vs.length c2,nn,.bool ok])∧Good h∧
  w'.ownsRow w.heap.size TI 1 (.slice p h.cells.length cap) h.cells.length (ivs h.cells)∧w'.ownsRow w.heap.size TV 4 (.slice q h.vs.length c2) h.vs.length (h.vs.flatMap aD)∧Ext w w'
theorem qH (h:aO)(hg:Good h)(k a b:Int)(p:OA)(n d:Nat)(q:OA)(m c2:Nat)(w:World)(hi:IsHouse w h p n d q m c2):
  Calls Tryz.prog 38 #[bK h p n d q m c2,lY k a b] w (zE w):=by
 cases hok:aT h with
 |true=>
  refine(sF h k a b p n d q m c2 w hi hok).mono ?_;intro e w' hr;cases hd:cA h k a b with
  |none=>rw[hd]at hr;obtain⟨p',c,q',f,rfl,o1,o2,hx⟩:=hr;exact⟨h,p',c,q',f,_,_,rfl,hg,o1,o2,hx⟩
  |some r=>obtain⟨h',x⟩:=r;rw[hd]at hr;obtain⟨p',c,q',f,rfl,o1,o2,hx⟩:=hr;exact⟨h',p',c,q',f,_,_,rfl,.inl (kO hok hd).1,o1,o2,hx⟩
 |false=>refine(mT h k a b p n d q m c2 w hi hok).mono ?_;rintro e w' ⟨rfl,hx⟩;exact⟨gH,none,0,none,0,_,_,rfl,.inr rfl,World.ownsRow_nil _ _ _ _,World.ownsRow_nil _ _ _ _,hx⟩
theorem lV (R k:Nat)(h:aO)(p:OA)(a:Nat)(q:OA)(c2:Nat)(w:World)(hr:Rand w R k)(hk:k≤1099511600000)(hs:h.cells.length≤100∧h.vs.length≤1000)
  (hi:IsHouse w h p h.cells.length a q h.vs.length c2)(hp:0<h.cells.length→ ∀b off,p=some ⟨b,off,none⟩→b≠R)(hq:0<h.vs.length→ ∀b off,q=some ⟨b,off,none⟩→b≠R):
  Calls Tryz.prog 77 #[.pointer (some ⟨R,0,none⟩),bK h p h.cells.length a q h.vs.length c2] w (aDw R k w):=by
 refine uG R k h.aA h.aB h.free h.step h.aE h.aF h.aC h.aG p _ a q _ c2 h.vs (gC h.aA h.aB h.cells) w hr hk hs.2 _ (xQ rfl) ?_ (xQ rfl) (xQ hi.vs) (xQ fun b off h0 e=>hq h0 b off e) (xQ fun w' hx=> ?_)
 ·have h1:=vE h.aA h.aB h.cells;have h2:=Nat.mul_le_mul hs.1 hs.1;omega
 exact zY h.aA h.aB p _ a h.cells w' (hx.sl (b0:=0) hi.cells hp) (by omega)
def aGq (R k:Nat)(w:World)(e:Ending)(w':World):Prop:=
 ∃(h:aO) (p:OA) (cap:Nat) (q:OA) (c2:Nat),e= .returned (bK h p h.cells.length cap q h.vs.length c2)∧h.cells.length≤13∧h.vs.length≤13∧
  w'.ownsRow w.heap.size TI 1 (.slice p h.cells.length cap) h.cells.length (ivs h.cells)∧w'.ownsRow w.heap.size TV 4 (.slice q h.vs.length c2) h.vs.length (h.vs.flatMap aD)∧Rand w' R (k+20000)∧ExtR R w w'
theorem jY {R:Nat}{w0 w:World}{L:List Item}{i j B1 B2 a c2:Nat}{h:aO}{p q:OA}(m:MemR R w0 w L)(hi:L[i]? =some (aJ B1 TI 1 p h.cells.length a (ivs h.cells))) (hj:L[j]? =some (aJ B2 TV 4 q h.vs.length c2 (h.vs.flatMap aD))):IsHouse w h p h.cells.length a q h.vs.length c2:=⟨m.sl hi,m.sl hj⟩
theorem lT {R:Nat}{w0 w:World}{L:List Item}{i B n c sz:Nat}{e:TypeId}{p:OA}{xs:List Value}(m:MemR R w0 w L)(hi:L[i]? =some (aJ B e sz p n c xs)):0<n→ ∀b off,p=some ⟨b,off,none⟩→b≠R:=by intro h0 b off he;obtain⟨g,hg,h1,_⟩:=m.some hi h0;rw[hg]at he;injection he with he;injection he with he;have:=m.old;omega
abbrev hvc (h:aO)(p:OA)(cap:Nat)(q:OA)(c2:Nat):Array Value:=#[h.aA,h.aB,.slice p h.cells.length cap,h.free,h.step,h.aE,h.aF,h.aC,h.aG,.slice q h.vs.length c2]
def nS (lo:Nat)(w:World)(a:Nat):Prop:=
 ∃(h:aO) (p:OA) (cap:Nat) (q:OA) (c2:Nat),Blk w a aL (hvc h p cap q c2)∧Good h∧w.ownsRow lo TI 1 (.slice p h.cells.length cap) h.cells.length (ivs h.cells)∧w.ownsRow lo TV 4 (.slice q h.vs.length c2) h.vs.length (h.vs.flatMap aD)
structure RG (R lo:Nat) (w w':World):Prop where
 os:w'.os=w.os
 tape:w'.tape=w.tape
 output:w'.output=w.output
 size:w.heap.size≤w'.heap.size
 block: ∀i,i<w.heap.size→i≠R→w'.heap[i]? =w.heap[i]? ∨(lo≤i∧(∃cs,Blk w i aL cs)∧nS lo w' i)
theorem RG.refl (R lo:Nat)(w:World):RG R lo w w:=⟨rfl,rfl,rfl,Nat.le_refl _,fun i _ _=> .inl rfl⟩
theorem RG.ofR {R lo:Nat}{w w':World}(h:ExtR R w w'):RG R lo w w':=⟨h.os,h.tape,h.output,h.size,fun i hi hne=> .inl (h.block i hi (fun e=>hne (by injection e)))⟩
theorem RG.ofE {R lo:Nat}{w w':World}(h:Ext w w'):RG R lo w w':=RG.ofR (h.r R)
theorem tG {w:World}{b1 s1 n1:Nat}{e1:TypeId}{v1:Value}{a:List Value}{g:Nat}{t:TypeId}{cs:Array Value}(h1:w.ownsRow b1 e1 s1 v1 n1 a)(h2:Blk w g t cs)(ne:e1≠t):v1.ownBlock≠some g:=by
 intro hg;rcases h1.2 with⟨b1,_⟩|⟨g1,cap1,cur1,b1,_,b3,_⟩
 ·rw[b1]at hg;cases hg
 rw[b1]at hg;injection hg with hg;have x1:g1=g:=hg;subst x1;unfold Blk at h2;rw[h2]at b3;injection b3 with b3;injection b3 with _ b3;exact ne b3.symm
theorem RG.own {R lo B n sz:Nat}{e:TypeId}{w w':World}{v:Value}{xs:List Value}(h:RG R lo w w')(ho:w.ownsRow B e sz v n xs)(hB:R<B)(he:e≠aL):w'.ownsRow B e sz v n xs:=by
 refine jL ho (fun g hg=> ?_);have hl:=World.ownsRow.lt ho g hg;rcases h.block g hl.2 (by omega)with h1|⟨_,⟨cs,hb⟩,_⟩
 ·exact h1
 exfalso;rcases ho.2 with⟨b1,_⟩|⟨g1,cap1,cur1,b1,_,b3,_⟩
 ·rw[b1]at hg;cases hg
 rw[b1]at hg;injection hg with hg;have x1:g1=g:=hg;subst x1;unfold Blk at hb;rw[hb]at b3;injection b3 with b3;injection b3 with _ b3;exact he b3.symm
theorem RG.house {R lo a:Nat}{w w':World}(h:RG R lo w w')(hR:R<lo)(ha:lo≤a)(hb:nS lo w a):nS lo w' a:=by
 obtain⟨h2,p,b,q,c2,b1,b2,b3,b4⟩:=hb;rcases h.block a b1.lt (by omega)with h1|⟨_,_,h1⟩
 ·exact⟨h2,p,b,q,c2,by unfold Blk at*;rw[h1];exact b1,b2,h.own b3 hR (by decide),h.own b4 hR (by decide)⟩
 exact h1
theorem RG.trans {R lo:Nat}{a b c:World}(hR:R<lo)(h:RG R lo a b)(k:RG R lo b c):RG R lo a c:=
 ⟨k.os.trans h.os,k.tape.trans h.tape,k.output.trans h.output,Nat.le_trans h.size k.size,fun i hi hne=>by
  rcases h.block i hi hne with h1|⟨l1,h2,h3⟩
  ·rcases k.block i (Nat.lt_of_lt_of_le hi h.size) hne with k1|⟨l2,⟨cs,k2⟩,k3⟩
   ·exact .inl (k1.trans h1)
   exact .inr ⟨l2,⟨cs,by unfold Blk at*;rw[←h1];exact k2⟩,k3⟩
  ·exact .inr ⟨l1,h2,k.house hR l1 h3⟩⟩
theorem RG.extR {R:Nat}{w w':World}(h:RG R w.heap.size w.drew w'):ExtR R w w':=
 ⟨h.os,h.tape,h.output,h.size,fun i hi hne=>by
  rcases h.block i hi (fun e=>hne (by rw[e]))with h1|⟨h2,_⟩
  ·exact h1
  ·omega⟩
theorem yO {lo:Nat}(w:World):nS lo (w.alloc (.cells #[(),(),((),()),(),(),(),(),(),(),((),())] aL)) w.heap.size:=
 ⟨gH,none,0,none,0,Blk.new _ _ _,.inr rfl,World.ownsRow_nil _ _ _ _,World.ownsRow_nil _ _ _ _⟩
theorem RG.put {R lo g:Nat}{w w':World}{cs:Array Value}{h:aO}{p q:OA}{a c2:Nat}(hx:ExtR g w w')(hl:lo≤g)(hb:Blk w g aL cs)(b:Blk w' g aL (hvc h p a q c2))(hg:Good h)
  (h1:w.ownsRow lo TI 1 (.slice p h.cells.length a) h.cells.length (ivs h.cells))(h2:w.ownsRow lo TV 4 (.slice q h.vs.length c2) h.vs.length (h.vs.flatMap aD)):RG R lo w w':=
 ⟨hx.os,hx.tape,hx.output,hx.size,fun i hi hne=>by
  by_cases e:i=g
  ·subst e;refine .inr ⟨hl,⟨cs,hb⟩,h,p,a,q,c2,b,hg,?_,?_⟩
   ·exact jL h1 (fun k hk=>hx.block k (World.ownsRow.lt h1 k hk).2 (fun e=>tG h1 hb (by decide) (by rw[hk];exact e)))
   exact jL h2 (fun k hk=>hx.block k (World.ownsRow.lt h2 k hk).2 (fun e=>tG h2 hb (by decide) (by rw[hk];exact e)))
  ·exact .inl (hx.block i hi (fun e'=>e (by injection e')))⟩
end Go.Proofs.YtpelpnfhbepokaaGreatDoor
