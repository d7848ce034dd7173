/-
  Texts of this proof, packed (@packed).
-/
import Derived.Test.YteejdnmmpmcmeaaGreatDoorP2
import Derived.Test.YteejdnmmpmcmeaaGreatDoorP3
import Derived.Test.YteejdnmmpmcmeaaGreatDoorP5
import Derived.Test.YteejdnmmpmcmeaaGreatDoorP22
import Derived.Test.YteejdnmmpmcmeaaGreatDoorP28
namespace Go.Proofs.YteejdnmmpmcmeaaGreatDoor
open Go.RowKit
set_option linter.unusedVariables false
theorem RetHouse.is {h:aV}{w w':World}{p q:Option Addr}{cap c2:Nat}(ho:w'.ownsRow w.heap.size TI 1 (.slice p h.cells.length cap) h.cells.length (ivs h.cells))(hv:w'.ownsRow w.heap.size TV 4 (.slice q h.vs.length c2) h.vs.length (h.vs.flatMap aE)):
  IsHouse w' h p h.cells.length cap q h.vs.length c2:=⟨Sl.own ho,Sl.own hv⟩
def aEy (R k:Nat)(w:World)(e:Ending)(w':World):Prop:= ∃f s p c:Int,e= .returned (bD f s p c)∧Rand w' R (k+7)∧ExtR R w w'
theorem Blk.fourf {w:World}{g:Nat}{t:TypeId}{a b c d:Value}(h:Blk w g t #[a,b,c,d]):w.cell? ⟨g,0,none⟩=some a∧w.cell? ⟨g,1,none⟩=some b∧w.cell? ⟨g,2,none⟩=some c∧w.cell? ⟨g,3,none⟩=some d∧w.frozen? ⟨g,0,none⟩=false∧w.frozen? ⟨g,1,none⟩=false∧w.frozen? ⟨g,2,none⟩=false∧w.frozen? ⟨g,3,none⟩=false:=
 ⟨h.cell 0,h.cell 1,h.cell 2,h.cell 3,h.frozen 0,h.frozen 1,h.frozen 2,h.frozen 3⟩
theorem Blk.two {w:World}{g:Nat}{t:TypeId}{a b:Value}(h:Blk w g t #[a,b]):w.cell? ⟨g,0,none⟩=some a∧w.cell? ⟨g,1,none⟩=some b:=⟨h.cell 0,h.cell 1⟩
set_option maxRecDepth 100000 in
set_option maxHeartbeats 1000000 in
set_option maxHeartbeats 40000000 in
theorem xJ (R k:Nat)(n:Int)(w:World)(hr:Rand w R k)(hk:k≤1099511627700)(hn:0≤n)(hn2:n≤1000000):
  Calls Tryz.prog 115 #[.pointer (some ⟨R,0,none⟩),.int .i64 n] w (aEy R k w):=by
 have hR:=hr.lt
 go_enter Tryz.func115,Tryz.ntmps115
 go_wp2_with fail
 refine(bS R (k) (4) _ (hr.ext (by exact .alloc (.refl _) _)) (by omega)).mono ?_
 rintro e w1 ⟨a,rfl,a0,a1,r1,x1⟩
 replace a1:a<4:=by omega
 have B1:Blk w1 w.heap.size 27 #[.int .i64 0,.int .i64 0,.int .i64 0,.int .i64 0]:=x1.blk (Blk.new _ _ _) (by omega)
 go_wp2_with fail
 refine(bS R (k+1) (6) _ (r1) (by omega)).mono ?_
 rintro e w2 ⟨b,rfl,b0,b1,r2,x2⟩
 replace b1:b<6:=by omega
 go_wp2_with fail
 refine(bS R (k+2) (9) _ (r2) (by omega)).mono ?_
 rintro e w3 ⟨c,rfl,c0,c1,r3,x3⟩
 replace c1:c<9:=by omega
 go_wp2_with fail
 refine(bS R (k+3) (60) _ (r3) (by omega)).mono ?_
 rintro e w4 ⟨d,rfl,d0,d1,r4,x4⟩
 replace d1:d<60:=by omega
 have B4:=x4.blk (x3.blk (x2.blk B1 (by omega)) (by omega)) (by omega)
 have X4:ExtR R w w4:=(((((ExtR.refl R w).alloc _).trans x1).trans x2).trans x3).trans x4
 have s4:=B4.lt
 have hR4:=r4.lt
 clear B1 x1 x2 x3 x4 r1 r2 r3 hr
 go_wp2_with fail
 refine(aF7 R (k+4) n _ (r4.ext (by exact .alloc (.refl _) _)) (by omega) hn hn2).mono ?_
 rintro e w5 ⟨t,rfl,r5,x5⟩
 have B5:=x5.blk (B4.alloc _) (by omega)
 have T5:=x5.blk (Blk.new w4 _ _) (by omega)
 have X5:ExtR R w w5:=(X4.alloc _).trans x5
 have s5:=T5.lt
 have hR5:=r5.lt
 clear B4 X4 x5 r4
 cases t with
 |false=>
  obtain⟨p0,p1,p2,p3,p4,p5,p6,p7⟩:=B5.fourf
  obtain⟨q0,q1,q2,q3,q4,q5,q6,q7⟩:=T5.fourf
  have hne:w4.heap.size≠w.heap.size:=by omega
  clear B5 T5
  go_wp2
  refine bodyPost_ret (v:=bD (a*10) (10+b*20) c (10+d)) (by simp[results,Tryz.results115,go_sem, *]) rfl ⟨_,_,_,_,rfl,?_,?_⟩
  ·exact Rand.mono (k:=k+4+1) xN (by omega)
  ·exact xR
 |true=>
  go_wp2_with fail
  refine(bS R (k+5) (3) _ (r5) (by omega)).mono ?_
  rintro e w6 ⟨u,rfl,u0,u1,r6,x6⟩
  replace u1:u<3:=by omega
  have B6:=x6.blk B5 (by omega)
  have T6:=x6.blk T5 (by omega)
  have X6:=xQ (X5.trans x6)
  have s6:=T6.lt
  have hR6:=r6.lt
  clear B5 T5 x6 X5 r5
  have hu:u=0∨u=1∨u=2:=by omega
  clear u0 u1
  rcases hu with rfl|rfl|rfl
  ·skip
   go_wp2_with fail
   refine(bS R (k+6) (2) _ (r6.ext (by exact .alloc (.refl _) _)) (by omega)).mono ?_
   rintro e w7 ⟨v,rfl,v0,v1,r7,x7⟩
   replace v1:v<2:=by omega
   have B7:=x7.blk (B6.alloc _) (by omega)
   have T7:=x7.blk (T6.alloc _) (by omega)
   have S7:=x7.blk (Blk.new w6 _ _) (by omega)
   have X7:=xQ ((X6.out.alloc _).trans x7)
   have s7:=S7.lt
   have hR7:=r7.lt
   obtain⟨p0,p1,p2,p3,p4,p5,p6,p7⟩:=B7.fourf
   obtain⟨q0,q1,q2,q3,q4,q5,q6,q7⟩:=T7.fourf
   obtain⟨g0,g1⟩:=S7.two
   have hne:w4.heap.size≠w.heap.size:=by omega
   have hne2:w6.heap.size≠w4.heap.size:=by omega
   have hne3:w6.heap.size≠w.heap.size:=by omega
   clear B6 T6 B7 T7 S7 x7 r6
   have XX:=X7.out
   have hv:v=0∨v=1:=by omega
   clear v0 v1 X6 X7
   rcases hv with rfl|rfl
   ·go_wp2
    refine bodyPost_ret (v:=bD (a*10) 0 c (10+d)) (by simp[results,Tryz.results115,go_sem, *]) rfl ⟨_,_,_,_,rfl,?_,?_⟩
    ·exact xN
    ·exact xR
   ·go_wp2
    refine bodyPost_ret (v:=bD (a*10) 1441 c (10+d)) (by simp[results,Tryz.results115,go_sem, *]) rfl ⟨_,_,_,_,rfl,?_,?_⟩
    ·exact xN
    ·exact xR
  ·skip
   go_wp2_with fail
   refine(bS R (k+6) (2) _ (r6.ext (by exact .alloc (.refl _) _)) (by omega)).mono ?_
   rintro e w7 ⟨v,rfl,v0,v1,r7,x7⟩
   replace v1:v<2:=by omega
   have B7:=x7.blk (B6.alloc _) (by omega)
   have T7:=x7.blk (T6.alloc _) (by omega)
   have S7:=x7.blk (Blk.new w6 _ _) (by omega)
   have X7:=xQ ((X6.out.alloc _).trans x7)
   have s7:=S7.lt
   have hR7:=r7.lt
   obtain⟨p0,p1,p2,p3,p4,p5,p6,p7⟩:=B7.fourf
   obtain⟨q0,q1,q2,q3,q4,q5,q6,q7⟩:=T7.fourf
   obtain⟨g0,g1⟩:=S7.two
   have hne:w4.heap.size≠w.heap.size:=by omega
   have hne2:w6.heap.size≠w4.heap.size:=by omega
   have hne3:w6.heap.size≠w.heap.size:=by omega
   clear B6 T6 B7 T7 S7 x7 r6
   have XX:=X7.out
   have hv:v=0∨v=1:=by omega
   clear v0 v1 X6 X7
   rcases hv with rfl|rfl
   ·go_wp2
    refine bodyPost_ret (v:=bD (-1) (10+b*20) c (10+d)) (by simp[results,Tryz.results115,go_sem, *]) rfl ⟨_,_,_,_,rfl,?_,?_⟩
    ·exact xN
    ·exact xR
   ·go_wp2
    refine bodyPost_ret (v:=bD 1440 (10+b*20) c (10+d)) (by simp[results,Tryz.results115,go_sem, *]) rfl ⟨_,_,_,_,rfl,?_,?_⟩
    ·exact xN
    ·exact xR
  ·skip
   go_wp2_with fail
   refine(bS R (k+6) (2) _ (r6.ext (by exact .alloc (.refl _) _)) (by omega)).mono ?_
   rintro e w7 ⟨v,rfl,v0,v1,r7,x7⟩
   replace v1:v<2:=by omega
   have B7:=x7.blk (B6.alloc _) (by omega)
   have T7:=x7.blk (T6.alloc _) (by omega)
   have S7:=x7.blk (Blk.new w6 _ _) (by omega)
   have X7:=xQ ((X6.out.alloc _).trans x7)
   have s7:=S7.lt
   have hR7:=r7.lt
   obtain⟨p0,p1,p2,p3,p4,p5,p6,p7⟩:=B7.fourf
   obtain⟨q0,q1,q2,q3,q4,q5,q6,q7⟩:=T7.fourf
   obtain⟨g0,g1⟩:=S7.two
   have hne:w4.heap.size≠w.heap.size:=by omega
   have hne2:w6.heap.size≠w4.heap.size:=by omega
   have hne3:w6.heap.size≠w.heap.size:=by omega
   clear B6 T6 B7 T7 S7 x7 r6
   have XX:=X7.out
   have hv:v=0∨v=1:=by omega
   clear v0 v1 X6 X7
   rcases hv with rfl|rfl
   ·go_wp2
    refine bodyPost_ret (v:=bD (a*10) (10+b*20) c (-1)) (by simp[results,Tryz.results115,go_sem, *]) rfl ⟨_,_,_,_,rfl,?_,?_⟩
    ·exact xN
    ·exact xR
   ·go_wp2
    refine bodyPost_ret (v:=bD (a*10) (10+b*20) c 100) (by simp[results,Tryz.results115,go_sem, *]) rfl ⟨_,_,_,_,rfl,?_,?_⟩
    ·exact xN
    ·exact xR
set_option linter.unusedSimpArgs false
def nU (aA aB f s p c:Int):aV:=if bJ f s p c=true∧2≤aA∧aA≤4∧2≤aB∧aB≤3 then⟨aA,aB,List.replicate (aA*aB).toNat 0,f,s,p,c,0,0,[]⟩else bT
theorem aE3 {w w':World}{W D:Int}{xs:List Int}{f s p c:Int}{q:Option Addr}{cap:Nat}(ho:w'.ownsRow w.heap.size TI 1 (.slice q xs.length cap) xs.length (ivs xs))(hx:Ext w w'):
  RetHouse ⟨W,D,xs,f,s,p,c,0,0,[]⟩ w (.returned (cH ⟨W,D,xs,f,s,p,c,0,0,[]⟩ q xs.length cap none 0 0)) w':=⟨q,cap,none,0,rfl,ho,World.ownsRow_nil _ _ _ _,hx⟩
theorem aE9 {w:World}{B n:Nat}{q:Option Addr}{cap:Nat}{xs:List Value}{g:Nat}{t:TypeId}{cs:Array Value}(ho:w.ownsRow B TI 1 (.slice q n cap) n xs)(hb:Blk w g t cs)(ht:t≠TI):(Value.slice q n cap).ownBlock≠some g:=by
 intro he
 rcases ho.2 with⟨h1,h2⟩|⟨g',cap',cur,h1,hb',hg,hn,hm,hs,ht'⟩
 ·injection h1 with e1;subst e1;simp[Value.ownBlock]at he
 ·injection h1 with e1 e2 e3
  subst e1
  simp[Value.ownBlock]at he
  subst he
  unfold Blk at hb
  rw[hb]at hg
  injection hg with e;injection e with e1 e2
  exact ht e2
set_option maxRecDepth 100000 in
set_option maxHeartbeats 1000000 in
theorem aDp (aA aB free step aD aH W D:Int)(xs:List Int)(w:World)(tok:Bool)(HE:Hid (∀w',Ext w w'→Calls Tryz.prog 145 #[.int .i64 aA,.int .i64 aB] w' (eX W D xs w')))
  (HV:Hid (∀w' p c,Sl w' p xs.length c 1 (ivs xs)→Calls Tryz.prog 64 #[aJ W D p xs.length c] w' fun e w''=>e= .returned (.bool false)∧Ext w' w''))
  (HT:Hid (∀w',Calls Tryz.prog 65 #[bD free step aD aH] w' fun e w''=>e= .returned (.bool tok)∧Ext w' w'')):
  Calls Tryz.prog 114 #[.int .i64 aA,.int .i64 aB,bD free step aD aH] w (RetHouse bT w):=by
 go_enter Tryz.func114,Tryz.ntmps114
 go_wp2_with fail
 refine(HE.out _ (by exact .alloc (.alloc (.refl _) _) _)).mono ?_
 rintro e w1 ⟨p1,c1,rfl,o1,hx1⟩
 have BT:Blk w1 (w.heap.size) 27 #[.int .i64 free,.int .i64 step,.int .i64 aD,.int .i64 aH]:=by have:=(Blk.new w 27 #[.int .i64 free,.int .i64 step,.int .i64 aD,.int .i64 aH]).ext (((Ext.refl _).alloc _).trans hx1);simpa using this
 have BZ:Blk w1 (w.heap.size+1) 30 #[.int .i64 0,.int .i64 0,.slice none 0 0,.int .i64 0,.int .i64 0,.int .i64 0,.int .i64 0,.int .i64 0,.int .i64 0,.slice none 0 0]:=by have:=(Blk.new (w.alloc (.cells #[.int .i64 free,.int .i64 step,.int .i64 aD,.int .i64 aH] 27)) 30 #[.int .i64 0,.int .i64 0,.slice none 0 0,.int .i64 0,.int .i64 0,.int .i64 0,.int .i64 0,.int .i64 0,.int .i64 0,.slice none 0 0]).ext ((Ext.refl _).trans hx1);simpa using this
 have X1:=xQ (show Ext w w1 by exact .trans (.alloc (.alloc (.refl _) _) _) hx1)
 have O1:=xQ (aZ o1 (show w.heap.size≤_ by simp;omega))
 have H1:=xQ (Sl.own O1.out)
 have BTH:=xQ BT
 have BZH:=xQ BZ
 have s1:w.heap.size+1<w1.heap.size:=BZ.lt
 clear BT BZ o1 hx1
 go_wp2_with fail
 refine(HV.out _ _ _ (H1.out.ext (by exact .alloc (.refl _) _))).mono ?_
 rintro e w2 ⟨rfl,hx2⟩
 have BH2:=xQ ((Blk.new w1 25 #[.int .i64 W,.int .i64 D,.slice p1 xs.length c1]).ext hx2)
 have hy2:Ext w1 w2:=by exact .trans (.alloc (.refl _) _) hx2
 have BT2:=xQ (BTH.out.ext hy2)
 have BZ2:=xQ (BZH.out.ext hy2)
 have O2:=xQ (aO O1.out hy2)
 have X2:=xQ (X1.out.trans hy2)
 have s2:w1.heap.size<w2.heap.size:=BH2.out.lt
 clear hx2 hy2 BTH BZH O1 X1 H1
 obtain⟨z0,zf0,z1,zf1,z2,zf2,z3,zf3,z4,zf4,z5,zf5,z6,zf6,z7,zf7,z8,zf8,z9,zf9⟩:=(BZ2.out).tenf
 go_wp2
 exact bodyPost_ret (v:= .agg #[.int .i64 0,.int .i64 0,.slice none 0 0,.int .i64 0,.int .i64 0,.int .i64 0,.int .i64 0,.int .i64 0,.int .i64 0,.slice none 0 0]) (by simp[results,Tryz.results114,go_sem, *]) rfl ⟨none,0,none,0,rfl,World.ownsRow_nil _ _ _ _,World.ownsRow_nil _ _ _ _,((((((((((X2.out.setCell (p:=⟨w.heap.size+1,0,none⟩) (by dsimp only;omega) (.int .i64 0)).setCell (p:=⟨w.heap.size+1,1,none⟩) (by dsimp only;omega) (.int .i64 0)).setCell (p:=⟨w.heap.size+1,2,none⟩) (by dsimp only;omega) (.slice none 0 0)).setCell (p:=⟨w.heap.size+1,3,none⟩) (by dsimp only;omega) (.int .i64 0)).setCell (p:=⟨w.heap.size+1,4,none⟩) (by dsimp only;omega) (.int .i64 0)).setCell (p:=⟨w.heap.size+1,5,none⟩) (by dsimp only;omega) (.int .i64 0)).setCell (p:=⟨w.heap.size+1,6,none⟩) (by dsimp only;omega) (.int .i64 0)).setCell (p:=⟨w.heap.size+1,7,none⟩) (by dsimp only;omega) (.int .i64 0)).setCell (p:=⟨w.heap.size+1,8,none⟩) (by dsimp only;omega) (.int .i64 0)).setCell (p:=⟨w.heap.size+1,9,none⟩) (by dsimp only;omega) (.slice none 0 0))⟩
set_option maxRecDepth 100000 in
set_option maxHeartbeats 1000000 in
theorem aDo (aA aB free step aD aH W D:Int)(xs:List Int)(w:World)(tok:Bool)(HE:Hid (∀w',Ext w w'→Calls Tryz.prog 145 #[.int .i64 aA,.int .i64 aB] w' (eX W D xs w')))
  (HV:Hid (∀w' p c,Sl w' p xs.length c 1 (ivs xs)→Calls Tryz.prog 64 #[aJ W D p xs.length c] w' fun e w''=>e= .returned (.bool true)∧Ext w' w''))
  (HT:Hid (∀w',Calls Tryz.prog 65 #[bD free step aD aH] w' fun e w''=>e= .returned (.bool false)∧Ext w' w'')):
  Calls Tryz.prog 114 #[.int .i64 aA,.int .i64 aB,bD free step aD aH] w (RetHouse bT w):=by
 go_enter Tryz.func114,Tryz.ntmps114
 go_wp2_with fail
 refine(HE.out _ (by exact .alloc (.alloc (.refl _) _) _)).mono ?_
 rintro e w1 ⟨p1,c1,rfl,o1,hx1⟩
 have BT:Blk w1 (w.heap.size) 27 #[.int .i64 free,.int .i64 step,.int .i64 aD,.int .i64 aH]:=by have:=(Blk.new w 27 #[.int .i64 free,.int .i64 step,.int .i64 aD,.int .i64 aH]).ext (((Ext.refl _).alloc _).trans hx1);simpa using this
 have BZ:Blk w1 (w.heap.size+1) 30 #[.int .i64 0,.int .i64 0,.slice none 0 0,.int .i64 0,.int .i64 0,.int .i64 0,.int .i64 0,.int .i64 0,.int .i64 0,.slice none 0 0]:=by have:=(Blk.new (w.alloc (.cells #[.int .i64 free,.int .i64 step,.int .i64 aD,.int .i64 aH] 27)) 30 #[.int .i64 0,.int .i64 0,.slice none 0 0,.int .i64 0,.int .i64 0,.int .i64 0,.int .i64 0,.int .i64 0,.int .i64 0,.slice none 0 0]).ext ((Ext.refl _).trans hx1);simpa using this
 have X1:=xQ (show Ext w w1 by exact .trans (.alloc (.alloc (.refl _) _) _) hx1)
 have O1:=xQ (aZ o1 (show w.heap.size≤_ by simp;omega))
 have H1:=xQ (Sl.own O1.out)
 have BTH:=xQ BT
 have BZH:=xQ BZ
 have s1:w.heap.size+1<w1.heap.size:=BZ.lt
 clear BT BZ o1 hx1
 go_wp2_with fail
 refine(HV.out _ _ _ (H1.out.ext (by exact .alloc (.refl _) _))).mono ?_
 rintro e w2 ⟨rfl,hx2⟩
 have BH2:=xQ ((Blk.new w1 25 #[.int .i64 W,.int .i64 D,.slice p1 xs.length c1]).ext hx2)
 have hy2:Ext w1 w2:=by exact .trans (.alloc (.refl _) _) hx2
 have BT2:=xQ (BTH.out.ext hy2)
 have BZ2:=xQ (BZH.out.ext hy2)
 have O2:=xQ (aO O1.out hy2)
 have X2:=xQ (X1.out.trans hy2)
 have s2:w1.heap.size<w2.heap.size:=BH2.out.lt
 clear hx2 hy2 BTH BZH O1 X1 H1
 have t0:w2.cell? ⟨w.heap.size,0,none⟩=some (.int .i64 free):=BT2.out.cell 0
 have t1:w2.cell? ⟨w.heap.size,1,none⟩=some (.int .i64 step):=BT2.out.cell 1
 have t2:w2.cell? ⟨w.heap.size,2,none⟩=some (.int .i64 aD):=BT2.out.cell 2
 have t3:w2.cell? ⟨w.heap.size,3,none⟩=some (.int .i64 aH):=BT2.out.cell 3
 go_wp2_with fail
 clear t0 t1 t2 t3
 refine(HT.out _).mono ?_
 rintro e w3 ⟨rfl,hx3⟩
 have BT3:=xQ (BT2.out.ext hx3)
 have BZ3:=xQ (BZ2.out.ext hx3)
 have BH3:=xQ (BH2.out.ext hx3)
 have O3:=xQ (aO O2.out hx3)
 have X3:=xQ (X2.out.trans hx3)
 have s3:w2.heap.size≤w3.heap.size:=hx3.sz
 clear hx3 BT2 BZ2 BH2 O2 X2
 obtain⟨z0,zf0,z1,zf1,z2,zf2,z3,zf3,z4,zf4,z5,zf5,z6,zf6,z7,zf7,z8,zf8,z9,zf9⟩:=(BZ3.out).tenf
 go_wp2
 exact bodyPost_ret (v:= .agg #[.int .i64 0,.int .i64 0,.slice none 0 0,.int .i64 0,.int .i64 0,.int .i64 0,.int .i64 0,.int .i64 0,.int .i64 0,.slice none 0 0]) (by simp[results,Tryz.results114,go_sem, *]) rfl ⟨none,0,none,0,rfl,World.ownsRow_nil _ _ _ _,World.ownsRow_nil _ _ _ _,((((((((((X3.out.setCell (p:=⟨w.heap.size+1,0,none⟩) (by dsimp only;omega) (.int .i64 0)).setCell (p:=⟨w.heap.size+1,1,none⟩) (by dsimp only;omega) (.int .i64 0)).setCell (p:=⟨w.heap.size+1,2,none⟩) (by dsimp only;omega) (.slice none 0 0)).setCell (p:=⟨w.heap.size+1,3,none⟩) (by dsimp only;omega) (.int .i64 0)).setCell (p:=⟨w.heap.size+1,4,none⟩) (by dsimp only;omega) (.int .i64 0)).setCell (p:=⟨w.heap.size+1,5,none⟩) (by dsimp only;omega) (.int .i64 0)).setCell (p:=⟨w.heap.size+1,6,none⟩) (by dsimp only;omega) (.int .i64 0)).setCell (p:=⟨w.heap.size+1,7,none⟩) (by dsimp only;omega) (.int .i64 0)).setCell (p:=⟨w.heap.size+1,8,none⟩) (by dsimp only;omega) (.int .i64 0)).setCell (p:=⟨w.heap.size+1,9,none⟩) (by dsimp only;omega) (.slice none 0 0))⟩
set_option maxRecDepth 100000 in
set_option maxHeartbeats 1000000 in
theorem aDn (aA aB free step aD aH W D:Int)(xs:List Int)(w:World)(tok:Bool)(HE:Hid (∀w',Ext w w'→Calls Tryz.prog 145 #[.int .i64 aA,.int .i64 aB] w' (eX W D xs w')))
  (HV:Hid (∀w' p c,Sl w' p xs.length c 1 (ivs xs)→Calls Tryz.prog 64 #[aJ W D p xs.length c] w' fun e w''=>e= .returned (.bool true)∧Ext w' w''))
  (HT:Hid (∀w',Calls Tryz.prog 65 #[bD free step aD aH] w' fun e w''=>e= .returned (.bool true)∧Ext w' w'')):
  Calls Tryz.prog 114 #[.int .i64 aA,.int .i64 aB,bD free step aD aH] w (RetHouse ⟨W,D,xs,free,step,aD,aH,0,0,[]⟩ w):=by
 go_enter Tryz.func114,Tryz.ntmps114
 go_wp2_with fail
 refine(HE.out _ (by exact .alloc (.alloc (.refl _) _) _)).mono ?_
 rintro e w1 ⟨p1,c1,rfl,o1,hx1⟩
 have BT:Blk w1 (w.heap.size) 27 #[.int .i64 free,.int .i64 step,.int .i64 aD,.int .i64 aH]:=by have:=(Blk.new w 27 #[.int .i64 free,.int .i64 step,.int .i64 aD,.int .i64 aH]).ext (((Ext.refl _).alloc _).trans hx1);simpa using this
 have BZ:Blk w1 (w.heap.size+1) 30 #[.int .i64 0,.int .i64 0,.slice none 0 0,.int .i64 0,.int .i64 0,.int .i64 0,.int .i64 0,.int .i64 0,.int .i64 0,.slice none 0 0]:=by have:=(Blk.new (w.alloc (.cells #[.int .i64 free,.int .i64 step,.int .i64 aD,.int .i64 aH] 27)) 30 #[.int .i64 0,.int .i64 0,.slice none 0 0,.int .i64 0,.int .i64 0,.int .i64 0,.int .i64 0,.int .i64 0,.int .i64 0,.slice none 0 0]).ext ((Ext.refl _).trans hx1);simpa using this
 have X1:=xQ (show Ext w w1 by exact .trans (.alloc (.alloc (.refl _) _) _) hx1)
 have O1:=xQ (aZ o1 (show w.heap.size≤_ by simp;omega))
 have H1:=xQ (Sl.own O1.out)
 have BTH:=xQ BT
 have BZH:=xQ BZ
 have s1:w.heap.size+1<w1.heap.size:=BZ.lt
 clear BT BZ o1 hx1
 go_wp2_with fail
 refine(HV.out _ _ _ (H1.out.ext (by exact .alloc (.refl _) _))).mono ?_
 rintro e w2 ⟨rfl,hx2⟩
 have BH2:=xQ ((Blk.new w1 25 #[.int .i64 W,.int .i64 D,.slice p1 xs.length c1]).ext hx2)
 have hy2:Ext w1 w2:=by exact .trans (.alloc (.refl _) _) hx2
 have BT2:=xQ (BTH.out.ext hy2)
 have BZ2:=xQ (BZH.out.ext hy2)
 have O2:=xQ (aO O1.out hy2)
 have X2:=xQ (X1.out.trans hy2)
 have s2:w1.heap.size<w2.heap.size:=BH2.out.lt
 clear hx2 hy2 BTH BZH O1 X1 H1
 have t0:w2.cell? ⟨w.heap.size,0,none⟩=some (.int .i64 free):=BT2.out.cell 0
 have t1:w2.cell? ⟨w.heap.size,1,none⟩=some (.int .i64 step):=BT2.out.cell 1
 have t2:w2.cell? ⟨w.heap.size,2,none⟩=some (.int .i64 aD):=BT2.out.cell 2
 have t3:w2.cell? ⟨w.heap.size,3,none⟩=some (.int .i64 aH):=BT2.out.cell 3
 go_wp2_with fail
 clear t0 t1 t2 t3
 refine(HT.out _).mono ?_
 rintro e w3 ⟨rfl,hx3⟩
 have BT3:=xQ (BT2.out.ext hx3)
 have BZ3:=xQ (BZ2.out.ext hx3)
 have BH3:=xQ (BH2.out.ext hx3)
 have O3:=xQ (aO O2.out hx3)
 have X3:=xQ (X2.out.trans hx3)
 have s3:w2.heap.size≤w3.heap.size:=hx3.sz
 clear hx3 BT2 BZ2 BH2 O2 X2
 have t0:w3.cell? ⟨w.heap.size,0,none⟩=some (.int .i64 free):=BT3.out.cell 0
 have t1:w3.cell? ⟨w.heap.size,1,none⟩=some (.int .i64 step):=BT3.out.cell 1
 have t2:w3.cell? ⟨w.heap.size,2,none⟩=some (.int .i64 aD):=BT3.out.cell 2
 have t3:w3.cell? ⟨w.heap.size,3,none⟩=some (.int .i64 aH):=BT3.out.cell 3
 have h0:w3.cell? ⟨w1.heap.size,0,none⟩=some (.int .i64 W):=BH3.out.cell 0
 have h1:w3.cell? ⟨w1.heap.size,1,none⟩=some (.int .i64 D):=BH3.out.cell 1
 have h2:w3.cell? ⟨w1.heap.size,2,none⟩=some (.slice p1 xs.length c1):=BH3.out.cell 2
 obtain⟨z0,zf0,z1,zf1,z2,zf2,z3,zf3,z4,zf4,z5,zf5,z6,zf6,z7,zf7,z8,zf8,z9,zf9⟩:=(BZ3.out).tenf
 go_wp2
 generalize hw5:World.setCell _ _ _=w5
 have hR:ExtR (w.heap.size+1) w3 w5:=by rw[←hw5];exact((((((((((ExtR.refl (w.heap.size+1) w3).setCell (p:=⟨w.heap.size+1,0,none⟩) (.inl rfl) (.int .i64 W)).setCell (p:=⟨w.heap.size+1,1,none⟩) (.inl rfl) (.int .i64 D)).setCell (p:=⟨w.heap.size+1,2,none⟩) (.inl rfl) (.slice p1 xs.length c1)).setCell (p:=⟨w.heap.size+1,3,none⟩) (.inl rfl) (.int .i64 free)).setCell (p:=⟨w.heap.size+1,4,none⟩) (.inl rfl) (.int .i64 step)).setCell (p:=⟨w.heap.size+1,5,none⟩) (.inl rfl) (.int .i64 aD)).setCell (p:=⟨w.heap.size+1,6,none⟩) (.inl rfl) (.int .i64 aH)).setCell (p:=⟨w.heap.size+1,7,none⟩) (.inl rfl) (.int .i64 0)).setCell (p:=⟨w.heap.size+1,8,none⟩) (.inl rfl) (.int .i64 0)).setCell (p:=⟨w.heap.size+1,9,none⟩) (.inl rfl) (.slice none 0 0)
 have O5:=O3.out.kept hR (.inr (aE9 O3.out BZ3.out (by decide)))
 have X5:=ExtR.new X3.out hR (by omega)
 have Y5:=((((((((((BZ3.out).set 0 (.int .i64 W)).set 1 (.int .i64 D)).set 2 (.slice p1 xs.length c1)).set 3 (.int .i64 free)).set 4 (.int .i64 step)).set 5 (.int .i64 aD)).set 6 (.int .i64 aH)).set 7 (.int .i64 0)).set 8 (.int .i64 0)).set 9 (.slice none 0 0)
 simp only[List.setIfInBounds_toArray,List.set_cons_zero,List.set_cons_succ]at Y5
 rw[hw5]at Y5
 clear hw5 z0 zf0 z1 zf1 z2 zf2 z3 zf3 z4 zf4 z5 zf5 z6 zf6 z7 zf7 z8 zf8 z9 zf9 t0 t1 t2 t3 h0 h1 h2
 obtain⟨y0,y1,y2,y3,y4,y5,y6,y7,y8,y9⟩:=(Y5).ten
 exact bodyPost_ret (v:= .agg #[.int .i64 W,.int .i64 D,.slice p1 xs.length c1,.int .i64 free,.int .i64 step,.int .i64 aD,.int .i64 aH,.int .i64 0,.int .i64 0,.slice none 0 0]) (by simp[results,Tryz.results114,go_sem, *]) rfl (aE3 O5 X5)
theorem aKm (aA aB:Int)(w:World):Calls Tryz.prog 145 #[.int .i64 aA,.int .i64 aB] w (eX (cE aA aB).1 (cE aA aB).2.1 (cE aA aB).2.2 w):=by
 by_cases h:2≤aA∧aA≤4∧2≤aB∧aB≤3
 ·have h1:cE aA aB=(aA,aB,List.replicate (aA*aB).toNat 0):=by unfold cE;rw[if_pos h]
  rw[h1]
  obtain⟨a,b,c,d⟩:=h
  have h4:0≤aA*aB:=Int.mul_nonneg (by omega) (by omega)
  have h5:aA*aB≤12:=by have:=Int.mul_le_mul b d (by omega) (by omega);omega
  exact aFx aA aB (aA*aB).toNat w a b c d h4 h5 (by omega) (by omega)
 ·have h1:cE aA aB=(0,0,[]):=by unfold cE;rw[if_neg h]
  rw[h1]
  exact aDs aA aB w (by omega)
theorem wC {aA aB:Int}(h:2≤aA∧aA≤4∧2≤aB∧aB≤3):aR aA aB (List.replicate (aA*aB).toNat 0)=true:=by
 obtain⟨h0,h1,h2,h3⟩:=h
 have h4:0≤aA*aB:=Int.mul_nonneg (by omega) (by omega)
 unfold aR
 rw[Bool.and_eq_true]
 refine⟨by simp only[fK,decide_eq_true_eq,List.length_replicate];omega,?_⟩
 rw[eI]
 refine⟨fun x hx=> ?_,fun x hx h=> ?_,?_⟩
 ·rw[List.mem_replicate]at hx;omega
 ·rw[List.mem_replicate]at hx;omega
 ·have:(List.replicate (aA*aB).toNat (0:Int)).filter (fun x=>decide (0<x))= []:=by
   rw[List.filter_eq_nil_iff];intro x hx;rw[List.mem_replicate]at hx;simp[hx.2]
  rw[this];exact List.nodup_nil
theorem aCs (aA aB f s p c:Int):nU aA aB f s p c=(if aR (cE aA aB).1 (cE aA aB).2.1 (cE aA aB).2.2&&bJ f s p c then⟨(cE aA aB).1,(cE aA aB).2.1,(cE aA aB).2.2,f,s,p,c,0,0,[]⟩else bT):=by
 unfold nU
 by_cases h:2≤aA∧aA≤4∧2≤aB∧aB≤3
 ·have h1:cE aA aB=(aA,aB,List.replicate (aA*aB).toNat 0):=by unfold cE;rw[if_pos h]
  rw[h1,wC h,Bool.true_and]
  cases bJ f s p c<;>simp[h]
 ·have h1:cE aA aB=(0,0,[]):=by unfold cE;rw[if_neg h]
  rw[h1]
  have h2:aR 0 0 []=false:=by simp[aR,fK]
  rw[h2,Bool.false_and]
  have h3: ¬(bJ f s p c=true∧2≤aA∧aA≤4∧2≤aB∧aB≤3):=fun k=>h k.2
  rw[if_neg h3];rfl
theorem aKl (aA aB free step aD aH:Int)(w:World):Calls Tryz.prog 114 #[.int .i64 aA,.int .i64 aB,bD free step aD aH] w (RetHouse (nU aA aB free step aD aH) w):=by
 have HE:=fun(w':World) (hx:Ext w w')=>aKm aA aB w'
 have HV:=fun(w':World) p c (hS:Sl w' p (cE aA aB).2.2.length c 1 (ivs (cE aA aB).2.2))=>eY (cE aA aB).1 (cE aA aB).2.1 p _ c (cE aA aB).2.2 w' hS
 have HT:=fun(w':World)=>uQ free step aD aH w'
 rw[aCs]
 cases h1:aR (cE aA aB).1 (cE aA aB).2.1 (cE aA aB).2.2 with
 |false=>rw[h1]at HV;cases h2:bJ free step aD aH<;>(rw[h2]at HT;exact aDp aA aB free step aD aH _ _ _ w _ HE HV HT)
 |true=>
  rw[h1]at HV
  cases h2:bJ free step aD aH with
  |false=>rw[h2]at HT;exact aDo aA aB free step aD aH _ _ _ w true HE HV HT
  |true=>rw[h2]at HT;exact aDn aA aB free step aD aH _ _ _ w true HE HV HT
def Good (h:aV):Prop:=bN h=true∨h=bT
theorem Good.small {h:aV}(hg:Good h):h.cells.length≤12∧h.vs.length≤12:=by
 rcases hg with hg|rfl
 ·have:=tA hg;omega
 ·simp[bT]
theorem xM (a b f s p c:Int):Good (nU a b f s p c):=by
 unfold nU
 split
 ·rename_i hc
  left
  have hk:=wC hc.2
  refine(gQ _).2 ⟨hk,hc.1,by simp,?_,by simp⟩
  have e:dH (List.replicate (a*b).toNat (0:Int))= []:=by
   unfold dH
   rw[List.filter_eq_nil_iff]
   intro x hx
   rw[(List.mem_replicate.1 hx).2];simp
  unfold eM
  rw[e];rfl
 ·exact .inr rfl
def aFh (w:World)(e:Ending)(w':World):Prop:=
 ∃(h:aV) (p:Option Addr) (cap:Nat) (q:Option Addr) (c2:Nat) (nn:Int) (ok:Bool),e= .returned (.tuple #[cH h p h.cells.length cap q h.vs.length c2,.int .i64 nn,.bool ok])∧Good h∧
  w'.ownsRow w.heap.size TI 1 (.slice p h.cells.length cap) h.cells.length (ivs h.cells)∧w'.ownsRow w.heap.size TV 4 (.slice q h.vs.length c2) h.vs.length (h.vs.flatMap aE)∧Ext w w'
theorem aAi (h:aV)(hg:Good h)(k a b:Int)(p:Option Addr)(n cap:Nat)(q:Option Addr)(m c2:Nat)(w:World)(hi:IsHouse w h p n cap q m c2):
  Calls Tryz.prog 116 #[cH h p n cap q m c2,oB k a b] w (aFh w):=by
 cases hok:bN h with
 |true=>
  refine(aBm h k a b p n cap q m c2 w hi hok).mono ?_
  intro e w' hr
  cases hd:eW h k a b with
  |none=>
   rw[hd]at hr
   obtain⟨p',cap',q',c2',rfl,o1,o2,hx⟩:=hr
   exact⟨h,p',cap',q',c2',_,_,rfl,hg,o1,o2,hx⟩
  |some r=>
   obtain⟨h',x⟩:=r
   rw[hd]at hr
   obtain⟨p',cap',q',c2',rfl,o1,o2,hx⟩:=hr
   exact⟨h',p',cap',q',c2',_,_,rfl,.inl (vY hok hd).1,o1,o2,hx⟩
 |false=>
  refine(tN h k a b p n cap q m c2 w hi hok).mono ?_
  rintro e w' ⟨rfl,hx⟩
  exact⟨bT,none,0,none,0,_,_,rfl,.inr rfl,World.ownsRow_nil _ _ _ _,World.ownsRow_nil _ _ _ _,hx⟩
theorem rX (R k:Nat)(h:aV)(p:Option Addr)(cap:Nat)(q:Option Addr)(c2:Nat)(w:World)(hr:Rand w R k)(hk:k≤1099511600000)(hs:h.cells.length≤100∧h.vs.length≤1000)
  (hi:IsHouse w h p h.cells.length cap q h.vs.length c2)(hp:0<h.cells.length→ ∀b off,p=some ⟨b,off,none⟩→b≠R)(hq:0<h.vs.length→ ∀b off,q=some ⟨b,off,none⟩→b≠R):
  Calls Tryz.prog 117 #[.pointer (some ⟨R,0,none⟩),cH h p h.cells.length cap q h.vs.length c2] w (aEz R k w):=by
 refine vT R k h.aA h.aB h.free h.step h.aD h.aH h.aC h.aI p _ cap q _ c2 h.vs (gK h.aA h.aB h.cells) w hr hk hs.2 _ (xQ rfl) ?_ (xQ rfl) (xQ hi.vs) (xQ fun b off h0 e=>hq h0 b off e) (xQ fun w' hx=> ?_)
 ·have h1:=xC h.aA h.aB h.cells
  have h2:=Nat.mul_le_mul hs.1 hs.1
  omega
 ·exact aBu h.aA h.aB p _ cap h.cells w' (hx.sl (b0:=0) hi.cells hp) (by omega)
def aGv (R k:Nat)(w:World)(e:Ending)(w':World):Prop:=
 ∃(h:aV) (p:Option Addr) (cap:Nat) (q:Option Addr) (c2:Nat),e= .returned (cH h p h.cells.length cap q h.vs.length c2)∧h.cells.length≤13∧h.vs.length≤13∧
  w'.ownsRow w.heap.size TI 1 (.slice p h.cells.length cap) h.cells.length (ivs h.cells)∧w'.ownsRow w.heap.size TV 4 (.slice q h.vs.length c2) h.vs.length (h.vs.flatMap aE)∧Rand w' R (k+20000)∧ExtR R w w'
theorem qR {R:Nat}{w0 w:World}{L:List Item}{i j B1 B2 cap c2:Nat}{h:aV}{p q:Option Addr}(m:MemR R w0 w L)(hi:L[i]? =some (aP B1 TI 1 p h.cells.length cap (ivs h.cells))) (hj:L[j]? =some (aP B2 TV 4 q h.vs.length c2 (h.vs.flatMap aE))):IsHouse w h p h.cells.length cap q h.vs.length c2:=⟨m.sl hi,m.sl hj⟩
theorem aCa {R:Nat}{w0 w:World}{L:List Item}{i B n c sz:Nat}{e:TypeId}{p:Option Addr}{xs:List Value}(m:MemR R w0 w L)(hi:L[i]? =some (aP B e sz p n c xs)):0<n→ ∀b off,p=some ⟨b,off,none⟩→b≠R:=by
 intro h0 b off he
 obtain⟨g,hg,h1,_⟩:=m.some hi h0
 rw[hg]at he
 injection he with he;injection he with he
 have:=m.old
 omega
open Go
section
variable {P:Program} {ops:Array Oper} {Q:Exit→Act→World→Prop} {md:Region.Mode} {G:Nat→Value→World→Prop} {Rd st:Nat} {X:World→World→Prop}
def uI (P:Program)(ops:Array Oper)(G:Nat→Value→World→Prop)(X:World→World→Prop)(Rd st kk:Nat)(i:Nat)(o:Oper)(w:World)(a:Act):Prop:=
 ∀K':Act→World→Prop,(∀a' w'',(∃v,a'=a.put o.dst v∧G i v w''∧X w w''∧Rand w'' Rd (kk+st))→K' a' w'')→if Region.wanted o (yielded ops a.tmps)=true then Oper.wp P o a w K' (fun _ _ _=>False)else K' (a.put o.dst undef) w
def StepsLX (P:Program)(md:Region.Mode)(ops:Array Oper)(G:Nat→Value→World→Prop)(X:World→World→Prop)(Rd st:Nat)(top:Nat)(a0:Act)(W:World)(l:List Nat):Prop:=
 ∀i∈l,∀o,ops[i]? =some o→ ∀w kk,X W w→Rand w Rd kk→kk≤top→ForV G w (gV ops i) a0 (uI P ops G X Rd st kk i o w)
theorem StepsLX.nil {top:Nat}{a0:Act}{W:World}:StepsLX P md ops G X Rd st top a0 W []:=fun _ h=>by cases h
theorem StepsLX.cons {top:Nat}{a0:Act}{W:World}{i:Nat}{o:Oper}{ps:List (Nat×Option Tmp)}{is:List Nat}(ho:ops[i]? =some o) (hp:gV ops i=ps)
  (h: ∀w kk,X W w→Rand w Rd kk→kk≤top→ForV G w ps a0 (uI P ops G X Rd st kk i o w)) (hs:StepsLX P md ops G X Rd st top a0 W is):StepsLX P md ops G X Rd st top a0 W (i::is):=by
 intro j hj o' ho' w kk hw hr hk
 rcases List.mem_cons.1 hj with rfl|hj
 ·rw[ho]at ho';cases ho';rw[hp];exact h w kk hw hr hk
 ·exact hs j hj o' ho' w kk hw hr hk
theorem sCx {top:Nat}{a0:Act}{W:World}{i:Nat}{o:Oper}{is:List Nat}(ps:List (Nat×Option Tmp))(ho:ops[i]? =some o) (h: ∀w kk,X W w→Rand w Rd kk→kk≤top→ForV G w ps a0 (uI P ops G X Rd st kk i o w)) (hs:StepsLX P md ops G X Rd st top a0 W is) (hp:gV ops i=ps:=by kernel_rfl):StepsLX P md ops G X Rd st top a0 W (i::is):=StepsLX.cons ho hp h hs
theorem aH4 {n:Nat}(hok:lF md ops n=true){a0:Act}{kk:Nat}(hn:a0.tmps.size=n){vals:Nat→Value}{w:World}{l:Nat→Prop}{a b:Act}{i:Nat}{o:Oper}(ho:ops[i]? =some o)
  (hpl: ∀e∈o.after,Region.binds md e=true→l e.on) (hni: ¬l i)
  (ha:FrI ops a0 vals l a) (hb:FrI ops a0 vals (fun j=>j∈(gV ops i).map (·.1)) b) (h:uI P ops G X Rd st kk i o w b) {K:Act→World→Prop}
  (hK: ∀v w'',G i v w''→X w w''∧Rand w'' Rd (kk+st)→K (a.put o.dst v) w''):wpOp P ops Q i K a w:=by
 obtain⟨hsel,hs⟩:=iF hok
 obtain⟨h1,h2⟩:=hs i o ho
 have hsel': ∀cs x,o.op≠ .select cs x:=fun cs x=>Region.noSelect_spec hsel i o cs x ho
 have hlook: ∀t∈o.looksAt ops,a.tmps[t]? =b.tmps[t]? :=fun t ht=>by
  by_cases hd: ∃j,fT ops j=some t
  ·obtain⟨j,hj⟩:=hd
   obtain⟨e,he,hbi,rfl⟩:=h2 t ht j hj
   rw[ha.mem _ _ hj (hpl e he hbi),hb.mem _ _ hj (vP ho hj ht)]
  ·rw[ha.out t fun j _ hj=>hd ⟨j,hj⟩,hb.out t fun j _ hj=>hd ⟨j,hj⟩]
 have hev:execOp a.eval o=execOp b.eval o:=execOp_congr o hsel' fun x hx=>by
  cases x with
  |tmp t=>
   have:=hlook t (List.mem_append_left _ (List.mem_filterMap.2 ⟨.tmp t,by simpa using hx,rfl⟩))
   simp only[Act.eval,Array.getD_eq_getD_getElem?,this]
  |_=>rfl
 have hwa:Region.wanted o (yielded ops a.tmps)=Region.wanted o (yielded ops b.tmps):=by
  unfold Region.wanted
  cases hg:o.guard with
  |none=>rfl
  |some gw=>
   obtain⟨g,want⟩:=gw
   have:yielded ops a.tmps g=yielded ops b.tmps g:=by
    unfold yielded
    cases ht:(ops[g]?).bind (·.dst)with
    |none=>rfl
    |some t=>
     have:=hlook t (by simp[Oper.looksAt,hg,ht])
     simp[this]
   simp only[this]
 have hst:=h (fun a' w'=> ∃v,a'=b.put o.dst v∧G i v w'∧X w w'∧Rand w' Rd (kk+st)) (fun a' w'' h=>h)
 have back: ∀u v:Value,b.put o.dst u=b.put o.dst v→a.put o.dst u=a.put o.dst v:=fun u v he=>by
  cases hd:o.dst with
  |none=>rfl
  |some d=>
   rw[hd]at he
   obtain⟨hlt,-⟩:=h1 d hd
   have e1:(b.tmps.setIfInBounds d u)[d]? =(b.tmps.setIfInBounds d v)[d]? :=by
    have:=congrArg Act.tmps he
    simp only[Act.put]at this
    rw[this]
   have hbs:d<b.tmps.size:=by rw[hb.size,hn];exact hlt
   simp[hbs]at e1
   rw[e1]
 refine wpOp_step ho fun K' hK'=> ?_
 rw[hwa]
 split
 ·rename_i hw
  rw[if_pos hw]at hst
  unfold Oper.wp at*
  rw[hev]
  generalize (execOp b.eval o).run P w=r at*
  cases r with
  |ok m w'=>
   cases m<;>simp only[Oper.upon]at hst⊢
   case value u=>
    obtain⟨v,he,hg,hr⟩:=hst
    rw[back _ _ he];exact hK' _ _ (hK v _ hg hr)
   case skip=>
    obtain⟨v,he,hg,hr⟩:=hst
    rw[back _ _ he];exact hK' _ _ (hK v _ hg hr)
   case defer d=>
    obtain⟨v,he,hg,hr⟩:=hst
    have:=congrArg Act.defers he
    cases hd:o.dst<;>simp[Act.put,hd]at this
   case enter f args=>
    refine Calls.mono hst fun e w'' he=> ?_
    cases e with
    |returned u=>
     obtain⟨v,he,hg,hr⟩:=he
     show K' _ _
     rw[back _ _ he];exact hK' _ _ (hK v _ hg hr)
    |panicked c=>exact he.elim
    |outgrown=>obtain⟨_,_,h⟩:=he;exact h.elim
   case row row args=>
    refine Rows.mono hst fun u w'' he=> ?_
    obtain⟨v,he,hg,hr⟩:=he
    rw[back _ _ he];exact hK' _ _ (hK v _ hg hr)
  |halt x w'=>
   cases x<;>simp only[Oper.upon]at hst
 ·rename_i hw
  rw[if_neg hw]at hst
  obtain⟨v,he,hg,hr⟩:=hst
  rw[back _ _ he];exact hK' _ _ (hK v _ hg hr)
theorem aIc {n m:Nat}(hok:lF md ops n=true)(hup:qT md ops=true)(ht:nP md ops m=true)(hm:m≤ops.size){a0:Act}(hn:a0.tmps.size=n){W:World}{k0:Nat}(htr: ∀a b c,X a b→X b c→X a c)(hG: ∀i v w w',G i v w→X w w'→G i v w')
  (hs:StepsLX P md ops G X Rd st (k0+st*ops.size) a0 W (List.range m))(he: ∀w,X W w→Rand w Rd (k0+st*m)→ForV G w (iV ops m) a0 (fun a=>wpAny P md ops Q (ops.size-m) (dA m (ops.size-m)) a w)):
  ∀(fuel:Nat) (listed:Array Bool) (a:Act) (w:World) (vals:Nat→Value),listed.size=ops.size→(∀i o,ops[i]? =some o→listed.getD i false=true→ ∀e∈o.after,Region.binds md e=true→listed.getD e.on false=true)→
   (∀i,m≤i→listed.getD i false=false)→
   X W w→(∃j,j+fuel=ops.size∧Rand w Rd (k0+st*j))→FrI ops a0 vals (fun j=>listed.getD j false=true) a→(∀i,listed.getD i false=true→G i (vals i) w)→
   List.count false listed.toList=fuel→wpAny P md ops Q fuel listed a w:=by
 intro fuel
 -- all of the head have come up
 have fin: ∀(fuel:Nat) (listed:Array Bool) (a:Act) (w:World) (vals:Nat→Value),listed.size=ops.size→(∀i,m≤i→listed.getD i false=false)→X W w→(∃j,j+fuel=ops.size∧Rand w Rd (k0+st*j))→FrI ops a0 vals (fun j=>listed.getD j false=true) a→(∀i,listed.getD i false=true→G i (vals i) w)→
   List.count false listed.toList=fuel→(∀i,i<m→listed.getD i false=true)→wpAny P md ops Q fuel listed a w:=by
  intro fuel listed a w vals hsz hnt hR hRn hF hGv hcnt hall
  have e2l:listed.toList=List.replicate m true++List.replicate (ops.size-m) false:=by
   apply List.ext_getElem?
   intro i
   rw[Array.getElem?_toList]
   by_cases him:i<m
   ·have h1:=hall i him
    have h2:i<listed.size:=by omega
    simp[h2]at h1
    simp[h2,h1,List.getElem?_append,him]
   ·by_cases hio:i<listed.size
    ·have h1:=hnt i (by omega)
     simp[hio]at h1
     have h2:i-m<ops.size-m:=by omega
     rw[List.getElem?_append_right (by simp;omega)]
     simp[hio,h1,h2]
    ·rw[Array.getElem?_eq_none (by omega),List.getElem?_eq_none (by simp;omega)]
  have e2:listed=dA m (ops.size-m):=by
   unfold dA
   rw[←e2l]
  have e3:fuel=ops.size-m:=by
   rw[←hcnt,e2]
   simp[dA,List.count_append,List.count_replicate]
  have h:=he w hR (by
   obtain⟨j,hj,hr⟩:=hRn
   have:j=m:=by omega
   rw[this]at hr;exact hr)
  obtain⟨b,hb,hq⟩:=ForV.get hok hn (G:=G) (vals:=vals) (iV ops m) (fun _=>False) a0 (fun p hp=>by
   unfold iV at hp
   obtain⟨i,hi,rfl⟩:=List.mem_map.1 hp
   have:=List.mem_range.1 hi
   exact⟨⟨ops[i]'(by omega),Array.getElem?_eq_getElem _⟩,rfl⟩) (fun p hp=>by
   unfold iV at hp
   obtain⟨i,hi,rfl⟩:=List.mem_map.1 hp
   exact hGv i (hall i (List.mem_range.1 hi))) FrI.nil h
  have e1:a=b:=hF.eq (hb.congr (fun i=>by
   simp only[false_or,iV,List.map_map,List.mem_map,List.mem_range]
   constructor
   ·rintro⟨j,hj,rfl⟩;exact hall j hj
   ·intro hl
    refine⟨i,?_,rfl⟩
    rcases Nat.lt_or_ge i m with h'|h'
    ·exact h'
    ·rw[hnt i h']at hl;cases hl) (fun _ _=>rfl))
  rw[e1,e2,e3];exact hq
 induction fuel with
 |zero=>
  intro listed a w vals hsz hcl hnt hR hRn hF hGv hcnt
  refine fin 0 listed a w vals hsz hnt hR hRn hF hGv hcnt fun i hi=> ?_
  have hi':i<listed.size:=by omega
  cases hb:listed[i]with
  |true=>simp[hb,hi']
  |false=>
   have hmem:false∈listed.toList:=by
    rw[←hb];simp
   have:=List.count_pos_iff.2 hmem
   omega
 |succ fuel ih=>
  intro listed a w vals hsz hcl hnt hR hRn hF hGv hcnt
  by_cases hall: ∀i,i<m→listed.getD i false=true
  ·exact fin _ listed a w vals hsz hnt hR hRn hF hGv hcnt hall
  refine⟨fun h=> ?_,fun i hi=> ?_⟩
  ·exact absurd (fun i hi=>rW hup listed hsz h i (by omega)) hall
  have him:i<m:=by
   rcases Nat.lt_or_ge i m with h|h
   ·exact h
   ·exact absurd (uM hup ht listed hm hcl hnt hi h) hall
  obtain⟨h0,o,ho,hpre⟩:=mem_ready.1 hi
  have hilt:i<ops.size:=(Array.getElem?_eq_some_iff.1 ho).1
  have hilt':i<listed.size:=by rw[hsz];exact hilt
  have hni: ¬listed.getD i false=true:=by
   intro h
   simp[hilt']at h h0
   rw[h0]at h;cases h
  obtain⟨jj,hjj,hr0⟩:=hRn
  have hstep:=hs i (List.mem_range.2 him) o ho w (k0+st*jj) hR hr0 (Nat.add_le_add_left (Nat.mul_le_mul_left st (by omega)) k0)
  have hlk: ∀p∈gV ops i,listed.getD p.1 false=true:=fun p hp=>by
   obtain⟨_,_,d,hd,hl⟩:=kN ho hp
   obtain⟨e,he,hbd,hpe⟩:=((iF hok).2 i o ho).2 d hl p.1 hd
   have h3:=hpre e he hbd
   rwa[hpe]at h3
  obtain⟨b,hb,hst⟩:=ForV.get hok hn (G:=G) (vals:=vals) (gV ops i) (fun _=>False) a0 (fun p hp=>by
   obtain⟨h1,h2,_⟩:=kN ho hp
   exact⟨⟨ops[p.1]'h1,Array.getElem?_eq_getElem _⟩,h2⟩) (fun p hp=>hGv _ (hlk p hp)) FrI.nil hstep
  refine aH4 (vals:=vals) hok hn ho (fun e he hbd=>hpre e he hbd) hni hF (hb.congr (fun j=>by simp) (fun _ _=>rfl)) hst fun v w'' hg ⟨hr,hr2⟩=> ?_
  refine ih (listed.setIfInBounds i true) _ w'' (fun j=>if j=i then v else vals j) (by simpa using hsz) ?_ ?_ (htr _ _ _ hR hr) ⟨jj+1,by omega,by rw[Nat.mul_succ,←Nat.add_assoc];exact hr2⟩ ?_ ?_ ?_
  ·intro j oj hoj hj e he hbd
   by_cases hji:j=i
   ·subst hji
    rw[ho]at hoj;cases hoj
    exact getD_set_true (hpre e he hbd)
   ·rw[getD_set_ne false (Ne.symm hji)]at hj
    exact getD_set_true (hcl j oj hoj hj e he hbd)
  ·intro j hj
   rw[getD_set_ne false (by omega)]
   exact hnt j hj
  ·refine(hF.put hok hn ho v (fun h=>absurd h hni)).congr (fun j=> ?_) (fun _ _=>rfl)
   by_cases hji:j=i
   ·subst hji;simp[hilt']
   ·rw[getD_set_ne false (Ne.symm hji)];simp[hji]
  ·intro j hj
   by_cases hji:j=i
   ·subst hji;simp only[if_true];exact hg
   ·rw[getD_set_ne false (Ne.symm hji)]at hj
    simp only[hji,if_false]
    exact hG _ _ _ _ (hGv j hj) hr
  ·have hli:listed[i]=false:=by
    cases hb':listed[i]with
    |false=>rfl
    |true=>exact absurd (by simp[hilt',hb']) hni
   have e1:(listed.setIfInBounds i true).toList=listed.toList.set i true:=by simp
   rw[e1]
   have hil:i<listed.toList.length:=by simpa using hilt'
   have hget:listed.toList[i]=false:=by simpa using hli
   rw[List.count_set hil]
   rw[hget]
   have e2:((false==false)=true):=rfl
   have e3: ¬((true==false)=true):=by decide
   rw[if_pos e2,if_neg e3]
   omega
theorem aC0 {id n:Nat}{a0:Act}{w W:World}(G:Nat→Value→World→Prop)(X:World→World→Prop)(Rd k0 st:Nat)(m:Nat)(hm:P.follows .mixedOrders=true)(hn:a0.tmps.size=n)(hok:lF .any ops n=true)(hup:qT .any ops=true)(ht:nP .any ops m=true)
  (hr0:Rand w Rd k0)(hrefl: ∀w,X w w)(htr: ∀a b c,X a b→X b c→X a c)(hG: ∀i v w w',G i v w→X w w'→G i v w')(hW:W=w.drew){k:Nat}(hsz:ops.size=k)(hmk:m≤k){ls:List (Nat×Option Tmp)}(hls:iV ops m=ls){ir:List Nat}(hir:List.range m=ir)
  (hs:StepsLX P .any ops G X Rd st (k0+st*k) a0 W ir){tl:Array Bool}(htl:dA m (k-m)=tl)(he: ∀w,X W w→Rand w Rd (k0+st*m)→ForV G w ls a0 (fun a=>wpAny P .any ops Q (k-m) tl a w)):
  (Code.region id ops true).wp P Q a0 w:=by
 subst hsz hls hir htl
 refine wp_region_any hm ?_
 have hW':W={w with drawn:=w.drawn+1}:=hW
 rw[←hW']
 refine aIc hok hup ht hmk hn htr hG hs he ops.size (Array.replicate ops.size false) a0 W (fun _=>undef) (by simp) ?_ ?_ (hrefl _) ⟨0,by omega,by subst hW;exact hr0.drew⟩ ?_ ?_ ?_
 ·intro i o ho hl
  have hi:=(Array.getElem?_eq_some_iff.1 ho).1
  simp[hi]at hl
 ·intro i _
  by_cases hi:i<ops.size<;>simp[hi]
 ·refine FrI.nil.congr (fun i=> ?_) (fun _ _=>rfl)
  constructor
  ·exact False.elim
  ·intro h
   by_cases hi:i<ops.size
   ·simp[hi]at h
   ·simp[hi]at h
 ·intro i h
  by_cases hi:i<ops.size
  ·simp[hi]at h
  ·simp[hi]at h
 ·simp
end
def nE (X:World→World→Prop)(g:Value→World→Prop):Prop:= ∀v w w',g v w→X w w'→g v w'
theorem aIl {X:World→World→Prop}{l:List (Value→World→Prop)}(h: ∀g∈l,nE X g): ∀i v w w',gl l i v w→X w w'→gl l i v w':=by
 intro i v w w' hg hx
 unfold gl at*
 rw[List.getD_eq_getElem?_getD]at*
 cases hi:l[i]? with
 |none=>rw[hi]at hg;exact hg
 |some g=>
  rw[hi]at hg
  simp only[Option.getD_some]at*
  exact h g (List.mem_of_getElem? hi) _ _ _ hg hx
theorem sE {X:World→World→Prop}(u:Value):nE X (gEq u):=fun _ _ _ h _=>h
theorem wE {X:World→World→Prop}:nE X sD:=fun _ _ _ h _=>h
theorem aEr {X:World→World→Prop}:nE X (fun _ _=>True):=fun _ _ _ h _=>h
def aIo:Value→World→Prop:=fun v _=> ∃b:Bool,v= .bool b
theorem tF {X:World→World→Prop}:nE X aIo:=fun _ _ _ h _=>h
theorem aK2 {X:World→World→Prop}: ∀g∈([]:List (Value→World→Prop)),nE X g:=fun _ h=>by cases h
theorem fA {X:World→World→Prop}{g:Value→World→Prop}{l:List (Value→World→Prop)}(h:nE X g)(k: ∀g∈l,nE X g): ∀g'∈g::l,nE X g':=fun g' h'=>by
 rcases List.mem_cons.1 h' with rfl|h'
 ·exact h
 ·exact k g' h'
end Go.Proofs.YteejdnmmpmcmeaaGreatDoor
