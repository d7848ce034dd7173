/-
  A law's walk or frame (@packed).
-/
import Derived.Test.YtbgkcehffiogcacGreatDoorZ35
import Derived.Test.YtbgkcehffiogcacGreatDoorZ36
namespace Go.Proofs.YtbgkcehffiogcacGreatDoor
open Go.RowKit Go.Proofs.Tryz
set_option linter.unusedVariables false
set_option linter.unusedSimpArgs false
set_option maxHeartbeats 8000000
set_option maxRecDepth 100000
theorem aPz (aA aB a f aD aF aC aG:Int)(x:List Int)(vs:List aP)(p:OA)(n cp:Nat)(q:OA)(m cq:Nat)(b:ByteArray)(r:aM)(tx:List UInt8)(w:World)(ef:b.size≤1048576)(ei:n+m≤1048576)(eg:r.cells.length≤1000)(eh:r.vs.length≤1000)
  (HZ:Hid (∀w,U 5 #[.agg #[aA,aB,.slice p n cp,a,f,aD,aF,aC,aG,.slice q m cq],I 1048576] w (O (I (1048576-n-m)) w)))
  (HT:xC 7 #[.agg #[aA,aB,.slice p n cp,a,f,aD,aF,aC,aG,.slice q m cq]] w fun w' e w''=> ∃pa ca qa da,e= .returned (.agg #[aA,aB,.slice pa n ca,a,f,aD,aF,aC,aG,.slice qa m da])∧w''.ownsRow w' TI 1 (.slice pa n ca) n (ivs x)∧w''.ownsRow w' TV 4 (.slice qa m da) m (vs.flatMap aE)∧Ext w' w'')
  (dx:Hid (∀p c q d w',Ext w w'→IsHouse w' ⟨aA,aB,x,a,f,aD,aF,aC,aG,vs⟩ p n c q m d→U 6 #[.agg #[aA,aB,.slice p n c,a,f,aD,aF,aC,aG,.slice q m d],.string b] w' fun e w''=> ∃pa ca qa da,e= .returned (.tuple #[.agg #[r.aA,r.aB,.slice pa r.cells ca,r.free,r.step,r.aD,r.aF,r.aC,r.aG,.slice qa r.vs da],str tx])∧w''.ownsRow w' TI 1 (.slice pa r.cells ca) r.cells.length (ivs r.cells)∧w''.ownsRow w' TV 4 (.slice qa r.vs da) r.vs.length (r.vs.flatMap aE)∧Ext w' w''))
  (c9:Hid (∀p c q d w',Ext w w'→IsHouse w' ⟨aA,aB,x,a,f,aD,aF,aC,aG,vs⟩ p n c q m d→U 8 #[.agg #[aA,aB,.slice p n c,a,f,aD,aF,aC,aG,.slice q m d],.string b] w' fun e w''=> ∃pa ca qa da,e= .returned (.tuple #[.agg #[r.aA,r.aB,.slice pa r.cells ca,r.free,r.step,r.aD,r.aF,r.aC,r.aG,.slice qa r.vs da],str tx])∧w''.ownsRow w' TI 1 (.slice pa r.cells ca) r.cells.length (ivs r.cells)∧w''.ownsRow w' TV 4 (.slice qa r.vs da) r.vs.length (r.vs.flatMap aE)∧Ext w' w'')):
  U 3 #[.agg #[aA,aB,.slice p n cp,a,f,aD,aF,aC,aG,.slice q m cq],.string b] w (O (.bool true) w):=by
 go_enter func3,ntmps3;have t0:decide ((1048576:Int)<(b.size:Int))=false:=by simp;omega
 have t1:decide (1048576<b.size)=false:=by simp;omega
 go_wp2_with fail;clear t0 t1;refine Z (HZ _) fun w1 dm=>?_
 have M1:=(((Mem.start w).c0 29 #[aA,aB,.slice p n cp,a,f,aD,aF,aC,aG,.slice q m cq]).adv dm)
 have cg:=M1.hi 0;clear dm;obtain⟨g,h,i,j,k,l,o,s,t,u⟩:=(M1.bk 0).ten;go_wp2_with fail;clear g h i j k l o s t u;refine(HT _ M1.ext).mono ?_;rintro e w2 ⟨p1,c1,q1,d1,rfl,de,di,dn⟩;have M2:=(M1.own2 dn de di (aQn _) (by decide))
 clear M1 cg dn de di;have ch:=M2.hi 2;go_wp2_with fail;refine(dx _ _ _ _ _ M2.ext ⟨(M2.sq 0),(M2.sq 1)⟩).mono ?_;rintro e w3 ⟨p2,c2,q2,d2,rfl,df,dj,dp⟩;have M3:=(M2.own2 dp df dj (aQn _) (by decide))
 clear M2 ch dp df dj;have ci:=M3.hi 4;go_upto_region 8 with fail;obtain⟨g2,cc⟩: ∃g2,g2=w3.heap.size:=⟨_,rfl⟩
 rw[←cc];have M4:=(M3.blkNew aK #[r.aA,r.aB,.slice p2 r.cells c2,r.free,r.step,r.aD,r.aF,r.aC,r.aG,.slice q2 r.vs d2] g2 cc.symm)
 generalize World.alloc _ _=v2 at M4⊢;clear M3 ci cc;have cj:=M4.hi 0;have ck:=M4.hi 5;obtain⟨g,h,i,j,k,l,o,s,t,u⟩:=(M4.bk 5).ten;go_wp2_with fail;clear g h i j k l o s t u;refine(HT _ (show Mem w v2 [aJ w (g2) aK (aTc r p2 c2 q2 d2),aTa w p2 r.cells c2,aTb w q2 r.vs d2,aJ w w 29 #[aA,aB,.slice p n cp,a,f,aD,aF,aC,aG,.slice q m cq]]from M4.pick [0,1,2,5] (by decide) rfl).ext).mono ?_;rintro e w5 ⟨p3,c3,q3,d3,rfl,dg,dk,ah⟩;have M5:=(show Mem w w5 [aI w TI 1 (p3) (n) (c3) (ivs x),aI w TV 4 (q3) (m) (d3) (vs.flatMap aE),aJ w (g2) aK (aTc r p2 c2 q2 d2),aTa w p2 r.cells c2,aTb w q2 r.vs d2,aJ w w 29 #[aA,aB,.slice p n cp,a,f,aD,aF,aC,aG,.slice q m cq]]from(show Mem w v2 [aJ w (g2) aK (aTc r p2 c2 q2 d2),aTa w p2 r.cells c2,aTb w q2 r.vs d2,aJ w w 29 #[aA,aB,.slice p n cp,a,f,aD,aF,aC,aG,.slice q m cq]]from M4.pick [0,1,2,5] (by decide) rfl).own2 ah dg dk (aQn _) (by decide))
 clear M4 cj ck ah dg dk;have cl:=M5.hi 2;have cm:=M5.hi 5;go_upto_region 9 with fail;obtain⟨gX,cf⟩: ∃gX,gX=w5.heap.size:=⟨_,rfl⟩
 rw[←cf];have M6:=(M5.blkNew aK #[aA,aB,.slice p3 n c3,a,f,aD,aF,aC,aG,.slice q3 m d3] gX cf.symm)
 generalize World.alloc _ _=v3 at M6⊢;clear M5 cl cm cf;have cn:=M6.hi 0;have co:=M6.hi 3;have cr:=M6.hi 6;obtain⟨g,h,i,j,k,l,o,s,t,u⟩:=(M6.bk 0).ten;go_wp2_with fail;clear g h i j k l o s t u;refine(c9 _ _ _ _ _ M6.ext ⟨(M6.sq 1),(M6.sq 2)⟩).mono ?_;rintro e w7 ⟨p4,c4,q4,d4,rfl,dh,dl,dq⟩;have M7:=(M6.own2 dq dh dl (aQn _) (by decide))
 clear M6 cn co cr dq dh dl;have cs:=M7.hi 2;have ct:=M7.hi 5;have cu:=M7.hi 8;go_upto_region 10 with fail;obtain⟨g4,cd⟩: ∃g4,g4=w7.heap.size:=⟨_,rfl⟩
 rw[←cd];have M8:=(M7.blkNew aK #[r.aA,r.aB,.slice p4 r.cells c4,r.free,r.step,r.aD,r.aF,r.aC,r.aG,.slice q4 r.vs d4] g4 cd.symm)
 generalize World.alloc _ _=v4 at M8⊢;clear M7 cs ct cu cd;have cv:=M8.hi 0;have cw:=M8.hi 3;have cx:=M8.hi 6;have cy:=M8.hi 9;obtain⟨g,h,i,j,k,l,o,s,t,u⟩:=(M8.bk 0).ten;obtain⟨al,am,an,ao,ap,aq,ar,au,av,aw⟩:=(M8.bk 6).ten;go_wp2_with fail;clear g h i j k l o s t u al am an ao ap aq ar au av aw;refine Z (mJ r _ _ _ _ _ _ _ _ _ _ _ ⟨(M8.sq 1),(M8.sq 2)⟩ ⟨(M8.sq 7),(M8.sq 8)⟩) fun w9 dr=>?_
 have M9:=(M8.adv dr)
 clear M8 cv cw cx cy dr;have cz:=M9.hi 0;have c0:=M9.hi 3;have c7:=M9.hi 6;have c8:=M9.hi 9;have db:=xQ (show IsHouse w9 ⟨aA,aB,x,a,f,aD,aF,aC,aG,vs⟩ p3 n c3 q3 m d3 from⟨(M9.sq 4),(M9.sq 5)⟩);go_wp2;refine rL (gl [gEq (.agg #[aA,aB,.slice p3 n c3,a,f,aD,aF,aC,aG,.slice q3 m d3]),gEq (.agg #[aA,aB,.slice p n cp,a,f,aD,aF,aC,aG,.slice q m cq]),(fun v w'=> ∃q c r e,v= .agg #[aA,aB,.slice q n c,a,f,aD,aF,aC,aG,.slice r m e]∧IsHouse w' ⟨aA,aB,x,a,f,aD,aF,aC,aG,vs⟩ q n c r m e),gEq (.bool true),gEq (.bool false)]) 5 5 [(0,some 48),(1,some 49),(2,some 50),(3,some 51),(4,some 52)] ?steps ?fin (hG:=(kY (bE (bK _) (bE (bK _) (bE (fun v w w' ⟨q,c,r,e,he,ho⟩ hx=>⟨q,c,r,e,he,ho.ext hx⟩) (bE (bK _) (bE (bK _) (nX))))))))
 case steps=>
  refine sC [] rfl (fun wi hx=> ?_) ?_
  ·intro K hK;have hX:Ext w9 wi:=xE;obtain⟨dy,dz,d0,d7,d8,d9,ea,eb,ec,ed⟩:=((M9.bk 3).ext hX).ten;go_simp;exact hK _ _ ⟨.agg #[aA,aB,.slice p3 n c3,a,f,aD,aF,aC,aG,.slice q3 m d3],rfl,rfl,Ext.refl _⟩
  refine sC [] rfl (fun wi hx=> ?_) ?_
  ·intro K hK;have hX:Ext w9 wi:=xE;obtain⟨dy,dz,d0,d7,d8,d9,ea,eb,ec,ed⟩:=((M9.bk 9).ext hX).ten;go_simp;exact hK _ _ ⟨.agg #[aA,aB,.slice p n cp,a,f,aD,aF,aC,aG,.slice q m cq],rfl,rfl,Ext.refl _⟩
  refine sC [(1,some 49)] rfl (fun wi hx=> ?_) ?_
  ·intro v1 h1 K hK;obtain rfl:=h1;go_simp;refine(HT _ (M9.ext.trans hx.of_drew)).mono ?_;rintro e w5 ⟨a1,ak,a2,ax,rfl,dc,dd,ah⟩;have af:IsHouse w5 ⟨aA,aB,x,a,f,aD,aF,aC,aG,vs⟩ a1 n ak a2 m ax:=⟨Sl.own dc,Sl.own dd⟩
   go_simp;exact hK _ _ ⟨.agg #[aA,aB,.slice a1 n ak,a,f,aD,aF,aC,aG,.slice a2 m ax],rfl,⟨a1,ak,a2,ax,rfl,af⟩,ah⟩
  refine sC [(0,some 48),(2,some 50)] rfl (fun wi hx=> ?_) ?_
  ·intro v0 h0 v2 h2 K hK;obtain rfl:=h0;obtain⟨a1,ak,a2,ax,rfl,af⟩:=h2;go_simp;refine Z (mJ ⟨aA,aB,x,a,f,aD,aF,aC,aG,vs⟩ _ _ _ _ _ _ _ _ _ _ _ (db.out.ext hx.of_drew) af) fun w5 ah=>?_
   go_simp;exact hK _ _ ⟨.bool true,rfl,rfl,ah⟩
  exact sS1 [(3,some 51)] StepsL.nil
 case fin=>
  intro wi hx v0 h0 v1 h1 v2 h2 v3 h3 v4 h4;subst h0 h1;obtain⟨a1,ak,a2,ax,rfl,af⟩:=h2;subst h3 h4;refine wpAny_done (by kernel_rfl) ?_ _;try go_frame
  have hX:Ext w9 wi:=hx.of_drew;have MI:=(M9.adv hX)
  clear hX hx db M9 cz c0 c7 c8;have a4:g4<wi:=(MI.hi 0)
  have a5:gX<wi:=(MI.hi 3)
  have a6:g2<wi:=(MI.hi 6)
  have a7:(w:Nat)<wi:=(MI.hi 9)
  obtain⟨g,h,i,j,k,l,o,s,t,u⟩:=(MI.bk 3).ten;go_wp2_with fail;clear g h i j k l o s t u;refine Z (uJ _ _ _ _ _ _ _ _ p3 _ _ q3 _ _ 1 _ _ _ _ _ (show Mem w wi [aI w TI 1 (p3) (n) (c3) (ivs x),aI w TV 4 (q3) (m) (d3) (vs.flatMap aE),aJ w (gX) aK #[aA,aB,.slice p3 n c3,a,f,aD,aF,aC,aG,.slice q3 m d3],aTa w p4 r.cells c4,aTb w q4 r.vs d4,aJ w (g4) aK (aTc r p4 c4 q4 d4),aJ w (g2) aK (aTc r p2 c2 q2 d2),aTa w p2 r.cells c2,aTb w q2 r.vs d2,aJ w w 29 #[aA,aB,.slice p n cp,a,f,aD,aF,aC,aG,.slice q m cq]]from MI.pick [4,5,3,1,2,0,6,7,8,9] (by decide) rfl) (by omega) (by omega) (by omega) (by omega)) fun a3 bz=>?_
  have z:=(bz)
  clear MI a4 a5 a6 a7 bz;have a8:=z.hi 2;have a9:=z.hi 5;have ba:=z.hi 6;have bb:=z.hi 9;have k1:(0:Int)≤1+(n:Nat)+(m*4:Nat):=by omega
  have k2:decide ((1:Int)+(n:Nat)+(m*4:Nat)<0)=false:=by simp;omega
  obtain⟨g,h,i,j,k,l,o,s,t,u⟩:=(z.bk 5).ten;obtain⟨al,am,an,ao,ap,aq,ar,au,av,aw⟩:=(z.bk 6).ten;go_wp2_with fail;clear g h i j k l o s t u al am an ao ap aq ar au av aw;refine Z (mJ r _ _ _ _ _ _ _ _ _ _ _ ⟨((show Mem w a3 [aTa w p4 r.cells c4,aTb w q4 r.vs d4,aJ w (g4) aK (aTc r p4 c4 q4 d4),aJ w (g2) aK (aTc r p2 c2 q2 d2),aTa w p2 r.cells c2,aTb w q2 r.vs d2,aJ w w 29 #[aA,aB,.slice p n cp,a,f,aD,aF,aC,aG,.slice q m cq]]from z.pick [3,4,5,6,7,8,9] (by decide) rfl).sq 0),((show Mem w a3 [aTa w p4 r.cells c4,aTb w q4 r.vs d4,aJ w (g4) aK (aTc r p4 c4 q4 d4),aJ w (g2) aK (aTc r p2 c2 q2 d2),aTa w p2 r.cells c2,aTb w q2 r.vs d2,aJ w w 29 #[aA,aB,.slice p n cp,a,f,aD,aF,aC,aG,.slice q m cq]]from z.pick [3,4,5,6,7,8,9] (by decide) rfl).sq 1)⟩ ⟨((show Mem w a3 [aTa w p4 r.cells c4,aTb w q4 r.vs d4,aJ w (g4) aK (aTc r p4 c4 q4 d4),aJ w (g2) aK (aTc r p2 c2 q2 d2),aTa w p2 r.cells c2,aTb w q2 r.vs d2,aJ w w 29 #[aA,aB,.slice p n cp,a,f,aD,aF,aC,aG,.slice q m cq]]from z.pick [3,4,5,6,7,8,9] (by decide) rfl).sq 4),((show Mem w a3 [aTa w p4 r.cells c4,aTb w q4 r.vs d4,aJ w (g4) aK (aTc r p4 c4 q4 d4),aJ w (g2) aK (aTc r p2 c2 q2 d2),aTa w p2 r.cells c2,aTb w q2 r.vs d2,aJ w w 29 #[aA,aB,.slice p n cp,a,f,aD,aF,aC,aG,.slice q m cq]]from z.pick [3,4,5,6,7,8,9] (by decide) rfl).sq 5)⟩) fun dt b5=>?_
  have ag:=(show Mem w dt [aTa w p4 r.cells c4,aTb w q4 r.vs d4,aJ w (g4) aK (aTc r p4 c4 q4 d4),aJ w (g2) aK (aTc r p2 c2 q2 d2),aTa w p2 r.cells c2,aTb w q2 r.vs d2,aJ w w 29 #[aA,aB,.slice p n cp,a,f,aD,aF,aC,aG,.slice q m cq]]from(show Mem w a3 [aTa w p4 r.cells c4,aTb w q4 r.vs d4,aJ w (g4) aK (aTc r p4 c4 q4 d4),aJ w (g2) aK (aTc r p2 c2 q2 d2),aTa w p2 r.cells c2,aTb w q2 r.vs d2,aJ w w 29 #[aA,aB,.slice p n cp,a,f,aD,aF,aC,aG,.slice q m cq]]from z.pick [3,4,5,6,7,8,9] (by decide) rfl).adv b5)
  clear z a8 a9 ba bb b5;have bc:=ag.hi 2;have bd:=ag.hi 3;have be:=ag.hi 6;obtain⟨g,h,i,j,k,l,o,s,t,u⟩:=(ag.bk 2).ten;go_wp2_with fail;clear g h i j k l o s t u;refine Z (uJ _ _ _ _ _ _ _ _ p4 _ _ q4 _ _ 1 _ _ _ _ _ (show Mem w dt [aTa w p4 r.cells c4,aTb w q4 r.vs d4,aJ w (g4) aK (aTc r p4 c4 q4 d4),aJ w (g2) aK (aTc r p2 c2 q2 d2),aTa w p2 r.cells c2,aTb w q2 r.vs d2,aJ w w 29 #[aA,aB,.slice p n cp,a,f,aD,aF,aC,aG,.slice q m cq]]from ag.pick [0,1,2,3,4,5,6] (by decide) rfl) (by omega) (by omega) (by omega) (by omega)) fun ej b0=>?_
  have ab:=(b0)
  clear ag bc bd be b0;have bf:=ab.hi 2;have bg:=ab.hi 3;have bh:=ab.hi 6;have k3:(0:Int)≤1+(r.cells.length:Nat)+(r.vs.length*4:Nat):=by omega
  have k4:decide ((1:Int)+(r.cells.length:Nat)+(r.vs.length*4:Nat)<0)=false:=by simp;omega
  obtain⟨g,h,i,j,k,l,o,s,t,u⟩:=(ab.bk 2).ten;go_wp2_with fail;clear g h i j k l o s t u;refine Z (uP _ _ _ _ _ _ _ _ p4 r.cells.length _ q4 r.vs.length _ 1 _ _ (ab.ow 0) (ab.ow 1) (by omega) (by omega) (by omega) (by omega)) fun ek b6=>?_
  have ae:=(ab.adv b6)
  clear ab bf bg bh b6;have bi:=ae.hi 2;have bj:=ae.hi 3;have bl:=ae.hi 6;obtain⟨g,h,i,j,k,l,o,s,t,u⟩:=(ae.bk 6).ten;go_wp2_with fail;clear g h i j k l o s t u;refine(HT _ ae.ext).mono ?_;rintro e el ⟨p5,c5,q5,d5,rfl,b1,b3,b7⟩;have ad:=(ae.own2 b7 b1 b3 (aQn _) (by decide))
  clear ae bi bj bl b7 b1 b3;have bm:=ad.hi 4;have bo:=ad.hi 5;have bp:=ad.hi 8;go_wp2_with fail;refine(c9 _ _ _ _ _ ad.ext ⟨(ad.sq 0),(ad.sq 1)⟩).mono ?_;rintro e ee ⟨p6,c6,q6,d6,rfl,b2,b4,b8⟩;have ai:=(ad.own2 b8 b2 b4 (aQn _) (by decide))
  clear ad bm bo bp b8 b2 b4;have bq:=ai.hi 6;have br:=ai.hi 7;have ay:=ai.hi 10;go_upto_region 27 with fail;obtain⟨g6,ce⟩: ∃g6,g6=ee.heap.size:=⟨_,rfl⟩
  rw[←ce];have y:=(ai.blkNew aK #[r.aA,r.aB,.slice p6 r.cells c6,r.free,r.step,r.aD,r.aF,r.aC,r.aG,.slice q6 r.vs d6] g6 ce.symm)
  generalize World.alloc _ _=v6 at y⊢;clear ai bq br ay ce;have bs:=y.hi 0;have bt:=y.hi 7;have bu:=y.hi 8;have az:=y.hi 11;obtain⟨g,h,i,j,k,l,o,s,t,u⟩:=(y.bk 0).ten;obtain⟨al,am,an,ao,ap,aq,ar,au,av,aw⟩:=(y.bk 8).ten;go_wp2_with fail;clear g h i j k l o s t u al am an ao ap aq ar au av aw;refine Z (mJ r _ _ _ _ _ _ _ _ _ _ _ ⟨(y.sq 1),(y.sq 2)⟩ ⟨(y.sq 9),(y.sq 10)⟩) fun em b9=>?_
  have aa:=(y.adv b9)
  clear y bs bt bu az b9;have bv:=aa.hi 0;have bw:=aa.hi 7;have bx:=aa.hi 8;have a0:=aa.hi 11;obtain⟨g,h,i,j,k,l,o,s,t,u⟩:=(aa.bk 7).ten;go_wp2_with fail;clear g h i j k l o s t u;refine Z (uP _ _ _ _ _ _ _ _ p4 r.cells.length _ q4 r.vs.length _ 1 _ _ (aa.ow 5) (aa.ow 6) (by omega) (by omega) (by omega) (by omega)) fun en cb=>?_
  have aj:=(aa.adv cb)
  clear aa bv bw bx a0 cb;have du:=aj.hi 0;have dv:=aj.hi 7;have dw:=aj.hi 8;have ds:=aj.hi 11;go_wp2;go_ret;exact⟨rfl,aj.ext⟩
theorem aNh (aA aB a c aD aF aC aG:Int)(d:List Int)(vs:List aP)(p:OA)(n cp:Nat)(q:OA)(m cq:Nat)(b:ByteArray)(r:aM)(tx:List UInt8)(w:World)(f:b.size≤1048576)(HZ:Hid (∀w,U 5 #[.agg #[aA,aB,.slice p n cp,a,c,aD,aF,aC,aG,.slice q m cq],I 1048576] w (O (I (-1)) w))):
  U 3 #[.agg #[aA,aB,.slice p n cp,a,c,aD,aF,aC,aG,.slice q m cq],.string b] w (O (.bool true) w):=by
 have t0:decide ((1048576:Int)<(b.size:Int))=false:=by simp;omega
 have t1:decide (1048576<b.size)=false:=by simp;omega
 go_enter func3,ntmps3;go_wp2_with fail;refine Z (HZ _) fun w1 h1=>?_
 go_wp2;go_ret;exact⟨rfl,xE⟩
theorem aKh (aA aB a c aD aF aC aG:Int)(d:List Int)(vs:List aP)(p:OA)(n cp:Nat)(q:OA)(m cq:Nat)(b:ByteArray)(r:aM)(tx:List UInt8)(w:World)(f:1048576<b.size):
  U 3 #[.agg #[aA,aB,.slice p n cp,a,c,aD,aF,aC,aG,.slice q m cq],.string b] w (O (.bool true) w):=by
 have t0:decide ((1048576:Int)<(b.size:Int))=true:=by simp;omega
 have t1:decide (1048576<b.size)=true:=by simp;omega
 go_enter func3,ntmps3;go_wp2;go_ret;exact⟨rfl,xE⟩
theorem aJi (h:aM)(l:List UInt8):(oT h l).1.cells.length≤1000∧(oT h l).1.vs.length≤1000:=by
 unfold oT;by_cases hok:aT h=true
 ·rw[if_pos hok];cases hd:bX l with
  |some d=>obtain⟨k,a,b⟩:=d;exact aP3 h k a b
  |none=>
   dsimp only;by_cases he:l= [101,110,100]
   ·rw[if_pos he];have:=aLw h (bY (aZ h) (dG h));exact⟨this.1,this.2.1⟩
   rw[if_neg he];have:=eP hok;dsimp only;omega
 rw[if_neg hok];simp[hZ]
theorem walk_FnExactHouseLine (W:World)(v:Value)(y:aM×(OA×Nat)×(OA×Nat))(f:v=bO y.1 y.2.1.1 y.1.cells.length y.2.1.2 y.2.2.1 y.1.vs.length y.2.2.2∧IsHouse W y.1 y.2.1.1 y.1.cells.length y.2.1.2 y.2.2.1 y.1.vs.length y.2.2.2∧aA2 y.1)
  (b:ByteArray)(g:b.size≤maxLen)(hE:Env W)(hT:BitTab W):
  U 3 #[v,.string b] W (O (.bool true) W):=by
 obtain⟨rfl,hi,_⟩:=f;obtain⟨h,⟨p,cp⟩,⟨q,cq⟩⟩:=y;by_cases hbs:b.size≤1048576
 ·by_cases hs:h.cells.length+h.vs.length≤1048576
  ·have hl:=aJi h b.data.toList;have a:b.data.toList.length≤1048576:=by rw[cX];exact hbs
   exact aPz h.aA h.aB h.free h.step h.aD h.aF h.aC h.aG h.cells h.vs p h.cells.length cp q h.vs.length cq b (oT h b.data.toList).1 (oT h b.data.toList).2 W hbs hs hl.1 hl.2 (fun w=>aIh h p h.cells.length cp q h.vs.length cq w hs) (fun w hx=>aCh h p h.cells.length cp q h.vs.length cq w (by omega) (by omega) (hi.ext hx))
    (fun p c q d w' hx hi'=>aLd h p _ c q _ d b.data.toList w' hi' a) (fun p c q d w' hx hi'=>aMn h p _ c q _ d b.data.toList w' hi' a (hE.ext hx) (hT.ext hx))
  exact aNh h.aA h.aB h.free h.step h.aD h.aF h.aC h.aG h.cells h.vs p h.cells.length cp q h.vs.length cq b h [] W hbs (fun w=>aNz h p h.cells.length cp q h.vs.length cq w hi.cells.bd hi.vs.bd (by omega))
 exact aKh h.aA h.aB h.free h.step h.aD h.aF h.aC h.aG h.cells h.vs p h.cells.length cp q h.vs.length cq b h [] W (by omega)
end Go.Proofs.YtbgkcehffiogcacGreatDoor
