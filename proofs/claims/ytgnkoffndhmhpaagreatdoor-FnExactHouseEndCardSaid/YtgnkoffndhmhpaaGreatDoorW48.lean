/-
  A law's walk or frame (@packed).
-/
import Derived.Test.YtgnkoffndhmhpaaGreatDoorR4
import Derived.Test.YtgnkoffndhmhpaaGreatDoorR10
import Derived.Test.YtgnkoffndhmhpaaGreatDoorR24
import Derived.Test.YtgnkoffndhmhpaaGreatDoorR37
import Derived.Test.YtgnkoffndhmhpaaGreatDoorR38
namespace Go.Proofs.YtgnkoffndhmhpaaGreatDoor
open Go.RowKit
set_option linter.unusedVariables false
set_option linter.unusedSimpArgs false
set_option maxHeartbeats 8000000
set_option maxRecDepth 100000
theorem aJ5 (aA aB free step aE aF aC aG:Int)(cells:List Int)(vs:List aQ)(p:OA)(n cp:Nat)(q:OA)(m cq:Nat)(r:aT)(w:World)(hsz:n+m≤1048576)(hs1:r.cells.length≤1000)(hs2:r.vs.length≤1000)
  (HZ:Hid (∀w,Calls Tryz.prog 10 #[.agg #[aA,aB,.slice p n cp,free,step,aE,aF,aC,aG,.slice q m cq],.int .i64 1048576] w fun e w'=>e= .returned (.int .i64 (1048576-n-m))∧Ext w w'))
  (HT:xC 12 #[.agg #[aA,aB,.slice p n cp,free,step,aE,aF,aC,aG,.slice q m cq]] w fun w' e w''=> ∃pa ca qa da,e= .returned (.agg #[aA,aB,.slice pa n ca,free,step,aE,aF,aC,aG,.slice qa m da])∧w''.ownsRow w'.heap.size TI 1 (.slice pa n ca) n (ivs cells)∧w''.ownsRow w'.heap.size TV 4 (.slice qa m da) m (vs.flatMap aD)∧Ext w' w'')
  (HSp:Hid (∀p c q d w',Ext w w'→IsHouse w' ⟨aA,aB,cells,free,step,aE,aF,aC,aG,vs⟩ p n c q m d→Calls Tryz.prog 11 #[.agg #[aA,aB,.slice p n c,free,step,aE,aF,aC,aG,.slice q m d]] w' fun e w''=> ∃pa ca qa da,e= .returned (.agg #[r.aA,r.aB,.slice pa r.cells.length ca,r.free,r.step,r.aE,r.aF,r.aC,r.aG,.slice qa r.vs.length da])∧w''.ownsRow w'.heap.size TI 1 (.slice pa r.cells.length ca) r.cells.length (ivs r.cells)∧w''.ownsRow w'.heap.size TV 4 (.slice qa r.vs.length da) r.vs.length (r.vs.flatMap aD)∧Ext w' w''))
  (HIm:Hid (∀p c q d w',Ext w w'→IsHouse w' ⟨aA,aB,cells,free,step,aE,aF,aC,aG,vs⟩ p n c q m d→Calls Tryz.prog 13 #[.agg #[aA,aB,.slice p n c,free,step,aE,aF,aC,aG,.slice q m d]] w' fun e w''=> ∃pa ca qa da,e= .returned (.agg #[r.aA,r.aB,.slice pa r.cells.length ca,r.free,r.step,r.aE,r.aF,r.aC,r.aG,.slice qa r.vs.length da])∧w''.ownsRow w'.heap.size TI 1 (.slice pa r.cells.length ca) r.cells.length (ivs r.cells)∧w''.ownsRow w'.heap.size TV 4 (.slice qa r.vs.length da) r.vs.length (r.vs.flatMap aD)∧Ext w' w'')):
  Calls Tryz.prog 3 #[.agg #[aA,aB,.slice p n cp,free,step,aE,aF,aC,aG,.slice q m cq]] w fun e w'=>e= .returned (.bool true)∧Ext w w':=by
 go_enter Tryz.func3,Tryz.ntmps3
 go_wp2_with fail
 refine(HZ.out _).mono ?_
 rintro e w1 ⟨rfl,hx1⟩
 have M1:=xQ ((Mem.b1 w).adv hx1)
 have lt1_0:=M1.out.hi 0
 clear hx1
 obtain⟨ca0,ca1,ca2,ca3,ca4,ca5,ca6,ca7,ca8,ca9⟩:=(M1.out.blk (i:=0) rfl).ten
 go_wp2_with fail
 clear ca0 ca1 ca2 ca3 ca4 ca5 ca6 ca7 ca8 ca9
 refine(HT.out _ (M1.out).ext).mono ?_
 rintro e w2 ⟨p1,c1,q1,d1,rfl,ho2,hv2,hx2⟩
 have M2:=xQ ((M1.out).own2 hx2 ho2 hv2 (Nat.le_refl _) (by decide))
 clear M1 lt1_0
 have lt2_2:=M2.out.hi 2
 clear hx2 ho2 hv2
 go_wp2_with fail
 refine(HSp.out _ _ _ _ _ (M2.out).ext ⟨((M2.out).sl (i:=0) rfl),((M2.out).sl (i:=1) rfl)⟩).mono ?_
 rintro e w3 ⟨p2,c2,q2,d2,rfl,ho3,hv3,hx3⟩
 have M3:=xQ ((M2.out).own2 hx3 ho3 hv3 (Nat.le_refl _) (by decide))
 clear M2 lt2_2
 have lt3_4:=M3.out.hi 4
 clear hx3 ho3 hv3
 go_upto_region 6 with fail
 obtain⟨g2,hg2⟩: ∃g2,g2=w3.heap.size:=⟨_,rfl⟩
 rw[←hg2]
 have M4:=xQ (((M3.out).blkNew aO #[r.aA,r.aB,.slice p2 r.cells.length c2,r.free,r.step,r.aE,r.aF,r.aC,r.aG,.slice q2 r.vs.length d2] g2 hg2.symm))
 generalize World.alloc _ _=v2 at M4⊢
 clear M3 lt3_4
 have lt4_0:=M4.out.hi 0
 have lt4_5:=M4.out.hi 5
 clear hg2
 obtain⟨ca0,ca1,ca2,ca3,ca4,ca5,ca6,ca7,ca8,ca9⟩:=(M4.out.blk (i:=5) rfl).ten
 go_wp2_with fail
 clear ca0 ca1 ca2 ca3 ca4 ca5 ca6 ca7 ca8 ca9
 refine(HT.out _ ((show Mem w v2 [aL w.heap.size (g2) aO #[r.aA,r.aB,.slice p2 r.cells.length c2,r.free,r.step,r.aE,r.aF,r.aC,r.aG,.slice q2 r.vs.length d2],aJ w.heap.size TI 1 (p2) (r.cells.length) (c2) (ivs r.cells),aJ w.heap.size TV 4 (q2) (r.vs.length) (d2) (r.vs.flatMap aD),aL w.heap.size (w.heap.size) 29 #[aA,aB,.slice p n cp,free,step,aE,aF,aC,aG,.slice q m cq]]from(M4.out).pick [0,1,2,5] (by decide) rfl)).ext).mono ?_
 rintro e w5 ⟨p3,c3,q3,d3,rfl,ho5,hv5,hx5⟩
 have M5:=xQ (show Mem w w5 [aJ w.heap.size TI 1 (p3) (n) (c3) (ivs cells),aJ w.heap.size TV 4 (q3) (m) (d3) (vs.flatMap aD),aL w.heap.size (g2) aO #[r.aA,r.aB,.slice p2 r.cells.length c2,r.free,r.step,r.aE,r.aF,r.aC,r.aG,.slice q2 r.vs.length d2],aJ w.heap.size TI 1 (p2) (r.cells.length) (c2) (ivs r.cells),aJ w.heap.size TV 4 (q2) (r.vs.length) (d2) (r.vs.flatMap aD),aL w.heap.size (w.heap.size) 29 #[aA,aB,.slice p n cp,free,step,aE,aF,aC,aG,.slice q m cq]]from((show Mem w v2 [aL w.heap.size (g2) aO #[r.aA,r.aB,.slice p2 r.cells.length c2,r.free,r.step,r.aE,r.aF,r.aC,r.aG,.slice q2 r.vs.length d2],aJ w.heap.size TI 1 (p2) (r.cells.length) (c2) (ivs r.cells),aJ w.heap.size TV 4 (q2) (r.vs.length) (d2) (r.vs.flatMap aD),aL w.heap.size (w.heap.size) 29 #[aA,aB,.slice p n cp,free,step,aE,aF,aC,aG,.slice q m cq]]from(M4.out).pick [0,1,2,5] (by decide) rfl)).own2 hx5 ho5 hv5 (Nat.le_refl _) (by decide))
 clear M4 lt4_0 lt4_5
 have lt5_2:=M5.out.hi 2
 have lt5_5:=M5.out.hi 5
 clear hx5 ho5 hv5
 go_upto_region 7 with fail
 obtain⟨gX,hgX⟩: ∃gX,gX=w5.heap.size:=⟨_,rfl⟩
 rw[←hgX]
 have M6:=xQ (((M5.out).blkNew aO #[aA,aB,.slice p3 n c3,free,step,aE,aF,aC,aG,.slice q3 m d3] gX hgX.symm))
 generalize World.alloc _ _=v3 at M6⊢
 clear M5 lt5_2 lt5_5
 have lt6_0:=M6.out.hi 0
 have lt6_3:=M6.out.hi 3
 have lt6_6:=M6.out.hi 6
 clear hgX
 obtain⟨ca0,ca1,ca2,ca3,ca4,ca5,ca6,ca7,ca8,ca9⟩:=(M6.out.blk (i:=0) rfl).ten
 go_wp2_with fail
 clear ca0 ca1 ca2 ca3 ca4 ca5 ca6 ca7 ca8 ca9
 refine(HIm.out _ _ _ _ _ (M6.out).ext ⟨((M6.out).sl (i:=1) rfl),((M6.out).sl (i:=2) rfl)⟩).mono ?_
 rintro e w7 ⟨p4,c4,q4,d4,rfl,ho7,hv7,hx7⟩
 have M7:=xQ ((M6.out).own2 hx7 ho7 hv7 (Nat.le_refl _) (by decide))
 clear M6 lt6_0 lt6_3 lt6_6
 have lt7_2:=M7.out.hi 2
 have lt7_5:=M7.out.hi 5
 have lt7_8:=M7.out.hi 8
 clear hx7 ho7 hv7
 go_upto_region 8 with fail
 obtain⟨g4,hg4⟩: ∃g4,g4=w7.heap.size:=⟨_,rfl⟩
 rw[←hg4]
 have M8:=xQ (((M7.out).blkNew aO #[r.aA,r.aB,.slice p4 r.cells.length c4,r.free,r.step,r.aE,r.aF,r.aC,r.aG,.slice q4 r.vs.length d4] g4 hg4.symm))
 generalize World.alloc _ _=v4 at M8⊢
 clear M7 lt7_2 lt7_5 lt7_8
 have lt8_0:=M8.out.hi 0
 have lt8_3:=M8.out.hi 3
 have lt8_6:=M8.out.hi 6
 have lt8_9:=M8.out.hi 9
 clear hg4
 obtain⟨ca0,ca1,ca2,ca3,ca4,ca5,ca6,ca7,ca8,ca9⟩:=(M8.out.blk (i:=0) rfl).ten
 obtain⟨cb0,cb1,cb2,cb3,cb4,cb5,cb6,cb7,cb8,cb9⟩:=(M8.out.blk (i:=6) rfl).ten
 go_wp2_with fail
 clear ca0 ca1 ca2 ca3 ca4 ca5 ca6 ca7 ca8 ca9 cb0 cb1 cb2 cb3 cb4 cb5 cb6 cb7 cb8 cb9
 refine(eR r _ _ _ _ _ _ _ _ _ _ _ ⟨((M8.out).sl (i:=1) rfl),((M8.out).sl (i:=2) rfl)⟩ ⟨((M8.out).sl (i:=7) rfl),((M8.out).sl (i:=8) rfl)⟩).mono ?_
 rintro e w9 ⟨rfl,hx9⟩
 have M9:=xQ ((M8.out).adv hx9)
 clear M8 lt8_0 lt8_3 lt8_6 lt8_9
 have lt9_0:=M9.out.hi 0
 have lt9_3:=M9.out.hi 3
 have lt9_6:=M9.out.hi 6
 have lt9_9:=M9.out.hi 9
 clear hx9
 have ID7:=xQ (show IsHouse w9 ⟨aA,aB,cells,free,step,aE,aF,aC,aG,vs⟩ p3 n c3 q3 m d3 from⟨(M9.out.sl (i:=4) rfl),(M9.out.sl (i:=5) rfl)⟩)
 go_wp2
 refine cS (gl [gEq (.agg #[aA,aB,.slice p3 n c3,free,step,aE,aF,aC,aG,.slice q3 m d3]),gEq (.agg #[aA,aB,.slice p n cp,free,step,aE,aF,aC,aG,.slice q m cq]),(fun v w'=> ∃q c r e,v= .agg #[aA,aB,.slice q n c,free,step,aE,aF,aC,aG,.slice r m e]∧IsHouse w' ⟨aA,aB,cells,free,step,aE,aF,aC,aG,vs⟩ q n c r m e),gEq (.bool true),gEq (.bool false)]) 5 (by kernel_rfl) rfl (by kernel_rfl) (by kernel_rfl) (by kernel_rfl) (eG (aK (aH _) (aK (aH _) (aK (fun v w w' ⟨q,c,r,e,he,ho⟩ hx=>⟨q,c,r,e,he,ho.ext hx⟩) (aK (aH _) (aK (aH _) (fK))))))) (k:=5) (by kernel_rfl) (by decide) (ls:= [(0,some 27),(1,some 28),(2,some 29),(3,some 30),(4,some 31)]) (by kernel_rfl) (ir:= [0,1,2,3,4]) (by kernel_rfl) ?steps (tl:=#[true,true,true,true,true]) (by kernel_rfl) ?fin
 case steps=>
  refine sC [] rfl (fun wi hx=> ?_) ?_
  ·intro K hK
   have hX:Ext w9 wi:=xE
   obtain⟨cl0,cl1,cl2,cl3,cl4,cl5,cl6,cl7,cl8,cl9⟩:=(((M9.out.blk (i:=3) rfl).ext hX)).ten
   go_simp
   exact hK _ _ ⟨.agg #[aA,aB,.slice p3 n c3,free,step,aE,aF,aC,aG,.slice q3 m d3],rfl,rfl,Ext.refl _⟩
  refine sC [] rfl (fun wi hx=> ?_) ?_
  ·intro K hK
   have hX:Ext w9 wi:=xE
   obtain⟨cl0,cl1,cl2,cl3,cl4,cl5,cl6,cl7,cl8,cl9⟩:=(((M9.out.blk (i:=9) rfl).ext hX)).ten
   go_simp
   exact hK _ _ ⟨.agg #[aA,aB,.slice p n cp,free,step,aE,aF,aC,aG,.slice q m cq],rfl,rfl,Ext.refl _⟩
  refine sC [(1,some 28)] rfl (fun wi hx=> ?_) ?_
  ·intro v1 h1 K hK
   obtain rfl:=h1
   go_simp
   refine(HT.out _ (M9.out.ext.trans hx.of_drew)).mono ?_
   rintro e w5 ⟨q21,c21,r21,e21,rfl,hm21,hn21,hx5⟩
   have ho21:IsHouse w5 ⟨aA,aB,cells,free,step,aE,aF,aC,aG,vs⟩ q21 n c21 r21 m e21:=⟨Sl.own hm21,Sl.own hn21⟩
   go_simp
   exact hK _ _ ⟨.agg #[aA,aB,.slice q21 n c21,free,step,aE,aF,aC,aG,.slice r21 m e21],rfl,⟨q21,c21,r21,e21,rfl,ho21⟩,hx5⟩
  refine sC [(0,some 27),(2,some 29)] rfl (fun wi hx=> ?_) ?_
  ·intro v0 h0 v2 h2 K hK
   obtain rfl:=h0
   obtain⟨q21,c21,r21,e21,rfl,ho21⟩:=h2
   go_simp
   refine(eR ⟨aA,aB,cells,free,step,aE,aF,aC,aG,vs⟩ _ _ _ _ _ _ _ _ _ _ _ (ID7.out.ext hx.of_drew) ho21).mono ?_
   rintro e w5 ⟨rfl,hx5⟩
   go_simp
   exact hK _ _ ⟨.bool true,rfl,rfl,hx5⟩
  refine sC [(3,some 30)] rfl (fun wi hx=> ?_) StepsL.nil
  ·intro v3 h3 K hK
   obtain rfl:=h3
   go_simp
   exact hK _ _ ⟨.bool false,rfl,rfl,Ext.refl _⟩
 case fin=>
  intro wi hx v0 h0 v1 h1 v2 h2 v3 h3 v4 h4
  obtain rfl:=h0
  obtain rfl:=h1
  obtain⟨q21,c21,r21,e21,rfl,ho21⟩:=h2
  obtain rfl:=h3
  obtain rfl:=h4
  refine wpAny_done (by kernel_rfl) ?_ _
  try simp only[Act.put,List.setIfInBounds_toArray,List.set_cons_zero,List.set_cons_succ]
  have hX:Ext w9 wi:=hx.of_drew
  have MI:=xQ (M9.out.adv hX)
  clear hX hx ID7 M9 lt9_0 lt9_3 lt9_6 lt9_9
  have lt50_0:g4<wi.heap.size:=(MI.out.lt (i:=0) rfl rfl).2
  have lt50_3:gX<wi.heap.size:=(MI.out.lt (i:=3) rfl rfl).2
  have lt50_6:g2<wi.heap.size:=(MI.out.lt (i:=6) rfl rfl).2
  have lt50_9:w.heap.size<wi.heap.size:=(MI.out.lt (i:=9) rfl rfl).2
  obtain⟨ca0,ca1,ca2,ca3,ca4,ca5,ca6,ca7,ca8,ca9⟩:=(MI.out.blk (i:=3) rfl).ten
  go_wp2_with fail
  clear ca0 ca1 ca2 ca3 ca4 ca5 ca6 ca7 ca8 ca9
  refine(jZ _ _ _ _ _ _ _ _ p3 _ _ q3 _ _ 1 _ _ _ _ _ ((show Mem w wi [aJ w.heap.size TI 1 (p3) (n) (c3) (ivs cells),aJ w.heap.size TV 4 (q3) (m) (d3) (vs.flatMap aD),aL w.heap.size (gX) aO #[aA,aB,.slice p3 n c3,free,step,aE,aF,aC,aG,.slice q3 m d3],aJ w.heap.size TI 1 (p4) (r.cells.length) (c4) (ivs r.cells),aJ w.heap.size TV 4 (q4) (r.vs.length) (d4) (r.vs.flatMap aD),aL w.heap.size (g4) aO #[r.aA,r.aB,.slice p4 r.cells.length c4,r.free,r.step,r.aE,r.aF,r.aC,r.aG,.slice q4 r.vs.length d4],aL w.heap.size (g2) aO #[r.aA,r.aB,.slice p2 r.cells.length c2,r.free,r.step,r.aE,r.aF,r.aC,r.aG,.slice q2 r.vs.length d2],aJ w.heap.size TI 1 (p2) (r.cells.length) (c2) (ivs r.cells),aJ w.heap.size TV 4 (q2) (r.vs.length) (d2) (r.vs.flatMap aD),aL w.heap.size (w.heap.size) 29 #[aA,aB,.slice p n cp,free,step,aE,aF,aC,aG,.slice q m cq]]from(MI.out).pick [4,5,3,1,2,0,6,7,8,9] (by decide) rfl)) (by omega) (by omega) (by omega) (by omega)).mono ?_
  rintro e w51 ⟨rfl,hm51⟩
  have M51:=xQ (hm51)
  clear MI lt50_0 lt50_3 lt50_6 lt50_9
  have lt51_2:=M51.out.hi 2
  have lt51_5:=M51.out.hi 5
  have lt51_6:=M51.out.hi 6
  have lt51_9:=M51.out.hi 9
  clear hm51
  have k1:(0:Int)≤1+(n:Nat)+(m*4:Nat):=by omega
  have k2:decide ((1:Int)+(n:Nat)+(m*4:Nat)<0)=false:=by simp;omega
  obtain⟨ca0,ca1,ca2,ca3,ca4,ca5,ca6,ca7,ca8,ca9⟩:=(M51.out.blk (i:=5) rfl).ten
  obtain⟨cb0,cb1,cb2,cb3,cb4,cb5,cb6,cb7,cb8,cb9⟩:=(M51.out.blk (i:=6) rfl).ten
  go_wp2_with fail
  clear ca0 ca1 ca2 ca3 ca4 ca5 ca6 ca7 ca8 ca9 cb0 cb1 cb2 cb3 cb4 cb5 cb6 cb7 cb8 cb9
  refine(eR r _ _ _ _ _ _ _ _ _ _ _ ⟨(((show Mem w w51 [aJ w.heap.size TI 1 (p4) (r.cells.length) (c4) (ivs r.cells),aJ w.heap.size TV 4 (q4) (r.vs.length) (d4) (r.vs.flatMap aD),aL w.heap.size (g4) aO #[r.aA,r.aB,.slice p4 r.cells.length c4,r.free,r.step,r.aE,r.aF,r.aC,r.aG,.slice q4 r.vs.length d4],aL w.heap.size (g2) aO #[r.aA,r.aB,.slice p2 r.cells.length c2,r.free,r.step,r.aE,r.aF,r.aC,r.aG,.slice q2 r.vs.length d2],aJ w.heap.size TI 1 (p2) (r.cells.length) (c2) (ivs r.cells),aJ w.heap.size TV 4 (q2) (r.vs.length) (d2) (r.vs.flatMap aD),aL w.heap.size (w.heap.size) 29 #[aA,aB,.slice p n cp,free,step,aE,aF,aC,aG,.slice q m cq]]from(M51.out).pick [3,4,5,6,7,8,9] (by decide) rfl)).sl (i:=0) rfl),(((show Mem w w51 [aJ w.heap.size TI 1 (p4) (r.cells.length) (c4) (ivs r.cells),aJ w.heap.size TV 4 (q4) (r.vs.length) (d4) (r.vs.flatMap aD),aL w.heap.size (g4) aO #[r.aA,r.aB,.slice p4 r.cells.length c4,r.free,r.step,r.aE,r.aF,r.aC,r.aG,.slice q4 r.vs.length d4],aL w.heap.size (g2) aO #[r.aA,r.aB,.slice p2 r.cells.length c2,r.free,r.step,r.aE,r.aF,r.aC,r.aG,.slice q2 r.vs.length d2],aJ w.heap.size TI 1 (p2) (r.cells.length) (c2) (ivs r.cells),aJ w.heap.size TV 4 (q2) (r.vs.length) (d2) (r.vs.flatMap aD),aL w.heap.size (w.heap.size) 29 #[aA,aB,.slice p n cp,free,step,aE,aF,aC,aG,.slice q m cq]]from(M51.out).pick [3,4,5,6,7,8,9] (by decide) rfl)).sl (i:=1) rfl)⟩ ⟨(((show Mem w w51 [aJ w.heap.size TI 1 (p4) (r.cells.length) (c4) (ivs r.cells),aJ w.heap.size TV 4 (q4) (r.vs.length) (d4) (r.vs.flatMap aD),aL w.heap.size (g4) aO #[r.aA,r.aB,.slice p4 r.cells.length c4,r.free,r.step,r.aE,r.aF,r.aC,r.aG,.slice q4 r.vs.length d4],aL w.heap.size (g2) aO #[r.aA,r.aB,.slice p2 r.cells.length c2,r.free,r.step,r.aE,r.aF,r.aC,r.aG,.slice q2 r.vs.length d2],aJ w.heap.size TI 1 (p2) (r.cells.length) (c2) (ivs r.cells),aJ w.heap.size TV 4 (q2) (r.vs.length) (d2) (r.vs.flatMap aD),aL w.heap.size (w.heap.size) 29 #[aA,aB,.slice p n cp,free,step,aE,aF,aC,aG,.slice q m cq]]from(M51.out).pick [3,4,5,6,7,8,9] (by decide) rfl)).sl (i:=4) rfl),(((show Mem w w51 [aJ w.heap.size TI 1 (p4) (r.cells.length) (c4) (ivs r.cells),aJ w.heap.size TV 4 (q4) (r.vs.length) (d4) (r.vs.flatMap aD),aL w.heap.size (g4) aO #[r.aA,r.aB,.slice p4 r.cells.length c4,r.free,r.step,r.aE,r.aF,r.aC,r.aG,.slice q4 r.vs.length d4],aL w.heap.size (g2) aO #[r.aA,r.aB,.slice p2 r.cells.length c2,r.free,r.step,r.aE,r.aF,r.aC,r.aG,.slice q2 r.vs.length d2],aJ w.heap.size TI 1 (p2) (r.cells.length) (c2) (ivs r.cells),aJ w.heap.size TV 4 (q2) (r.vs.length) (d2) (r.vs.flatMap aD),aL w.heap.size (w.heap.size) 29 #[aA,aB,.slice p n cp,free,step,aE,aF,aC,aG,.slice q m cq]]from(M51.out).pick [3,4,5,6,7,8,9] (by decide) rfl)).sl (i:=5) rfl)⟩).mono ?_
  rintro e w52 ⟨rfl,hx52⟩
  have M52:=xQ (show Mem w w52 [aJ w.heap.size TI 1 (p4) (r.cells.length) (c4) (ivs r.cells),aJ w.heap.size TV 4 (q4) (r.vs.length) (d4) (r.vs.flatMap aD),aL w.heap.size (g4) aO #[r.aA,r.aB,.slice p4 r.cells.length c4,r.free,r.step,r.aE,r.aF,r.aC,r.aG,.slice q4 r.vs.length d4],aL w.heap.size (g2) aO #[r.aA,r.aB,.slice p2 r.cells.length c2,r.free,r.step,r.aE,r.aF,r.aC,r.aG,.slice q2 r.vs.length d2],aJ w.heap.size TI 1 (p2) (r.cells.length) (c2) (ivs r.cells),aJ w.heap.size TV 4 (q2) (r.vs.length) (d2) (r.vs.flatMap aD),aL w.heap.size (w.heap.size) 29 #[aA,aB,.slice p n cp,free,step,aE,aF,aC,aG,.slice q m cq]]from((show Mem w w51 [aJ w.heap.size TI 1 (p4) (r.cells.length) (c4) (ivs r.cells),aJ w.heap.size TV 4 (q4) (r.vs.length) (d4) (r.vs.flatMap aD),aL w.heap.size (g4) aO #[r.aA,r.aB,.slice p4 r.cells.length c4,r.free,r.step,r.aE,r.aF,r.aC,r.aG,.slice q4 r.vs.length d4],aL w.heap.size (g2) aO #[r.aA,r.aB,.slice p2 r.cells.length c2,r.free,r.step,r.aE,r.aF,r.aC,r.aG,.slice q2 r.vs.length d2],aJ w.heap.size TI 1 (p2) (r.cells.length) (c2) (ivs r.cells),aJ w.heap.size TV 4 (q2) (r.vs.length) (d2) (r.vs.flatMap aD),aL w.heap.size (w.heap.size) 29 #[aA,aB,.slice p n cp,free,step,aE,aF,aC,aG,.slice q m cq]]from(M51.out).pick [3,4,5,6,7,8,9] (by decide) rfl)).adv hx52)
  clear M51 lt51_2 lt51_5 lt51_6 lt51_9
  have lt52_2:=M52.out.hi 2
  have lt52_3:=M52.out.hi 3
  have lt52_6:=M52.out.hi 6
  clear hx52
  obtain⟨ca0,ca1,ca2,ca3,ca4,ca5,ca6,ca7,ca8,ca9⟩:=(M52.out.blk (i:=2) rfl).ten
  go_wp2_with fail
  clear ca0 ca1 ca2 ca3 ca4 ca5 ca6 ca7 ca8 ca9
  refine(jZ _ _ _ _ _ _ _ _ p4 _ _ q4 _ _ 1 _ _ _ _ _ ((show Mem w w52 [aJ w.heap.size TI 1 (p4) (r.cells.length) (c4) (ivs r.cells),aJ w.heap.size TV 4 (q4) (r.vs.length) (d4) (r.vs.flatMap aD),aL w.heap.size (g4) aO #[r.aA,r.aB,.slice p4 r.cells.length c4,r.free,r.step,r.aE,r.aF,r.aC,r.aG,.slice q4 r.vs.length d4],aL w.heap.size (g2) aO #[r.aA,r.aB,.slice p2 r.cells.length c2,r.free,r.step,r.aE,r.aF,r.aC,r.aG,.slice q2 r.vs.length d2],aJ w.heap.size TI 1 (p2) (r.cells.length) (c2) (ivs r.cells),aJ w.heap.size TV 4 (q2) (r.vs.length) (d2) (r.vs.flatMap aD),aL w.heap.size (w.heap.size) 29 #[aA,aB,.slice p n cp,free,step,aE,aF,aC,aG,.slice q m cq]]from(M52.out).pick [0,1,2,3,4,5,6] (by decide) rfl)) (by omega) (by omega) (by omega) (by omega)).mono ?_
  rintro e w53 ⟨rfl,hm53⟩
  have M53:=xQ (hm53)
  clear M52 lt52_2 lt52_3 lt52_6
  have lt53_2:=M53.out.hi 2
  have lt53_3:=M53.out.hi 3
  have lt53_6:=M53.out.hi 6
  clear hm53
  have k3:(0:Int)≤1+(r.cells.length:Nat)+(r.vs.length*4:Nat):=by omega
  have k4:decide ((1:Int)+(r.cells.length:Nat)+(r.vs.length*4:Nat)<0)=false:=by simp;omega
  obtain⟨ca0,ca1,ca2,ca3,ca4,ca5,ca6,ca7,ca8,ca9⟩:=(M53.out.blk (i:=2) rfl).ten
  go_wp2_with fail
  clear ca0 ca1 ca2 ca3 ca4 ca5 ca6 ca7 ca8 ca9
  refine(kC _ _ _ _ _ _ _ _ p4 r.cells.length _ q4 r.vs.length _ 1 _ _ (M53.out.own (i:=0) rfl) (M53.out.own (i:=1) rfl) (by omega) (by omega) (by omega) (by omega)).mono ?_
  rintro e w54 ⟨rfl,hx54⟩
  have M54:=xQ ((M53.out).adv hx54)
  clear M53 lt53_2 lt53_3 lt53_6
  have lt54_2:=M54.out.hi 2
  have lt54_3:=M54.out.hi 3
  have lt54_6:=M54.out.hi 6
  clear hx54
  obtain⟨ca0,ca1,ca2,ca3,ca4,ca5,ca6,ca7,ca8,ca9⟩:=(M54.out.blk (i:=6) rfl).ten
  go_wp2_with fail
  clear ca0 ca1 ca2 ca3 ca4 ca5 ca6 ca7 ca8 ca9
  refine(HT.out _ (M54.out).ext).mono ?_
  rintro e w55 ⟨p5,c5,q5,d5,rfl,ho55,hv55,hx55⟩
  have M55:=xQ ((M54.out).own2 hx55 ho55 hv55 (Nat.le_refl _) (by decide))
  clear M54 lt54_2 lt54_3 lt54_6
  have lt55_4:=M55.out.hi 4
  have lt55_5:=M55.out.hi 5
  have lt55_8:=M55.out.hi 8
  clear hx55 ho55 hv55
  go_wp2_with fail
  refine(HIm.out _ _ _ _ _ (M55.out).ext ⟨((M55.out).sl (i:=0) rfl),((M55.out).sl (i:=1) rfl)⟩).mono ?_
  rintro e w56 ⟨p6,c6,q6,d6,rfl,ho56,hv56,hx56⟩
  have M56:=xQ ((M55.out).own2 hx56 ho56 hv56 (Nat.le_refl _) (by decide))
  clear M55 lt55_4 lt55_5 lt55_8
  have lt56_6:=M56.out.hi 6
  have lt56_7:=M56.out.hi 7
  have lt56_10:=M56.out.hi 10
  clear hx56 ho56 hv56
  go_upto_region 25 with fail
  obtain⟨g6,hg6⟩: ∃g6,g6=w56.heap.size:=⟨_,rfl⟩
  rw[←hg6]
  have M57:=xQ (((M56.out).blkNew aO #[r.aA,r.aB,.slice p6 r.cells.length c6,r.free,r.step,r.aE,r.aF,r.aC,r.aG,.slice q6 r.vs.length d6] g6 hg6.symm))
  generalize World.alloc _ _=v6 at M57⊢
  clear M56 lt56_6 lt56_7 lt56_10
  have lt57_0:=M57.out.hi 0
  have lt57_7:=M57.out.hi 7
  have lt57_8:=M57.out.hi 8
  have lt57_11:=M57.out.hi 11
  clear hg6
  obtain⟨ca0,ca1,ca2,ca3,ca4,ca5,ca6,ca7,ca8,ca9⟩:=(M57.out.blk (i:=0) rfl).ten
  obtain⟨cb0,cb1,cb2,cb3,cb4,cb5,cb6,cb7,cb8,cb9⟩:=(M57.out.blk (i:=8) rfl).ten
  go_wp2_with fail
  clear ca0 ca1 ca2 ca3 ca4 ca5 ca6 ca7 ca8 ca9 cb0 cb1 cb2 cb3 cb4 cb5 cb6 cb7 cb8 cb9
  refine(eR r _ _ _ _ _ _ _ _ _ _ _ ⟨((M57.out).sl (i:=1) rfl),((M57.out).sl (i:=2) rfl)⟩ ⟨((M57.out).sl (i:=9) rfl),((M57.out).sl (i:=10) rfl)⟩).mono ?_
  rintro e w58 ⟨rfl,hx58⟩
  have M58:=xQ ((M57.out).adv hx58)
  clear M57 lt57_0 lt57_7 lt57_8 lt57_11
  have lt58_0:=M58.out.hi 0
  have lt58_7:=M58.out.hi 7
  have lt58_8:=M58.out.hi 8
  have lt58_11:=M58.out.hi 11
  clear hx58
  obtain⟨ca0,ca1,ca2,ca3,ca4,ca5,ca6,ca7,ca8,ca9⟩:=(M58.out.blk (i:=7) rfl).ten
  go_wp2_with fail
  clear ca0 ca1 ca2 ca3 ca4 ca5 ca6 ca7 ca8 ca9
  refine(kC _ _ _ _ _ _ _ _ p4 r.cells.length _ q4 r.vs.length _ 1 _ _ (M58.out.own (i:=5) rfl) (M58.out.own (i:=6) rfl) (by omega) (by omega) (by omega) (by omega)).mono ?_
  rintro e w59 ⟨rfl,hx59⟩
  have M59:=xQ ((M58.out).adv hx59)
  clear M58 lt58_0 lt58_7 lt58_8 lt58_11
  have lt59_0:=M59.out.hi 0
  have lt59_7:=M59.out.hi 7
  have lt59_8:=M59.out.hi 8
  have lt59_11:=M59.out.hi 11
  clear hx59
  go_wp2
  go_ret
  exact⟨rfl,M59.out.ext⟩
theorem aH6 (aA aB free step aE aF aC aG:Int)(cells:List Int)(vs:List aQ)(p:OA)(n cp:Nat)(q:OA)(m cq:Nat)(r:aT)(w:World)(HZ:Hid (∀w,Calls Tryz.prog 10 #[.agg #[aA,aB,.slice p n cp,free,step,aE,aF,aC,aG,.slice q m cq],.int .i64 1048576] w fun e w'=>e= .returned (.int .i64 (-1))∧Ext w w')):
  Calls Tryz.prog 3 #[.agg #[aA,aB,.slice p n cp,free,step,aE,aF,aC,aG,.slice q m cq]] w fun e w'=>e= .returned (.bool true)∧Ext w w':=by
 go_enter Tryz.func3,Tryz.ntmps3
 go_wp2_with fail
 refine(HZ.out _).mono ?_
 rintro e w1 ⟨rfl,h1⟩
 go_wp2
 go_ret
 exact⟨rfl,xE⟩
theorem walk_FnExactHouseEnd (W:World)(v:Value)(y:aT×(OA×Nat)×(OA×Nat))(f:v=bS y.1 y.2.1.1 y.1.cells.length y.2.1.2 y.2.2.1 y.1.vs.length y.2.2.2∧IsHouse W y.1 y.2.1.1 y.1.cells.length y.2.1.2 y.2.2.1 y.1.vs.length y.2.2.2∧pO y.1)(hE:BitTab W):
  Calls Tryz.prog 3 #[v] W fun e w'=>e= .returned (.bool true)∧Ext W w':=by
 obtain⟨rfl,hi,_⟩:=f
 obtain⟨h,⟨p,cp⟩,⟨q,cq⟩⟩:=y
 by_cases hs:h.cells.length+h.vs.length≤1048576
 ·have hl:=xZ h (bP (cT h) (cV h))
  exact aJ5 h.aA h.aB h.free h.step h.aE h.aF h.aC h.aG h.cells h.vs p h.cells.length cp q h.vs.length cq (aH7 h) W hs hl.1 hl.2.1 (fun w=>oY h p h.cells.length cp q h.vs.length cq w hs) (fun w hx=>pZ h p h.cells.length cp q h.vs.length cq w (by omega) (by omega) (hi.ext hx))
   (fun p c q d w' hx hi'=>vB h p _ c q _ d w' (by omega) hi') (fun p c q d w' hx hi'=>vV h p _ c q _ d w' (by omega) hi' (hE.ext hx))
 ·exact aH6 h.aA h.aB h.free h.step h.aE h.aF h.aC h.aG h.cells h.vs p h.cells.length cp q h.vs.length cq h W (fun w=>aCa h p h.cells.length cp q h.vs.length cq w hi.cells.bd hi.vs.bd (by omega))
end Go.Proofs.YtgnkoffndhmhpaaGreatDoor
