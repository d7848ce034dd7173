/-
  A law's walk or frame (@packed).
-/
import Derived.Deep.CutBlock
import Derived.Test.YtgnkoffndhmhpaaGreatDoorR4
import Derived.Test.YtgnkoffndhmhpaaGreatDoorR10
import Derived.Test.YtgnkoffndhmhpaaGreatDoorR24
import Derived.Test.YtgnkoffndhmhpaaGreatDoorR37
import Derived.Test.YtgnkoffndhmhpaaGreatDoorR38
import Derived.Test.YtgnkoffndhmhpaaGreatDoorR39
namespace Go.Proofs.YtgnkoffndhmhpaaGreatDoor
open Go.RowKit
set_option linter.unusedVariables false
set_option linter.unusedSimpArgs false
set_option maxHeartbeats 8000000
set_option maxRecDepth 100000
theorem Mem.own3 {w0 w w':World}{L:List Item}{e1 e2 e3:TypeId}{s1 s2 s3 n1 n2 n3 c1 c2 c3 b:Nat}{q1 q2 q3:OA}{xs1 xs2 xs3:List Value}(h:Mem w0 w L)(hx:Ext w w')(h1:w'.ownsRow b e1 s1 (.slice q1 n1 c1) n1 xs1)(h2:w'.ownsRow b e2 s2 (.slice q2 n2 c2) n2 xs2)(h3:w'.ownsRow b e3 s3 (.slice q3 n3 c3) n3 xs3)(hb:w.heap.size≤b)(t12:e1≠e2)(t13:e1≠e3)(t23:e2≠e3):
  Mem w0 w' (aJ w0.heap.size e1 s1 q1 n1 c1 xs1::aJ w0.heap.size e2 s2 q2 n2 c2 xs2::aJ w0.heap.size e3 s3 q3 n3 c3 xs3::L):=by
 have p12:=List.pairwise_cons.1 (h.own2 hx h1 h2 hb t12).apart
 have p13:=List.pairwise_cons.1 (h.own2 hx h1 h3 hb t13).apart
 refine(h.own2 hx h2 h3 hb t23).cons (gJ _ _ _ _ _ _ _) (eO h1 (Nat.le_trans h.ext.sz hb)) (fun g' hg' j hj e=> ?_)
 rcases List.mem_cons.1 hj with rfl|hj
 ·exact p12.1 _ (by simp) g' hg' e
 ·exact p13.1 j (by rcases List.mem_cons.1 hj with rfl|hj<;>simp_all) g' hg' e
theorem aJ4 (aA aB free step aE aF aC aG:Int)(cells:List Int)(vs:List aQ)(p:OA)(n cp:Nat)(q:OA)(m cq:Nat)(lq:OA)(lm lc:Nat)(ds:List Dd3)(r:aT)(bs:List Bool)(nb:Nat)(w:World)(hsz:n+m≤1048576)(hsz2:n+m+lm≤1048576)(hs1:r.cells.length≤1000)(hs2:r.vs.length≤1000)(hs3:nb≤1048576)
  (HZ:Hid (∀w,Calls Tryz.prog 10 #[.agg #[aA,aB,.slice p n cp,free,step,aE,aF,aC,aG,.slice q m cq],.int .i64 1048576] w fun e w'=>e= .returned (.int .i64 (1048576-n-m))∧Ext w w'))
  (HZD:Hid (∀w,Calls Tryz.prog 17 #[.slice lq lm lc,(1048576-n-m:Int)] w fun e w'=>e= .returned (.int .i64 (1048576-n-m-lm))∧Ext w w'))
  (HT:xC 12 #[.agg #[aA,aB,.slice p n cp,free,step,aE,aF,aC,aG,.slice q m cq]] w fun w' e w''=> ∃pa ca qa da,e= .returned (.agg #[aA,aB,.slice pa n ca,free,step,aE,aF,aC,aG,.slice qa m da])∧w''.ownsRow w'.heap.size TI 1 (.slice pa n ca) n (ivs cells)∧w''.ownsRow w'.heap.size TV 4 (.slice qa m da) m (vs.flatMap aD)∧Ext w' w'')
  (HTD:xC 19 #[.slice lq lm lc] w fun w' e w''=> ∃qa ca,e= .returned (.slice qa lm ca)∧w''.ownsRow w'.heap.size TDd 3 (.slice qa lm ca) lm (ds.flatMap aX)∧Ext w' w'')
  (HSp:Hid (∀p c q d lp l w',Ext w w'→IsHouse w' ⟨aA,aB,cells,free,step,aE,aF,aC,aG,vs⟩ p n c q m d→Sl w' lp lm l 3 (ds.flatMap aX)→Calls Tryz.prog 18 #[.agg #[aA,aB,.slice p n c,free,step,aE,aF,aC,aG,.slice q m d],.slice lp lm l] w' fun e w''=> ∃pa ca qa da ps cs,e= .returned (.tuple #[.agg #[r.aA,r.aB,.slice pa r.cells.length ca,r.free,r.step,r.aE,r.aF,r.aC,r.aG,.slice qa r.vs.length da],.slice ps nb cs])∧w''.ownsRow w'.heap.size TI 1 (.slice pa r.cells.length ca) r.cells.length (ivs r.cells)∧w''.ownsRow w'.heap.size TV 4 (.slice qa r.vs.length da) r.vs.length (r.vs.flatMap aD)∧w''.ownsRow w'.heap.size TB 1 (.slice ps nb cs) nb (bcs bs)∧Ext w' w''))
  (HIm:Hid (∀p c q d lp l w',Ext w w'→IsHouse w' ⟨aA,aB,cells,free,step,aE,aF,aC,aG,vs⟩ p n c q m d→Sl w' lp lm l 3 (ds.flatMap aX)→Calls Tryz.prog 20 #[.agg #[aA,aB,.slice p n c,free,step,aE,aF,aC,aG,.slice q m d],.slice lp lm l] w' fun e w''=> ∃pa ca qa da ps cs,e= .returned (.tuple #[.agg #[r.aA,r.aB,.slice pa r.cells.length ca,r.free,r.step,r.aE,r.aF,r.aC,r.aG,.slice qa r.vs.length da],.slice ps nb cs])∧w''.ownsRow w'.heap.size TI 1 (.slice pa r.cells.length ca) r.cells.length (ivs r.cells)∧w''.ownsRow w'.heap.size TV 4 (.slice qa r.vs.length da) r.vs.length (r.vs.flatMap aD)∧w''.ownsRow w'.heap.size TB 1 (.slice ps nb cs) nb (bcs bs)∧Ext w' w'')):
  Calls Tryz.prog 4 #[.agg #[aA,aB,.slice p n cp,free,step,aE,aF,aC,aG,.slice q m cq],.slice lq lm lc] w fun e w'=>e= .returned (.bool true)∧Ext w w':=by
 go_enter Tryz.func4,Tryz.ntmps4
 go_wp2_with fail
 refine(HZ.out _).mono ?_
 rintro e w1 ⟨rfl,hx1⟩
 have M1:=xQ ((Mem.b1 w).adv hx1)
 have lt1_0:=M1.out.hi 0
 clear hx1
 go_wp2_with fail
 refine(HZD.out _).mono ?_
 rintro e w2 ⟨rfl,hx2⟩
 have M2:=xQ ((M1.out).adv hx2)
 clear M1 lt1_0
 have lt2_0:=M2.out.hi 0
 clear hx2
 obtain⟨ca0,ca1,ca2,ca3,ca4,ca5,ca6,ca7,ca8,ca9⟩:=(M2.out.blk (i:=0) rfl).ten
 go_wp2_with fail
 clear ca0 ca1 ca2 ca3 ca4 ca5 ca6 ca7 ca8 ca9
 refine(HT.out _ (M2.out).ext).mono ?_
 rintro e w3 ⟨p1,c1,q1,d1,rfl,ho3,hv3,hx3⟩
 have M3:=xQ ((M2.out).own2 hx3 ho3 hv3 (Nat.le_refl _) (by decide))
 clear M2 lt2_0
 have lt3_2:=M3.out.hi 2
 clear hx3 ho3 hv3
 go_wp2_with fail
 refine(HTD.out _ (M3.out).ext).mono ?_
 rintro e w4 ⟨l1,e1,rfl,ho4,hx4⟩
 have M4:=xQ ((M3.out).call hx4 ho4)
 clear M3 lt3_2
 have lt4_3:=M4.out.hi 3
 clear hx4 ho4
 go_wp2_with fail
 refine(HSp.out _ _ _ _ _ _ _ (M4.out).ext ⟨((M4.out).sl (i:=1) rfl),((M4.out).sl (i:=2) rfl)⟩ ((M4.out).sl (i:=0) rfl)).mono ?_
 rintro e w5 ⟨p2,c2,q2,d2,b2,f2,rfl,ho5,hv5,hb5,hx5⟩
 have M5:=xQ ((M4.out).own3 hx5 ho5 hv5 hb5 (Nat.le_refl _) (by decide) (by decide) (by decide))
 clear M4 lt4_3
 have lt5_6:=M5.out.hi 6
 clear hx5 ho5 hv5 hb5
 go_upto_region 9 with fail
 obtain⟨g2,hg2⟩: ∃g2,g2=w5.heap.size:=⟨_,rfl⟩
 rw[←hg2]
 have M6:=xQ (((M5.out).blkNew aO #[r.aA,r.aB,.slice p2 r.cells.length c2,r.free,r.step,r.aE,r.aF,r.aC,r.aG,.slice q2 r.vs.length d2] g2 hg2.symm))
 generalize World.alloc _ _=v2 at M6⊢
 clear M5 lt5_6
 have lt6_0:=M6.out.hi 0
 have lt6_7:=M6.out.hi 7
 clear hg2
 obtain⟨ca0,ca1,ca2,ca3,ca4,ca5,ca6,ca7,ca8,ca9⟩:=(M6.out.blk (i:=7) rfl).ten
 go_wp2_with fail
 clear ca0 ca1 ca2 ca3 ca4 ca5 ca6 ca7 ca8 ca9
 refine(HT.out _ ((show Mem w v2 [aL w.heap.size (g2) aO #[r.aA,r.aB,.slice p2 r.cells.length c2,r.free,r.step,r.aE,r.aF,r.aC,r.aG,.slice q2 r.vs.length d2],aJ w.heap.size TI 1 (p2) (r.cells.length) (c2) (ivs r.cells),aJ w.heap.size TV 4 (q2) (r.vs.length) (d2) (r.vs.flatMap aD),aJ w.heap.size TB 1 (b2) (nb) (f2) (bcs bs),aL w.heap.size (w.heap.size) 29 #[aA,aB,.slice p n cp,free,step,aE,aF,aC,aG,.slice q m cq]]from(M6.out).pick [0,1,2,3,7] (by decide) rfl)).ext).mono ?_
 rintro e w7 ⟨p3,c3,q3,d3,rfl,ho7,hv7,hx7⟩
 have M7:=xQ (show Mem w w7 [aJ w.heap.size TI 1 (p3) (n) (c3) (ivs cells),aJ w.heap.size TV 4 (q3) (m) (d3) (vs.flatMap aD),aL w.heap.size (g2) aO #[r.aA,r.aB,.slice p2 r.cells.length c2,r.free,r.step,r.aE,r.aF,r.aC,r.aG,.slice q2 r.vs.length d2],aJ w.heap.size TI 1 (p2) (r.cells.length) (c2) (ivs r.cells),aJ w.heap.size TV 4 (q2) (r.vs.length) (d2) (r.vs.flatMap aD),aJ w.heap.size TB 1 (b2) (nb) (f2) (bcs bs),aL w.heap.size (w.heap.size) 29 #[aA,aB,.slice p n cp,free,step,aE,aF,aC,aG,.slice q m cq]]from((show Mem w v2 [aL w.heap.size (g2) aO #[r.aA,r.aB,.slice p2 r.cells.length c2,r.free,r.step,r.aE,r.aF,r.aC,r.aG,.slice q2 r.vs.length d2],aJ w.heap.size TI 1 (p2) (r.cells.length) (c2) (ivs r.cells),aJ w.heap.size TV 4 (q2) (r.vs.length) (d2) (r.vs.flatMap aD),aJ w.heap.size TB 1 (b2) (nb) (f2) (bcs bs),aL w.heap.size (w.heap.size) 29 #[aA,aB,.slice p n cp,free,step,aE,aF,aC,aG,.slice q m cq]]from(M6.out).pick [0,1,2,3,7] (by decide) rfl)).own2 hx7 ho7 hv7 (Nat.le_refl _) (by decide))
 clear M6 lt6_0 lt6_7
 have lt7_2:=M7.out.hi 2
 have lt7_6:=M7.out.hi 6
 clear hx7 ho7 hv7
 go_upto_region 10 with fail
 obtain⟨gX,hgX⟩: ∃gX,gX=w7.heap.size:=⟨_,rfl⟩
 rw[←hgX]
 have M8:=xQ (((M7.out).blkNew aO #[aA,aB,.slice p3 n c3,free,step,aE,aF,aC,aG,.slice q3 m d3] gX hgX.symm))
 generalize World.alloc _ _=v3 at M8⊢
 clear M7 lt7_2 lt7_6
 have lt8_0:=M8.out.hi 0
 have lt8_3:=M8.out.hi 3
 have lt8_7:=M8.out.hi 7
 clear hgX
 go_wp2_with fail
 refine(HTD.out _ (M8.out).ext).mono ?_
 rintro e w9 ⟨l3,e3,rfl,ho9,hx9⟩
 have M9:=xQ ((M8.out).call hx9 ho9)
 clear M8 lt8_0 lt8_3 lt8_7
 have lt9_1:=M9.out.hi 1
 have lt9_4:=M9.out.hi 4
 have lt9_8:=M9.out.hi 8
 clear hx9 ho9
 obtain⟨ca0,ca1,ca2,ca3,ca4,ca5,ca6,ca7,ca8,ca9⟩:=(M9.out.blk (i:=1) rfl).ten
 go_wp2_with fail
 clear ca0 ca1 ca2 ca3 ca4 ca5 ca6 ca7 ca8 ca9
 refine(HIm.out _ _ _ _ _ _ _ (M9.out).ext ⟨((M9.out).sl (i:=2) rfl),((M9.out).sl (i:=3) rfl)⟩ ((M9.out).sl (i:=0) rfl)).mono ?_
 rintro e w10 ⟨p4,c4,q4,d4,b4,f4,rfl,ho10,hv10,hb10,hx10⟩
 have M10:=xQ ((M9.out).own3 hx10 ho10 hv10 hb10 (Nat.le_refl _) (by decide) (by decide) (by decide))
 clear M9 lt9_1 lt9_4 lt9_8
 have lt10_4:=M10.out.hi 4
 have lt10_7:=M10.out.hi 7
 have lt10_11:=M10.out.hi 11
 clear hx10 ho10 hv10 hb10
 go_upto_region 12 with fail
 obtain⟨g4,hg4⟩: ∃g4,g4=w10.heap.size:=⟨_,rfl⟩
 rw[←hg4]
 have M11:=xQ (((M10.out).blkNew aO #[r.aA,r.aB,.slice p4 r.cells.length c4,r.free,r.step,r.aE,r.aF,r.aC,r.aG,.slice q4 r.vs.length d4] g4 hg4.symm))
 generalize World.alloc _ _=v4 at M11⊢
 clear M10 lt10_4 lt10_7 lt10_11
 have lt11_0:=M11.out.hi 0
 have lt11_5:=M11.out.hi 5
 have lt11_8:=M11.out.hi 8
 have lt11_12:=M11.out.hi 12
 clear hg4
 obtain⟨ca0,ca1,ca2,ca3,ca4,ca5,ca6,ca7,ca8,ca9⟩:=(M11.out.blk (i:=0) rfl).ten
 obtain⟨cb0,cb1,cb2,cb3,cb4,cb5,cb6,cb7,cb8,cb9⟩:=(M11.out.blk (i:=8) rfl).ten
 go_wp2_with fail
 clear ca0 ca1 ca2 ca3 ca4 ca5 ca6 ca7 ca8 ca9 cb0 cb1 cb2 cb3 cb4 cb5 cb6 cb7 cb8 cb9
 refine(eR r _ _ _ _ _ _ _ _ _ _ _ ⟨((M11.out).sl (i:=1) rfl),((M11.out).sl (i:=2) rfl)⟩ ⟨((M11.out).sl (i:=9) rfl),((M11.out).sl (i:=10) rfl)⟩).mono ?_
 rintro e w12 ⟨rfl,hx12⟩
 have M12:=xQ ((M11.out).adv hx12)
 clear M11 lt11_0 lt11_5 lt11_8 lt11_12
 have lt12_0:=M12.out.hi 0
 have lt12_5:=M12.out.hi 5
 have lt12_8:=M12.out.hi 8
 have lt12_12:=M12.out.hi 12
 clear hx12
 go_wp2_with fail
 refine(mA _ _ _ _ _ bs _ ((M12.out).sl (i:=3) rfl) ((M12.out).sl (i:=11) rfl)).mono ?_
 rintro e w13 ⟨rfl,hx13⟩
 have M13:=xQ ((M12.out).adv hx13)
 clear M12 lt12_0 lt12_5 lt12_8 lt12_12
 have lt13_0:=M13.out.hi 0
 have lt13_5:=M13.out.hi 5
 have lt13_8:=M13.out.hi 8
 have lt13_12:=M13.out.hi 12
 clear hx13
 have xm:=M13.out.ext
 have ID7:=xQ (show IsHouse w13 ⟨aA,aB,cells,free,step,aE,aF,aC,aG,vs⟩ p3 n c3 q3 m d3 from⟨(M13.out.sl (i:=6) rfl),(M13.out.sl (i:=7) rfl)⟩)
 obtain⟨ka0,ka1,ka2,ka3,ka4,ka5,ka6,ka7,ka8,ka9⟩:=(M13.out.blk (i:=5) rfl).ten
 obtain⟨kb0,kb1,kb2,kb3,kb4,kb5,kb6,kb7,kb8,kb9⟩:=(M13.out.blk (i:=12) rfl).ten
 go_upto_region 14 with fail
 go_cut [59] (fun s1 wx=>s1= .bool false∧Mem w wx [aL w.heap.size (g4) aO #[r.aA,r.aB,.slice p4 r.cells.length c4,r.free,r.step,r.aE,r.aF,r.aC,r.aG,.slice q4 r.vs.length d4],aJ w.heap.size TI 1 (p4) (r.cells.length) (c4) (ivs r.cells),aJ w.heap.size TV 4 (q4) (r.vs.length) (d4) (r.vs.flatMap aD),aJ w.heap.size TB 1 (b4) (nb) (f4) (bcs bs),aJ w.heap.size TDd 3 (l3) (lm) (e3) (ds.flatMap aX),aL w.heap.size (gX) aO #[aA,aB,.slice p3 n c3,free,step,aE,aF,aC,aG,.slice q3 m d3],aJ w.heap.size TI 1 (p3) (n) (c3) (ivs cells),aJ w.heap.size TV 4 (q3) (m) (d3) (vs.flatMap aD),aL w.heap.size (g2) aO #[r.aA,r.aB,.slice p2 r.cells.length c2,r.free,r.step,r.aE,r.aF,r.aC,r.aG,.slice q2 r.vs.length d2],aJ w.heap.size TI 1 (p2) (r.cells.length) (c2) (ivs r.cells),aJ w.heap.size TV 4 (q2) (r.vs.length) (d2) (r.vs.flatMap aD),aJ w.heap.size TB 1 (b2) (nb) (f2) (bcs bs),aL w.heap.size (w.heap.size) 29 #[aA,aB,.slice p n cp,free,step,aE,aF,aC,aG,.slice q m cq]])
 case first=>
  go_region_held3 (fun w'=>w'.cell? ⟨gX,0,none⟩=some (.int .i64 aA)∧w'.cell? ⟨gX,1,none⟩=some (.int .i64 aB)∧w'.cell? ⟨gX,2,none⟩=some (.slice p3 n c3)∧w'.cell? ⟨gX,3,none⟩=some (.int .i64 free)∧w'.cell? ⟨gX,4,none⟩=some (.int .i64 step)∧w'.cell? ⟨gX,5,none⟩=some (.int .i64 aE)∧w'.cell? ⟨gX,6,none⟩=some (.int .i64 aF)∧w'.cell? ⟨gX,7,none⟩=some (.int .i64 aC)∧w'.cell? ⟨gX,8,none⟩=some (.int .i64 aG)∧w'.cell? ⟨gX,9,none⟩=some (.slice q3 m d3)∧w'.cell? ⟨w.heap.size,0,none⟩=some (.int .i64 aA)∧w'.cell? ⟨w.heap.size,1,none⟩=some (.int .i64 aB)∧w'.cell? ⟨w.heap.size,2,none⟩=some (.slice p n cp)∧w'.cell? ⟨w.heap.size,3,none⟩=some (.int .i64 free)∧w'.cell? ⟨w.heap.size,4,none⟩=some (.int .i64 step)∧w'.cell? ⟨w.heap.size,5,none⟩=some (.int .i64 aE)∧w'.cell? ⟨w.heap.size,6,none⟩=some (.int .i64 aF)∧w'.cell? ⟨w.heap.size,7,none⟩=some (.int .i64 aC)∧w'.cell? ⟨w.heap.size,8,none⟩=some (.int .i64 aG)∧w'.cell? ⟨w.heap.size,9,none⟩=some (.slice q m cq))
   (first|(refine⟨?_,?_,?_,?_,?_,?_,?_,?_,?_,?_,?_,?_,?_,?_,?_,?_,?_,?_,?_,?_⟩<;>with_reducible assumption)|go_keep)
   (first
    |(go_at_call 12
      refine(HT.out _ xE).mono ?_
      rintro e wt ⟨pt,ct,qt,dt,rfl,ot,vt,hxt⟩
      have hyt:Ext w13 wt:=xE
      have It:=xQ (show IsHouse wt ⟨aA,aB,cells,free,step,aE,aF,aC,aG,vs⟩ pt n ct qt m dt from⟨Sl.own ot,Sl.own vt⟩)
      clear ot vt
      obtain⟨ta0,ta1,ta2,ta3,ta4,ta5,ta6,ta7,ta8,ta9⟩:=(((M13.out.blk (i:=5) rfl)).ext hyt).ten
      obtain⟨tb0,tb1,tb2,tb3,tb4,tb5,tb6,tb7,tb8,tb9⟩:=(((M13.out.blk (i:=12) rfl)).ext hyt).ten)
    |(go_at_call 14
      refine(eR ⟨aA,aB,cells,free,step,aE,aF,aC,aG,vs⟩ _ _ _ _ _ _ _ _ _ _ _ (ID7.out.ext xE) It.out).mono ?_
      rintro e we ⟨rfl,hxe⟩
      have hye:Ext w13 we:=xE
      obtain⟨ea0,ea1,ea2,ea3,ea4,ea5,ea6,ea7,ea8,ea9⟩:=(((M13.out.blk (i:=5) rfl)).ext hye).ten
      obtain⟨eb0,eb1,eb2,eb3,eb4,eb5,eb6,eb7,eb8,eb9⟩:=(((M13.out.blk (i:=12) rfl)).ext hye).ten))
  all_goals (
   go_wp2_with fail
   go_meet
   exact⟨rfl,M13.out.adv xE⟩)
 case rest=>
  clear ka0 ka1 ka2 ka3 ka4 ka5 ka6 ka7 ka8 ka9 kb0 kb1 kb2 kb3 kb4 kb5 kb6 kb7 kb8 kb9 xm ID7
  obtain⟨rfl,hM14⟩:=hcut
  obtain⟨v14,rfl⟩: ∃z,z=wc:=⟨_,rfl⟩
  have MC:=xQ hM14
  clear hM14 M13 lt13_0 lt13_5 lt13_8 lt13_12
  have lt40_0:g4<v14.heap.size:=(MC.out.lt (i:=0) rfl rfl).2
  have lt40_5:gX<v14.heap.size:=(MC.out.lt (i:=5) rfl rfl).2
  have lt40_8:g2<v14.heap.size:=(MC.out.lt (i:=8) rfl rfl).2
  have lt40_12:w.heap.size<v14.heap.size:=(MC.out.lt (i:=12) rfl rfl).2
  go_wp2_with fail
  refine(HTD.out _ (MC.out).ext).mono ?_
  rintro e w41 ⟨l5,e5,rfl,ho41,hx41⟩
  have M41:=xQ ((MC.out).call hx41 ho41)
  clear MC lt40_0 lt40_5 lt40_8 lt40_12
  have lt41_1:=M41.out.hi 1
  have lt41_6:=M41.out.hi 6
  have lt41_9:=M41.out.hi 9
  have lt41_13:=M41.out.hi 13
  clear hx41 ho41
  go_wp2_with fail
  refine(zR _ _ _ _ _ ds _ ((M41.out).sl (i:=5) rfl) ((M41.out).sl (i:=0) rfl)).mono ?_
  rintro e w42 ⟨rfl,hx42⟩
  have M42:=xQ ((M41.out).adv hx42)
  clear M41 lt41_1 lt41_6 lt41_9 lt41_13
  have lt42_1:=M42.out.hi 1
  have lt42_6:=M42.out.hi 6
  have lt42_9:=M42.out.hi 9
  have lt42_13:=M42.out.hi 13
  clear hx42
  obtain⟨ca0,ca1,ca2,ca3,ca4,ca5,ca6,ca7,ca8,ca9⟩:=(M42.out.blk (i:=6) rfl).ten
  go_wp2_with fail
  clear ca0 ca1 ca2 ca3 ca4 ca5 ca6 ca7 ca8 ca9
  refine(jZ _ _ _ _ _ _ _ _ p3 _ _ q3 _ _ 1 _ _ _ _ _ ((show Mem w w42 [aJ w.heap.size TI 1 (p3) (n) (c3) (ivs cells),aJ w.heap.size TV 4 (q3) (m) (d3) (vs.flatMap aD),aL w.heap.size (gX) aO #[aA,aB,.slice p3 n c3,free,step,aE,aF,aC,aG,.slice q3 m d3],aJ w.heap.size TDd 3 (l3) (lm) (e3) (ds.flatMap aX),aJ w.heap.size TB 1 (b4) (nb) (f4) (bcs bs),aJ w.heap.size TI 1 (p4) (r.cells.length) (c4) (ivs r.cells),aJ w.heap.size TV 4 (q4) (r.vs.length) (d4) (r.vs.flatMap aD),aL w.heap.size (g4) aO #[r.aA,r.aB,.slice p4 r.cells.length c4,r.free,r.step,r.aE,r.aF,r.aC,r.aG,.slice q4 r.vs.length d4],aJ w.heap.size TB 1 (b2) (nb) (f2) (bcs bs),aL w.heap.size (g2) aO #[r.aA,r.aB,.slice p2 r.cells.length c2,r.free,r.step,r.aE,r.aF,r.aC,r.aG,.slice q2 r.vs.length d2],aJ w.heap.size TI 1 (p2) (r.cells.length) (c2) (ivs r.cells),aJ w.heap.size TV 4 (q2) (r.vs.length) (d2) (r.vs.flatMap aD),aL w.heap.size (w.heap.size) 29 #[aA,aB,.slice p n cp,free,step,aE,aF,aC,aG,.slice q m cq]]from(M42.out).pick [7,8,6,5,4,2,3,1,12,9,10,11,13] (by decide) rfl)) (by omega) (by omega) (by omega) (by omega)).mono ?_
  rintro e w43 ⟨rfl,hm43⟩
  have M43:=xQ (hm43)
  clear M42 lt42_1 lt42_6 lt42_9 lt42_13
  have lt43_2:=M43.out.hi 2
  have lt43_7:=M43.out.hi 7
  have lt43_9:=M43.out.hi 9
  have lt43_12:=M43.out.hi 12
  clear hm43
  go_wp2_with fail
  refine(qS (1+(n:Nat)+(m*4:Nat)) _ ((show Mem w w43 [aJ w.heap.size TDd 3 (l3) (lm) (e3) (ds.flatMap aX),aJ w.heap.size TB 1 (b4) (nb) (f4) (bcs bs),aJ w.heap.size TI 1 (p4) (r.cells.length) (c4) (ivs r.cells),aJ w.heap.size TV 4 (q4) (r.vs.length) (d4) (r.vs.flatMap aD),aL w.heap.size (g4) aO #[r.aA,r.aB,.slice p4 r.cells.length c4,r.free,r.step,r.aE,r.aF,r.aC,r.aG,.slice q4 r.vs.length d4],aJ w.heap.size TB 1 (b2) (nb) (f2) (bcs bs),aL w.heap.size (g2) aO #[r.aA,r.aB,.slice p2 r.cells.length c2,r.free,r.step,r.aE,r.aF,r.aC,r.aG,.slice q2 r.vs.length d2],aJ w.heap.size TI 1 (p2) (r.cells.length) (c2) (ivs r.cells),aJ w.heap.size TV 4 (q2) (r.vs.length) (d2) (r.vs.flatMap aD),aL w.heap.size (w.heap.size) 29 #[aA,aB,.slice p n cp,free,step,aE,aF,aC,aG,.slice q m cq]]from((show Mem w w43 [aJ w.heap.size TDd 3 (l3) (lm) (e3) (ds.flatMap aX),aJ w.heap.size TB 1 (b4) (nb) (f4) (bcs bs),aJ w.heap.size TI 1 (p4) (r.cells.length) (c4) (ivs r.cells),aJ w.heap.size TV 4 (q4) (r.vs.length) (d4) (r.vs.flatMap aD),aL w.heap.size (g4) aO #[r.aA,r.aB,.slice p4 r.cells.length c4,r.free,r.step,r.aE,r.aF,r.aC,r.aG,.slice q4 r.vs.length d4],aJ w.heap.size TB 1 (b2) (nb) (f2) (bcs bs),aL w.heap.size (g2) aO #[r.aA,r.aB,.slice p2 r.cells.length c2,r.free,r.step,r.aE,r.aF,r.aC,r.aG,.slice q2 r.vs.length d2],aJ w.heap.size TI 1 (p2) (r.cells.length) (c2) (ivs r.cells),aJ w.heap.size TV 4 (q2) (r.vs.length) (d2) (r.vs.flatMap aD),aL w.heap.size (w.heap.size) 29 #[aA,aB,.slice p n cp,free,step,aE,aF,aC,aG,.slice q m cq]]from(M43.out).pick [3,4,5,6,7,8,9,10,11,12] (by decide) rfl)).pick [0,1,2,3,4,5,6,7,8,9] (by decide) rfl).own (i:=0) rfl) (by omega) (by omega) (by omega)).mono ?_
  rintro e w44 ⟨rfl,ho44,hg44⟩
  have M44:=xQ (show Mem w w44 [aJ w.heap.size TDd 3 (l3) (lm) (e3) (aU (1+(n:Nat)+(m*4:Nat)) (lm*3)),aJ w.heap.size TB 1 (b4) (nb) (f4) (bcs bs),aJ w.heap.size TI 1 (p4) (r.cells.length) (c4) (ivs r.cells),aJ w.heap.size TV 4 (q4) (r.vs.length) (d4) (r.vs.flatMap aD),aL w.heap.size (g4) aO #[r.aA,r.aB,.slice p4 r.cells.length c4,r.free,r.step,r.aE,r.aF,r.aC,r.aG,.slice q4 r.vs.length d4],aJ w.heap.size TB 1 (b2) (nb) (f2) (bcs bs),aL w.heap.size (g2) aO #[r.aA,r.aB,.slice p2 r.cells.length c2,r.free,r.step,r.aE,r.aF,r.aC,r.aG,.slice q2 r.vs.length d2],aJ w.heap.size TI 1 (p2) (r.cells.length) (c2) (ivs r.cells),aJ w.heap.size TV 4 (q2) (r.vs.length) (d2) (r.vs.flatMap aD),aL w.heap.size (w.heap.size) 29 #[aA,aB,.slice p n cp,free,step,aE,aF,aC,aG,.slice q m cq]]from((show Mem w w43 [aJ w.heap.size TDd 3 (l3) (lm) (e3) (ds.flatMap aX),aJ w.heap.size TB 1 (b4) (nb) (f4) (bcs bs),aJ w.heap.size TI 1 (p4) (r.cells.length) (c4) (ivs r.cells),aJ w.heap.size TV 4 (q4) (r.vs.length) (d4) (r.vs.flatMap aD),aL w.heap.size (g4) aO #[r.aA,r.aB,.slice p4 r.cells.length c4,r.free,r.step,r.aE,r.aF,r.aC,r.aG,.slice q4 r.vs.length d4],aJ w.heap.size TB 1 (b2) (nb) (f2) (bcs bs),aL w.heap.size (g2) aO #[r.aA,r.aB,.slice p2 r.cells.length c2,r.free,r.step,r.aE,r.aF,r.aC,r.aG,.slice q2 r.vs.length d2],aJ w.heap.size TI 1 (p2) (r.cells.length) (c2) (ivs r.cells),aJ w.heap.size TV 4 (q2) (r.vs.length) (d2) (r.vs.flatMap aD),aL w.heap.size (w.heap.size) 29 #[aA,aB,.slice p n cp,free,step,aE,aF,aC,aG,.slice q m cq]]from((show Mem w w43 [aJ w.heap.size TDd 3 (l3) (lm) (e3) (ds.flatMap aX),aJ w.heap.size TB 1 (b4) (nb) (f4) (bcs bs),aJ w.heap.size TI 1 (p4) (r.cells.length) (c4) (ivs r.cells),aJ w.heap.size TV 4 (q4) (r.vs.length) (d4) (r.vs.flatMap aD),aL w.heap.size (g4) aO #[r.aA,r.aB,.slice p4 r.cells.length c4,r.free,r.step,r.aE,r.aF,r.aC,r.aG,.slice q4 r.vs.length d4],aJ w.heap.size TB 1 (b2) (nb) (f2) (bcs bs),aL w.heap.size (g2) aO #[r.aA,r.aB,.slice p2 r.cells.length c2,r.free,r.step,r.aE,r.aF,r.aC,r.aG,.slice q2 r.vs.length d2],aJ w.heap.size TI 1 (p2) (r.cells.length) (c2) (ivs r.cells),aJ w.heap.size TV 4 (q2) (r.vs.length) (d2) (r.vs.flatMap aD),aL w.heap.size (w.heap.size) 29 #[aA,aB,.slice p n cp,free,step,aE,aF,aC,aG,.slice q m cq]]from(M43.out).pick [3,4,5,6,7,8,9,10,11,12] (by decide) rfl)).pick [0,1,2,3,4,5,6,7,8,9] (by decide) rfl)).app (i:=0) rfl ho44 hg44 (.inl rfl))
  clear M43 lt43_2 lt43_7 lt43_9 lt43_12
  have lt44_4:=M44.out.hi 4
  have lt44_6:=M44.out.hi 6
  have lt44_9:=M44.out.hi 9
  clear ho44 hg44
  have k1:(0:Int)≤1+(n:Nat)+(m*4:Nat)+(lm*3:Nat):=by omega
  have k2:decide ((1:Int)+(n:Nat)+(m*4:Nat)+(lm*3:Nat)<0)=false:=by simp;omega
  obtain⟨ca0,ca1,ca2,ca3,ca4,ca5,ca6,ca7,ca8,ca9⟩:=(M44.out.blk (i:=4) rfl).ten
  obtain⟨cb0,cb1,cb2,cb3,cb4,cb5,cb6,cb7,cb8,cb9⟩:=(M44.out.blk (i:=6) rfl).ten
  go_wp2_with fail
  clear ca0 ca1 ca2 ca3 ca4 ca5 ca6 ca7 ca8 ca9 cb0 cb1 cb2 cb3 cb4 cb5 cb6 cb7 cb8 cb9
  refine(eR r _ _ _ _ _ _ _ _ _ _ _ ⟨(((show Mem w w44 [aJ w.heap.size TB 1 (b4) (nb) (f4) (bcs bs),aJ w.heap.size TI 1 (p4) (r.cells.length) (c4) (ivs r.cells),aJ w.heap.size TV 4 (q4) (r.vs.length) (d4) (r.vs.flatMap aD),aL w.heap.size (g4) aO #[r.aA,r.aB,.slice p4 r.cells.length c4,r.free,r.step,r.aE,r.aF,r.aC,r.aG,.slice q4 r.vs.length d4],aJ w.heap.size TB 1 (b2) (nb) (f2) (bcs bs),aL w.heap.size (g2) aO #[r.aA,r.aB,.slice p2 r.cells.length c2,r.free,r.step,r.aE,r.aF,r.aC,r.aG,.slice q2 r.vs.length d2],aJ w.heap.size TI 1 (p2) (r.cells.length) (c2) (ivs r.cells),aJ w.heap.size TV 4 (q2) (r.vs.length) (d2) (r.vs.flatMap aD),aL w.heap.size (w.heap.size) 29 #[aA,aB,.slice p n cp,free,step,aE,aF,aC,aG,.slice q m cq]]from(M44.out).pick [1,2,3,4,5,6,7,8,9] (by decide) rfl)).sl (i:=1) rfl),(((show Mem w w44 [aJ w.heap.size TB 1 (b4) (nb) (f4) (bcs bs),aJ w.heap.size TI 1 (p4) (r.cells.length) (c4) (ivs r.cells),aJ w.heap.size TV 4 (q4) (r.vs.length) (d4) (r.vs.flatMap aD),aL w.heap.size (g4) aO #[r.aA,r.aB,.slice p4 r.cells.length c4,r.free,r.step,r.aE,r.aF,r.aC,r.aG,.slice q4 r.vs.length d4],aJ w.heap.size TB 1 (b2) (nb) (f2) (bcs bs),aL w.heap.size (g2) aO #[r.aA,r.aB,.slice p2 r.cells.length c2,r.free,r.step,r.aE,r.aF,r.aC,r.aG,.slice q2 r.vs.length d2],aJ w.heap.size TI 1 (p2) (r.cells.length) (c2) (ivs r.cells),aJ w.heap.size TV 4 (q2) (r.vs.length) (d2) (r.vs.flatMap aD),aL w.heap.size (w.heap.size) 29 #[aA,aB,.slice p n cp,free,step,aE,aF,aC,aG,.slice q m cq]]from(M44.out).pick [1,2,3,4,5,6,7,8,9] (by decide) rfl)).sl (i:=2) rfl)⟩ ⟨(((show Mem w w44 [aJ w.heap.size TB 1 (b4) (nb) (f4) (bcs bs),aJ w.heap.size TI 1 (p4) (r.cells.length) (c4) (ivs r.cells),aJ w.heap.size TV 4 (q4) (r.vs.length) (d4) (r.vs.flatMap aD),aL w.heap.size (g4) aO #[r.aA,r.aB,.slice p4 r.cells.length c4,r.free,r.step,r.aE,r.aF,r.aC,r.aG,.slice q4 r.vs.length d4],aJ w.heap.size TB 1 (b2) (nb) (f2) (bcs bs),aL w.heap.size (g2) aO #[r.aA,r.aB,.slice p2 r.cells.length c2,r.free,r.step,r.aE,r.aF,r.aC,r.aG,.slice q2 r.vs.length d2],aJ w.heap.size TI 1 (p2) (r.cells.length) (c2) (ivs r.cells),aJ w.heap.size TV 4 (q2) (r.vs.length) (d2) (r.vs.flatMap aD),aL w.heap.size (w.heap.size) 29 #[aA,aB,.slice p n cp,free,step,aE,aF,aC,aG,.slice q m cq]]from(M44.out).pick [1,2,3,4,5,6,7,8,9] (by decide) rfl)).sl (i:=6) rfl),(((show Mem w w44 [aJ w.heap.size TB 1 (b4) (nb) (f4) (bcs bs),aJ w.heap.size TI 1 (p4) (r.cells.length) (c4) (ivs r.cells),aJ w.heap.size TV 4 (q4) (r.vs.length) (d4) (r.vs.flatMap aD),aL w.heap.size (g4) aO #[r.aA,r.aB,.slice p4 r.cells.length c4,r.free,r.step,r.aE,r.aF,r.aC,r.aG,.slice q4 r.vs.length d4],aJ w.heap.size TB 1 (b2) (nb) (f2) (bcs bs),aL w.heap.size (g2) aO #[r.aA,r.aB,.slice p2 r.cells.length c2,r.free,r.step,r.aE,r.aF,r.aC,r.aG,.slice q2 r.vs.length d2],aJ w.heap.size TI 1 (p2) (r.cells.length) (c2) (ivs r.cells),aJ w.heap.size TV 4 (q2) (r.vs.length) (d2) (r.vs.flatMap aD),aL w.heap.size (w.heap.size) 29 #[aA,aB,.slice p n cp,free,step,aE,aF,aC,aG,.slice q m cq]]from(M44.out).pick [1,2,3,4,5,6,7,8,9] (by decide) rfl)).sl (i:=7) rfl)⟩).mono ?_
  rintro e w45 ⟨rfl,hx45⟩
  have M45:=xQ (show Mem w w45 [aJ w.heap.size TB 1 (b4) (nb) (f4) (bcs bs),aJ w.heap.size TI 1 (p4) (r.cells.length) (c4) (ivs r.cells),aJ w.heap.size TV 4 (q4) (r.vs.length) (d4) (r.vs.flatMap aD),aL w.heap.size (g4) aO #[r.aA,r.aB,.slice p4 r.cells.length c4,r.free,r.step,r.aE,r.aF,r.aC,r.aG,.slice q4 r.vs.length d4],aJ w.heap.size TB 1 (b2) (nb) (f2) (bcs bs),aL w.heap.size (g2) aO #[r.aA,r.aB,.slice p2 r.cells.length c2,r.free,r.step,r.aE,r.aF,r.aC,r.aG,.slice q2 r.vs.length d2],aJ w.heap.size TI 1 (p2) (r.cells.length) (c2) (ivs r.cells),aJ w.heap.size TV 4 (q2) (r.vs.length) (d2) (r.vs.flatMap aD),aL w.heap.size (w.heap.size) 29 #[aA,aB,.slice p n cp,free,step,aE,aF,aC,aG,.slice q m cq]]from((show Mem w w44 [aJ w.heap.size TB 1 (b4) (nb) (f4) (bcs bs),aJ w.heap.size TI 1 (p4) (r.cells.length) (c4) (ivs r.cells),aJ w.heap.size TV 4 (q4) (r.vs.length) (d4) (r.vs.flatMap aD),aL w.heap.size (g4) aO #[r.aA,r.aB,.slice p4 r.cells.length c4,r.free,r.step,r.aE,r.aF,r.aC,r.aG,.slice q4 r.vs.length d4],aJ w.heap.size TB 1 (b2) (nb) (f2) (bcs bs),aL w.heap.size (g2) aO #[r.aA,r.aB,.slice p2 r.cells.length c2,r.free,r.step,r.aE,r.aF,r.aC,r.aG,.slice q2 r.vs.length d2],aJ w.heap.size TI 1 (p2) (r.cells.length) (c2) (ivs r.cells),aJ w.heap.size TV 4 (q2) (r.vs.length) (d2) (r.vs.flatMap aD),aL w.heap.size (w.heap.size) 29 #[aA,aB,.slice p n cp,free,step,aE,aF,aC,aG,.slice q m cq]]from(M44.out).pick [1,2,3,4,5,6,7,8,9] (by decide) rfl)).adv hx45)
  clear M44 lt44_4 lt44_6 lt44_9
  have lt45_3:=M45.out.hi 3
  have lt45_5:=M45.out.hi 5
  have lt45_8:=M45.out.hi 8
  clear hx45
  go_wp2_with fail
  refine(mA _ _ _ _ _ bs _ ((M45.out).sl (i:=0) rfl) ((M45.out).sl (i:=4) rfl)).mono ?_
  rintro e w46 ⟨rfl,hx46⟩
  have M46:=xQ ((M45.out).adv hx46)
  clear M45 lt45_3 lt45_5 lt45_8
  have lt46_3:=M46.out.hi 3
  have lt46_5:=M46.out.hi 5
  have lt46_8:=M46.out.hi 8
  clear hx46
  obtain⟨ca0,ca1,ca2,ca3,ca4,ca5,ca6,ca7,ca8,ca9⟩:=(M46.out.blk (i:=3) rfl).ten
  go_wp2_with fail
  clear ca0 ca1 ca2 ca3 ca4 ca5 ca6 ca7 ca8 ca9
  refine(jZ _ _ _ _ _ _ _ _ p4 _ _ q4 _ _ 1 _ _ _ _ _ ((show Mem w w46 [aJ w.heap.size TI 1 (p4) (r.cells.length) (c4) (ivs r.cells),aJ w.heap.size TV 4 (q4) (r.vs.length) (d4) (r.vs.flatMap aD),aL w.heap.size (g4) aO #[r.aA,r.aB,.slice p4 r.cells.length c4,r.free,r.step,r.aE,r.aF,r.aC,r.aG,.slice q4 r.vs.length d4],aJ w.heap.size TB 1 (b4) (nb) (f4) (bcs bs),aJ w.heap.size TB 1 (b2) (nb) (f2) (bcs bs),aL w.heap.size (g2) aO #[r.aA,r.aB,.slice p2 r.cells.length c2,r.free,r.step,r.aE,r.aF,r.aC,r.aG,.slice q2 r.vs.length d2],aJ w.heap.size TI 1 (p2) (r.cells.length) (c2) (ivs r.cells),aJ w.heap.size TV 4 (q2) (r.vs.length) (d2) (r.vs.flatMap aD),aL w.heap.size (w.heap.size) 29 #[aA,aB,.slice p n cp,free,step,aE,aF,aC,aG,.slice q m cq]]from(M46.out).pick [1,2,3,0,4,5,6,7,8] (by decide) rfl)) (by omega) (by omega) (by omega) (by omega)).mono ?_
  rintro e w47 ⟨rfl,hm47⟩
  have M47:=xQ (hm47)
  clear M46 lt46_3 lt46_5 lt46_8
  have lt47_2:=M47.out.hi 2
  have lt47_5:=M47.out.hi 5
  have lt47_8:=M47.out.hi 8
  clear hm47
  go_wp2_with fail
  refine(aB7 (1+(r.cells.length:Nat)+(r.vs.length*4:Nat)) _ ((show Mem w w47 [aJ w.heap.size TB 1 (b4) (nb) (f4) (bcs bs),aJ w.heap.size TI 1 (p4) (r.cells.length) (c4) (aU 1 r.cells.length),aJ w.heap.size TV 4 (q4) (r.vs.length) (d4) (aU (1+(r.cells.length:Nat)) (r.vs.length*4)),aL w.heap.size (g4) aO #[r.aA,r.aB,.slice p4 r.cells.length c4,r.free,r.step,r.aE,r.aF,r.aC,r.aG,.slice q4 r.vs.length d4],aJ w.heap.size TB 1 (b2) (nb) (f2) (bcs bs),aL w.heap.size (g2) aO #[r.aA,r.aB,.slice p2 r.cells.length c2,r.free,r.step,r.aE,r.aF,r.aC,r.aG,.slice q2 r.vs.length d2],aJ w.heap.size TI 1 (p2) (r.cells.length) (c2) (ivs r.cells),aJ w.heap.size TV 4 (q2) (r.vs.length) (d2) (r.vs.flatMap aD),aL w.heap.size (w.heap.size) 29 #[aA,aB,.slice p n cp,free,step,aE,aF,aC,aG,.slice q m cq]]from(M47.out).pick [3,0,1,2,4,5,6,7,8] (by decide) rfl).own (i:=0) rfl) (by omega) (by omega) (by omega)).mono ?_
  rintro e w48 ⟨rfl,ho48,hg48⟩
  have M48:=xQ (show Mem w w48 [aJ w.heap.size TB 1 (b4) (nb) (f4) (bmk (1+(r.cells.length:Nat)+(r.vs.length*4:Nat)) nb),aJ w.heap.size TI 1 (p4) (r.cells.length) (c4) (aU 1 r.cells.length),aJ w.heap.size TV 4 (q4) (r.vs.length) (d4) (aU (1+(r.cells.length:Nat)) (r.vs.length*4)),aL w.heap.size (g4) aO #[r.aA,r.aB,.slice p4 r.cells.length c4,r.free,r.step,r.aE,r.aF,r.aC,r.aG,.slice q4 r.vs.length d4],aJ w.heap.size TB 1 (b2) (nb) (f2) (bcs bs),aL w.heap.size (g2) aO #[r.aA,r.aB,.slice p2 r.cells.length c2,r.free,r.step,r.aE,r.aF,r.aC,r.aG,.slice q2 r.vs.length d2],aJ w.heap.size TI 1 (p2) (r.cells.length) (c2) (ivs r.cells),aJ w.heap.size TV 4 (q2) (r.vs.length) (d2) (r.vs.flatMap aD),aL w.heap.size (w.heap.size) 29 #[aA,aB,.slice p n cp,free,step,aE,aF,aC,aG,.slice q m cq]]from((show Mem w w47 [aJ w.heap.size TB 1 (b4) (nb) (f4) (bcs bs),aJ w.heap.size TI 1 (p4) (r.cells.length) (c4) (aU 1 r.cells.length),aJ w.heap.size TV 4 (q4) (r.vs.length) (d4) (aU (1+(r.cells.length:Nat)) (r.vs.length*4)),aL w.heap.size (g4) aO #[r.aA,r.aB,.slice p4 r.cells.length c4,r.free,r.step,r.aE,r.aF,r.aC,r.aG,.slice q4 r.vs.length d4],aJ w.heap.size TB 1 (b2) (nb) (f2) (bcs bs),aL w.heap.size (g2) aO #[r.aA,r.aB,.slice p2 r.cells.length c2,r.free,r.step,r.aE,r.aF,r.aC,r.aG,.slice q2 r.vs.length d2],aJ w.heap.size TI 1 (p2) (r.cells.length) (c2) (ivs r.cells),aJ w.heap.size TV 4 (q2) (r.vs.length) (d2) (r.vs.flatMap aD),aL w.heap.size (w.heap.size) 29 #[aA,aB,.slice p n cp,free,step,aE,aF,aC,aG,.slice q m cq]]from(M47.out).pick [3,0,1,2,4,5,6,7,8] (by decide) rfl)).app (i:=0) rfl ho48 hg48 (.inl rfl))
  clear M47 lt47_2 lt47_5 lt47_8
  have lt48_3:=M48.out.hi 3
  have lt48_5:=M48.out.hi 5
  have lt48_8:=M48.out.hi 8
  clear ho48 hg48
  have k3:(0:Int)≤1+(r.cells.length:Nat)+(r.vs.length*4:Nat):=by omega
  have k4:decide ((1:Int)+(r.cells.length:Nat)+(r.vs.length*4:Nat)<0)=false:=by simp;omega
  have k5:(0:Int)≤1+(r.cells.length:Nat)+(r.vs.length*4:Nat)+(nb:Nat):=by omega
  have k6:decide ((1:Int)+(r.cells.length:Nat)+(r.vs.length*4:Nat)+(nb:Nat)<0)=false:=by simp;omega
  obtain⟨ca0,ca1,ca2,ca3,ca4,ca5,ca6,ca7,ca8,ca9⟩:=(M48.out.blk (i:=3) rfl).ten
  go_wp2_with fail
  clear ca0 ca1 ca2 ca3 ca4 ca5 ca6 ca7 ca8 ca9
  refine(kC _ _ _ _ _ _ _ _ p4 r.cells.length _ q4 r.vs.length _ 1 _ _ (M48.out.own (i:=1) rfl) (M48.out.own (i:=2) rfl) (by omega) (by omega) (by omega) (by omega)).mono ?_
  rintro e w49 ⟨rfl,hx49⟩
  have M49:=xQ ((M48.out).adv hx49)
  clear M48 lt48_3 lt48_5 lt48_8
  have lt49_3:=M49.out.hi 3
  have lt49_5:=M49.out.hi 5
  have lt49_8:=M49.out.hi 8
  clear hx49
  go_wp2_with fail
  refine(oK b4 nb f4 _ (1+(r.cells.length:Nat)+(r.vs.length*4:Nat)) _ (by omega) (by omega) (by omega) (M49.out.own (i:=0) rfl)).mono ?_
  rintro e w' ⟨rfl,rfl⟩
  obtain⟨ca0,ca1,ca2,ca3,ca4,ca5,ca6,ca7,ca8,ca9⟩:=(M49.out.blk (i:=8) rfl).ten
  go_wp2_with fail
  clear ca0 ca1 ca2 ca3 ca4 ca5 ca6 ca7 ca8 ca9
  refine(HT.out _ (M49.out).ext).mono ?_
  rintro e w50 ⟨p5,c5,q5,d5,rfl,ho50,hv50,hx50⟩
  have M50:=xQ ((M49.out).own2 hx50 ho50 hv50 (Nat.le_refl _) (by decide))
  clear M49 lt49_3 lt49_5 lt49_8
  have lt50_5:=M50.out.hi 5
  have lt50_7:=M50.out.hi 7
  have lt50_10:=M50.out.hi 10
  clear hx50 ho50 hv50
  go_wp2_with fail
  refine(HTD.out _ (M50.out).ext).mono ?_
  rintro e w51 ⟨l6,e6,rfl,ho51,hx51⟩
  have M51:=xQ ((M50.out).call hx51 ho51)
  clear M50 lt50_5 lt50_7 lt50_10
  have lt51_6:=M51.out.hi 6
  have lt51_8:=M51.out.hi 8
  have lt51_11:=M51.out.hi 11
  clear hx51 ho51
  go_wp2_with fail
  refine(HIm.out _ _ _ _ _ _ _ (M51.out).ext ⟨((M51.out).sl (i:=1) rfl),((M51.out).sl (i:=2) rfl)⟩ ((M51.out).sl (i:=0) rfl)).mono ?_
  rintro e w52 ⟨p6,c6,q6,d6,b6,f6,rfl,ho52,hv52,hb52,hx52⟩
  have M52:=xQ ((M51.out).own3 hx52 ho52 hv52 hb52 (Nat.le_refl _) (by decide) (by decide) (by decide))
  clear M51 lt51_6 lt51_8 lt51_11
  have lt52_9:=M52.out.hi 9
  have lt52_11:=M52.out.hi 11
  have lt52_14:=M52.out.hi 14
  clear hx52 ho52 hv52 hb52
  go_upto_region 36 with fail
  obtain⟨g6,hg6⟩: ∃g6,g6=w52.heap.size:=⟨_,rfl⟩
  rw[←hg6]
  have M53:=xQ (((M52.out).blkNew aO #[r.aA,r.aB,.slice p6 r.cells.length c6,r.free,r.step,r.aE,r.aF,r.aC,r.aG,.slice q6 r.vs.length d6] g6 hg6.symm))
  generalize World.alloc _ _=v6 at M53⊢
  clear M52 lt52_9 lt52_11 lt52_14
  have lt53_0:=M53.out.hi 0
  have lt53_10:=M53.out.hi 10
  have lt53_12:=M53.out.hi 12
  have lt53_15:=M53.out.hi 15
  clear hg6
  obtain⟨ca0,ca1,ca2,ca3,ca4,ca5,ca6,ca7,ca8,ca9⟩:=(M53.out.blk (i:=0) rfl).ten
  obtain⟨cb0,cb1,cb2,cb3,cb4,cb5,cb6,cb7,cb8,cb9⟩:=(M53.out.blk (i:=12) rfl).ten
  go_wp2_with fail
  clear ca0 ca1 ca2 ca3 ca4 ca5 ca6 ca7 ca8 ca9 cb0 cb1 cb2 cb3 cb4 cb5 cb6 cb7 cb8 cb9
  refine(eR r _ _ _ _ _ _ _ _ _ _ _ ⟨((M53.out).sl (i:=1) rfl),((M53.out).sl (i:=2) rfl)⟩ ⟨((M53.out).sl (i:=13) rfl),((M53.out).sl (i:=14) rfl)⟩).mono ?_
  rintro e w54 ⟨rfl,hx54⟩
  have M54:=xQ ((M53.out).adv hx54)
  clear M53 lt53_0 lt53_10 lt53_12 lt53_15
  have lt54_0:=M54.out.hi 0
  have lt54_10:=M54.out.hi 10
  have lt54_12:=M54.out.hi 12
  have lt54_15:=M54.out.hi 15
  clear hx54
  go_wp2_with fail
  refine(mA _ _ _ _ _ bs _ ((M54.out).sl (i:=3) rfl) ((M54.out).sl (i:=11) rfl)).mono ?_
  rintro e w55 ⟨rfl,hx55⟩
  have M55:=xQ ((M54.out).adv hx55)
  clear M54 lt54_0 lt54_10 lt54_12 lt54_15
  have lt55_0:=M55.out.hi 0
  have lt55_10:=M55.out.hi 10
  have lt55_12:=M55.out.hi 12
  have lt55_15:=M55.out.hi 15
  clear hx55
  obtain⟨ca0,ca1,ca2,ca3,ca4,ca5,ca6,ca7,ca8,ca9⟩:=(M55.out.blk (i:=10) rfl).ten
  go_wp2_with fail
  clear ca0 ca1 ca2 ca3 ca4 ca5 ca6 ca7 ca8 ca9
  refine(kC _ _ _ _ _ _ _ _ p4 r.cells.length _ q4 r.vs.length _ 1 _ _ (M55.out.own (i:=8) rfl) (M55.out.own (i:=9) rfl) (by omega) (by omega) (by omega) (by omega)).mono ?_
  rintro e w56 ⟨rfl,hx56⟩
  have M56:=xQ ((M55.out).adv hx56)
  clear M55 lt55_0 lt55_10 lt55_12 lt55_15
  have lt56_0:=M56.out.hi 0
  have lt56_10:=M56.out.hi 10
  have lt56_12:=M56.out.hi 12
  have lt56_15:=M56.out.hi 15
  clear hx56
  go_wp2_with fail
  refine(oK b4 nb f4 _ (1+(r.cells.length:Nat)+(r.vs.length*4:Nat)) _ (by omega) (by omega) (by omega) (M56.out.own (i:=7) rfl)).mono ?_
  rintro e w' ⟨rfl,rfl⟩
  go_wp2
  go_ret
  exact⟨rfl,M56.out.ext⟩
theorem aH5 (aA aB free step aE aF aC aG:Int)(cells:List Int)(vs:List aQ)(p:OA)(n cp:Nat)(q:OA)(m cq:Nat)(lq:OA)(lm lc:Nat)(ds:List Dd3)(r:aT)(bs:List Bool)(nb:Nat)(w:World)(HZ:Hid (∀w,Calls Tryz.prog 10 #[.agg #[aA,aB,.slice p n cp,free,step,aE,aF,aC,aG,.slice q m cq],.int .i64 1048576] w fun e w'=>e= .returned (.int .i64 (-1))∧Ext w w')):
  Calls Tryz.prog 4 #[.agg #[aA,aB,.slice p n cp,free,step,aE,aF,aC,aG,.slice q m cq],.slice lq lm lc] w fun e w'=>e= .returned (.bool true)∧Ext w w':=by
 go_enter Tryz.func4,Tryz.ntmps4
 go_wp2_with fail
 refine(HZ.out _).mono ?_
 rintro e w1 ⟨rfl,h1⟩
 go_wp2
 go_ret
 exact⟨rfl,xE⟩
theorem aEl (aA aB free step aE aF aC aG:Int)(cells:List Int)(vs:List aQ)(p:OA)(n cp:Nat)(q:OA)(m cq:Nat)(lq:OA)(lm lc:Nat)(ds:List Dd3)(r:aT)(bs:List Bool)(nb:Nat)(w:World)(hsz:n+m≤1048576)(HZ:Hid (∀w,Calls Tryz.prog 10 #[.agg #[aA,aB,.slice p n cp,free,step,aE,aF,aC,aG,.slice q m cq],.int .i64 1048576] w fun e w'=>e= .returned (.int .i64 (1048576-n-m))∧Ext w w'))
  (HZD:Hid (∀w,Calls Tryz.prog 17 #[.slice lq lm lc,(1048576-n-m:Int)] w fun e w'=>e= .returned (.int .i64 (-1))∧Ext w w')):
  Calls Tryz.prog 4 #[.agg #[aA,aB,.slice p n cp,free,step,aE,aF,aC,aG,.slice q m cq],.slice lq lm lc] w fun e w'=>e= .returned (.bool true)∧Ext w w':=by
 go_enter Tryz.func4,Tryz.ntmps4
 go_wp2_with fail
 refine(HZ.out _).mono ?_
 rintro e w1 ⟨rfl,h1⟩
 go_wp2_with fail
 refine(HZD.out _).mono ?_
 rintro e w2 ⟨rfl,h2⟩
 go_wp2
 go_ret
 exact⟨rfl,xE⟩
theorem aF2 (p:OA)(n cap:Nat)(left:Int)(w:World)(hn:n≤9223372036854775807)(hl:0≤left)(hl2:left≤1048576):
  Calls Tryz.prog 17 #[.slice p n cap,left] w fun e w'=>e= .returned (.int .i64 (if left<n then -1 else left-n))∧Ext w w':=by
 refine(aJl p n cap left w hn hl hl2).mono ?_
 rintro e w' ⟨h,rfl⟩
 exact⟨h,Ext.refl _⟩
theorem walk_FnExactHouseRun (W:World)(v:Value)(y:aT×(OA×Nat)×(OA×Nat))(f:v=bS y.1 y.2.1.1 y.1.cells.length y.2.1.2 y.2.2.1 y.1.vs.length y.2.2.2∧IsHouse W y.1 y.2.1.1 y.1.cells.length y.2.1.2 y.2.2.1 y.1.vs.length y.2.2.2∧pO y.1)
  (v1:Value)(y1:List Dd3×(OA×Nat))(f1:v1= .slice y1.2.1 y1.1.length y1.2.2∧Sl W y1.2.1 y1.1.length y1.2.2 3 (y1.1.flatMap aX)∧ ∀a∈y1.1,wH a)(hE:BitTab W):
  Calls Tryz.prog 4 #[v,v1] W fun e w'=>e= .returned (.bool true)∧Ext W w':=by
 obtain⟨rfl,hi,_⟩:=f
 obtain⟨rfl,hS,_⟩:=f1
 obtain⟨h,⟨p,cp⟩,⟨q,cq⟩⟩:=y
 obtain⟨ds,⟨lq,lc⟩⟩:=y1
 have hb:=hS.bd
 dsimp only at hi hS hb⊢
 by_cases hs:h.cells.length+h.vs.length≤1048576
 ·have hz:=fun w=>aF2 lq ds.length lc (1048576-h.cells.length-h.vs.length) w (by omega) (by omega) (by omega)
  by_cases hd:h.cells.length+h.vs.length+ds.length≤1048576
  ·have hl:=xZ h ds
   exact aJ4 h.aA h.aB h.free h.step h.aE h.aF h.aC h.aG h.cells h.vs p h.cells.length cp q h.vs.length cq lq ds.length lc ds (mU h ds).1 (mU h ds).2 (mU h ds).2.length W hs hd hl.1 hl.2.1 (by omega) (fun w=>oY h p h.cells.length cp q h.vs.length cq w hs)
    (fun w=>by have:=hz w;rwa[if_neg (by omega)]at this)
    (fun w hx=>pZ h p h.cells.length cp q h.vs.length cq w (by omega) (by omega) (hi.ext hx)) (fun w hx=>aJ8 lq _ lc ds w (hS.ext hx) (by omega))
    (fun p c q d lp l w' hx hi' hS'=>nV h p _ c q _ d lp _ l ds w' hi' hS' (by omega)) (fun p c q d lp l w' hx hi' hS'=>oH h p _ c q _ d lp _ l ds w' hi' hS' (by omega) (hE.ext hx))
  ·exact aEl h.aA h.aB h.free h.step h.aE h.aF h.aC h.aG h.cells h.vs p h.cells.length cp q h.vs.length cq lq ds.length lc ds h [] 0 W hs (fun w=>oY h p h.cells.length cp q h.vs.length cq w hs)
    (fun w=>by have:=hz w;rwa[if_pos (by omega)]at this)
 ·exact aH5 h.aA h.aB h.free h.step h.aE h.aF h.aC h.aG h.cells h.vs p h.cells.length cp q h.vs.length cq lq ds.length lc ds h [] 0 W (fun w=>aCa h p h.cells.length cp q h.vs.length cq w hi.cells.bd hi.vs.bd (by omega))
end Go.Proofs.YtgnkoffndhmhpaaGreatDoor
