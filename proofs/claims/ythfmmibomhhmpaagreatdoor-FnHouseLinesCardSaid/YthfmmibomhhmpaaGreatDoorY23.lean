/-
  Texts of this proof, packed (@packed).
-/
import Derived.Test.YthfmmibomhhmpaaGreatDoorY22
namespace Go.Proofs.YthfmmibomhhmpaaGreatDoor
open Go.RowKit
set_option linter.unusedSimpArgs false
set_option linter.unusedVariables false
set_option maxHeartbeats 64000000
set_option maxRecDepth 100000
section
open Go.Proofs.Tryz
theorem aD2 (R k:Nat)(n:Int)(w:World)(b7:Rand w R k)(hk:k≤1099511500000)(cp:0≤n)(cq:n≤1000000):
  U 15 #[.pointer (some ⟨R,0,none⟩),n] w (aMu R k w):=by
 have hR:=b7.lt;go_enter func15,ntmps15;go_wp2_with fail;refine(cK R k 2 _ (b7.ext (by exact .alloc (.refl _) _)) (by omega)).mono ?_;rintro e w1 ⟨x,rfl,xa,xb,r1,x1⟩;have M1:=(((MemR.start R w hR).c0 aK zT).pickd x1)
 clear x1;have ad:=M1.hi 0;go_wp2_with fail;refine(cK R (k+1) (2) _ r1 (by omega)).mono ?_;rintro e w2 ⟨y,rfl,ya,yb,r2,yx⟩;have M2:=(M1.pickd yx)
 clear yx M1 ad;have ae:=M2.hi 0;have i1:=aVw (2+x);have i2:=aVw (2+y);go_wp2_with fail;refine(aAk R (k+1+1) 0 _ r2 (by omega) (by omega) (by omega)).mono ?_;rintro e w3 ⟨tf,ts,tp,tc,rfl,r3,x3⟩;have M3:=(M2.pickd x3)
 clear x3 M2 ae;have o:=M3.hi 0;go_wp2_with fail;refine(aRu _ _ tf ts tp tc _).mono ?_;intro e w4 a2;obtain⟨h0,b6,p0,ai,q0,aj,rfl,ho,hv,hx⟩: ∃h0:aL,Good h0∧RetHouse h0 w3 e w4:=⟨_,aAq _ _ _ _ _ _,a2⟩
 clear a2 i1 i2 xa xb;have r4:Rand w4 R (k+9):=(r3.ext hx).mono (by omega);have bv:=xQ b6;clear b6 r1 r2;have M4:=(show MemR R w w4 [aVq w p0 h0.cells ai,aVr w q0 h0.vs aj,aI w w aK #[(),(),((),()),(),(),(),(),(),(),((),())]]from M3.own2 (hx.r R) ho hv (by decide))
 clear ho hv hx r3 M3 o;have bo:=M4.hi 2;have cr:(w:Nat)≤w4:=M4.ext.sz;go_upto_region 2 with fail;have r5:Rand (w4.alloc (.cells #[h0.aA,h0.aB,.slice p0 h0.cells ai,h0.free,h0.step,h0.aD,h0.aF,h0.aC,h0.aG,.slice q0 h0.vs aj] aK)) R (k+9):=xN;have M5:=(M4.c0 aK (aVs h0 p0 ai q0 aj))
 generalize d:(w4.alloc (.cells #[h0.aA,h0.aB,.slice p0 h0.cells ai,h0.free,h0.step,h0.aD,h0.aF,h0.aC,h0.aG,.slice q0 h0.vs aj] aK))=w5;rw[d]at M5 r5;clear d r4 M4 bo;have ab:=M5.hi 0;have ag:=M5.hi 3;obtain⟨HB,b3⟩: ∃a,a=w4.heap.size:=⟨_,rfl⟩
 have b4:R<w4:=by omega
 rw[←b3]at M5 b4 ab⊢;clear b3 cr;go_wp2_with fail;refine(cK R (k+9) (24) _ r5 (by omega)).mono ?_;rintro e w6 ⟨x,rfl,xa,xb,r6,xx⟩;have M6:=(M5.pickd xx)
 clear xx M5 ab ag;have bp:=M6.hi 0;have br:=M6.hi 3;obtain⟨j0,rfl⟩:=aTw xa;have bd:j0≤23:=by omega
 clear xa xb;have MS:=(show MemR R w w6 [aI w (HB) aK (aVs h0 p0 ai q0 aj),aVq w p0 h0.cells ai,aVr w q0 h0.vs aj,aI w w aK #[(),(),((),()),(),(),(),(),(),(),((),())]]from M6)
 clear M6 bp br;go_wp2;go_loopw [6] (fun i wr=> ∃(h:aL) (p:OA) (cap:Nat) (q:OA) (c2 j:Nat),i=I j∧j≤23∧Good h∧MemR R w wr [aI w (HB) aK (aVs h p cap q c2),aVq w p h.cells cap,aVr w q h.vs c2,aI w w aK #[(),(),((),()),(),(),(),(),(),(),((),())]]∧Rand wr R (k+20+800*(23-j))) (fun i _=>(intOf i).toNat)
 case atStart=>exact⟨h0,p0,ai,q0,aj,j0,rfl,bd,bv.out,MS,r6.mono (by omega)⟩
 case round=>
  clear MS r6 r5 bv;obtain⟨h,p,cap,q,c2,j,rfl,hj,hg,hM,rr⟩:=hrel;have M1:=hM;have HG:=xQ hg;have c1:=hg.small;clear hM hg;have ah:R<wr:=rr.lt;have ad:=M1.hi 0;have ar:=M1.hi 3;by_cases bd:j=0
  ·skip;subst bd;go_wp2_with fail;refine(aCy R (k+20+800*(23-0)) n _ rr (by omega) cp cq).mono ?_;rintro e w2 ⟨t,rfl,r2,x2⟩;clear rr;have M2:=(M1.pickd x2)
   clear x2 M1 ad ar;have ae:=M2.hi 0;have af:=M2.hi 3;cases t with
   |false=>
    obtain⟨d0,d1,d2,d3,d4,d5,d6,d7,d8,d9⟩:=(M2.bk 0).ten;have f_:=(M2.bk 3).tenf;obtain⟨f,m⟩:=M2.nq 0 3;have r9:Rand ((((((((((w2.setCell ⟨w,0,none⟩ (I h.aA)).setCell ⟨w,1,none⟩ (I h.aB)).setCell ⟨w,2,none⟩ (.slice p h.cells cap)).setCell ⟨w,3,none⟩ (I h.free)).setCell ⟨w,4,none⟩ (I h.step)).setCell ⟨w,5,none⟩ (I h.aD)).setCell ⟨w,6,none⟩ (I h.aF)).setCell ⟨w,7,none⟩ (I h.aC)).setCell ⟨w,8,none⟩ (I h.aG)).setCell ⟨w,9,none⟩ (.slice q h.vs c2)) R (k+20+800*(23-0)+1):=xN;go_wp2;clear d0 d1 d2 d3 d4 d5 d6 d7 d8 d9 f_ f m ae af;have M3:=(M2.put10 (i:=3) rfl (I h.aA) (I h.aB) (.slice p h.cells cap) (I h.free) (I h.step) (I h.aD) (I h.aF) (I h.aC) (I h.aG) (.slice q h.vs c2))
    generalize d:World.setCell _ _ _=wz;rw[d]at M3 r9;clear d M2;have o:=M3.hi 0;have s:=M3.hi 3;have y_:=(M3.bk 3).ten;exact bodyPost_ret (v:= .agg #[h.aA,h.aB,.slice p h.cells cap,h.free,h.step,h.aD,h.aF,h.aC,h.aG,.slice q h.vs c2]) (by simp[results,results15,go_sem, *]) rfl ⟨h,p,cap,q,c2,rfl,by(try simp only[aTc,List.length_singleton]);omega,by(try simp only[aTc,List.length_singleton]);omega,by have:=M3.ow 1;simpa using this,by have:=M3.ow 2;simpa using this,r9.mono (by omega),M3.ext⟩
   |true=>
    go_wp2_with fail;refine(cK R (k+20+800*(23-0)+1) (4) _ r2 (by omega)).mono ?_;rintro e w3 ⟨x,rfl,xa,xb,r3,xx⟩;have M3:=(M2.pickd xx)
    clear xx M2 ae af;have o:=M3.hi 0;have s:=M3.hi 3;have ct:x=0∨x=1∨x=2∨x=3:=by omega
    clear xa xb;rcases ct with rfl|rfl|rfl|rfl
    ·skip;go_wp2_with fail;refine(cK R (k+20+800*(23-0)+1+1) 2 _ (r3.ext (by exact .alloc (.refl _) _)) (by omega)).mono ?_;rintro e w4 ⟨y,rfl,ya,yb,r4,x4⟩;have M4:=((M3.lit TI 1 2 w3 #[(-1:Int),I 10000] (by simp) (by simp) (by simp[maxLen])).pickd x4)
     clear x4 M3 o s;have au:=M4.hi 1;have av:=M4.hi 4;have cu:y=0∨y=1:=by omega
     clear ya yb;rcases cu with rfl|rfl
     ·skip;have d7:=(M4.bk 1).cl 7;have an:=(M4.bk 1).frozen 7;have e0:w4.cell? ⟨w3,0,none⟩=some (I (-1)):=by rw[(M4.ow 0).cellAt 0 (by omega)];rfl
      have e1:(w3:Nat)<w4:=(M4.hi 0)
      go_upto_region 17 with fail;clear d7 an e0 e1;have r5:Rand (w4.setCell ⟨HB,7,none⟩ (I (-1))) R (k+20+800*(23-0)+1+1+1):=xN;have M5:=(show MemR R w (w4.setCell ⟨HB,7,none⟩ (I (-1))) [aJ w TI 1 (some ⟨w3,0,none⟩) (2) (2) ([I (-1),I 10000]),aI w (HB) aK #[h.aA,h.aB,.slice p h.cells cap,h.free,h.step,h.aD,h.aF,(-1:Int),h.aG,.slice q h.vs c2],aVq w p h.cells cap,aVr w q h.vs c2,aI w w aK #[(),(),((),()),(),(),(),(),(),(),((),())]]from(M4.store (i:=1) rfl 7 (I (-1))))
      generalize d:World.setCell _ _ _=w5;rw[d]at M5 r5;clear d r4 M4 au av;have ak:=M5.hi 1;have al:=M5.hi 4;obtain⟨d0,d1,d2,d3,d4,d5,d6,d7,d8,d9⟩:=(M5.bk 1).ten;have f_:=(M5.bk 4).tenf;obtain⟨f,m⟩:=M5.nq 1 4;have r9:Rand ((((((((((w5.setCell ⟨w,0,none⟩ (I h.aA)).setCell ⟨w,1,none⟩ (I h.aB)).setCell ⟨w,2,none⟩ (.slice p h.cells cap)).setCell ⟨w,3,none⟩ (I h.free)).setCell ⟨w,4,none⟩ (I h.step)).setCell ⟨w,5,none⟩ (I h.aD)).setCell ⟨w,6,none⟩ (I h.aF)).setCell ⟨w,7,none⟩ (I (-1))).setCell ⟨w,8,none⟩ (I h.aG)).setCell ⟨w,9,none⟩ (.slice q h.vs c2)) R (k+20+800*(23-0)+1+1+1):=xN;go_wp2;clear d0 d1 d2 d3 d4 d5 d6 d7 d8 d9 f_ f m ak al;have M6:=(M5.put10 (i:=4) rfl (I h.aA) (I h.aB) (.slice p h.cells cap) (I h.free) (I h.step) (I h.aD) (I h.aF) (I (-1)) (I h.aG) (.slice q h.vs c2))
      generalize d:World.setCell _ _ _=wz;rw[d]at M6 r9;clear d M5;have bq:=M6.hi 1;have bs:=M6.hi 4;have y_:=(M6.bk 4).ten;exact bodyPost_ret (v:= .agg #[h.aA,h.aB,.slice p h.cells cap,h.free,h.step,h.aD,h.aF,(-1:Int),h.aG,.slice q h.vs c2]) (by simp[results,results15,go_sem, *]) rfl ⟨{h with aC:= -1},p,cap,q,c2,rfl,by(try simp only[aTc,List.length_singleton]);omega,by(try simp only[aTc,List.length_singleton]);omega,by have:=M6.ow 2;simpa using this,by have:=M6.ow 3;simpa using this,r9.mono (by omega),M6.ext⟩
     skip;have d7:=(M4.bk 1).cl 7;have an:=(M4.bk 1).frozen 7;have e0:w4.cell? ⟨w3,1,none⟩=some (I (10000)):=by rw[(M4.ow 0).cellAt 1 (by omega)];rfl
     have e1:(w3:Nat)<w4:=(M4.hi 0)
     go_upto_region 17 with fail;clear d7 an e0 e1;have r5:Rand (w4.setCell ⟨HB,7,none⟩ (I (10000))) R (k+20+800*(23-0)+1+1+1):=xN;have M5:=(show MemR R w (w4.setCell ⟨HB,7,none⟩ (I (10000))) [aJ w TI 1 (some ⟨w3,0,none⟩) (2) (2) ([I (-1),I 10000]),aI w (HB) aK #[h.aA,h.aB,.slice p h.cells cap,h.free,h.step,h.aD,h.aF,(10000:Int),h.aG,.slice q h.vs c2],aVq w p h.cells cap,aVr w q h.vs c2,aI w w aK #[(),(),((),()),(),(),(),(),(),(),((),())]]from(M4.store (i:=1) rfl 7 (I (10000))))
     generalize d:World.setCell _ _ _=w5;rw[d]at M5 r5;clear d r4 M4 au av;have ak:=M5.hi 1;have al:=M5.hi 4;obtain⟨d0,d1,d2,d3,d4,d5,d6,d7,d8,d9⟩:=(M5.bk 1).ten;have f_:=(M5.bk 4).tenf;obtain⟨f,m⟩:=M5.nq 1 4;have r9:Rand ((((((((((w5.setCell ⟨w,0,none⟩ (I h.aA)).setCell ⟨w,1,none⟩ (I h.aB)).setCell ⟨w,2,none⟩ (.slice p h.cells cap)).setCell ⟨w,3,none⟩ (I h.free)).setCell ⟨w,4,none⟩ (I h.step)).setCell ⟨w,5,none⟩ (I h.aD)).setCell ⟨w,6,none⟩ (I h.aF)).setCell ⟨w,7,none⟩ (I (10000))).setCell ⟨w,8,none⟩ (I h.aG)).setCell ⟨w,9,none⟩ (.slice q h.vs c2)) R (k+20+800*(23-0)+1+1+1):=xN;go_wp2;clear d0 d1 d2 d3 d4 d5 d6 d7 d8 d9 f_ f m ak al;have M6:=(M5.put10 (i:=4) rfl (I h.aA) (I h.aB) (.slice p h.cells cap) (I h.free) (I h.step) (I h.aD) (I h.aF) (I (10000)) (I h.aG) (.slice q h.vs c2))
     generalize d:World.setCell _ _ _=wz;rw[d]at M6 r9;clear d M5;have bq:=M6.hi 1;have bs:=M6.hi 4;have y_:=(M6.bk 4).ten;exact bodyPost_ret (v:= .agg #[h.aA,h.aB,.slice p h.cells cap,h.free,h.step,h.aD,h.aF,(10000:Int),h.aG,.slice q h.vs c2]) (by simp[results,results15,go_sem, *]) rfl ⟨{h with aC:=10000},p,cap,q,c2,rfl,by(try simp only[aTc,List.length_singleton]);omega,by(try simp only[aTc,List.length_singleton]);omega,by have:=M6.ow 2;simpa using this,by have:=M6.ow 3;simpa using this,r9.mono (by omega),M6.ext⟩
    ·skip;have d8:=(M3.bk 0).cl 8;have a8:=(M3.bk 0).frozen 8;go_upto_region 17 with fail;clear d8 a8;have r5:Rand (w3.setCell ⟨HB,8,none⟩ (I (-1))) R (k+20+800*(23-0)+1+1):=xN;have M4:=(show MemR R w (w3.setCell ⟨HB,8,none⟩ (I (-1))) [aI w (HB) aK #[h.aA,h.aB,.slice p h.cells cap,h.free,h.step,h.aD,h.aF,h.aC,(-1:Int),.slice q h.vs c2],aVq w p h.cells cap,aVr w q h.vs c2,aI w w aK #[(),(),((),()),(),(),(),(),(),(),((),())]]from(M3.store (i:=0) rfl 8 (I (-1))))
     generalize d:World.setCell _ _ _=w5;rw[d]at M4 r5;clear d r3 M3 o s;have z:=M4.hi 0;have aa:=M4.hi 3;obtain⟨d0,d1,d2,d3,d4,d5,d6,d7,d8,d9⟩:=(M4.bk 0).ten;have f_:=(M4.bk 3).tenf;obtain⟨f,m⟩:=M4.nq 0 3;have r9:Rand ((((((((((w5.setCell ⟨w,0,none⟩ (I h.aA)).setCell ⟨w,1,none⟩ (I h.aB)).setCell ⟨w,2,none⟩ (.slice p h.cells cap)).setCell ⟨w,3,none⟩ (I h.free)).setCell ⟨w,4,none⟩ (I h.step)).setCell ⟨w,5,none⟩ (I h.aD)).setCell ⟨w,6,none⟩ (I h.aF)).setCell ⟨w,7,none⟩ (I h.aC)).setCell ⟨w,8,none⟩ (I (-1))).setCell ⟨w,9,none⟩ (.slice q h.vs c2)) R (k+20+800*(23-0)+1+1):=xN;go_wp2;clear d0 d1 d2 d3 d4 d5 d6 d7 d8 d9 f_ f m z aa;have M5:=(M4.put10 (i:=3) rfl (I h.aA) (I h.aB) (.slice p h.cells cap) (I h.free) (I h.step) (I h.aD) (I h.aF) (I h.aC) (I (-1)) (.slice q h.vs c2))
     generalize d:World.setCell _ _ _=wz;rw[d]at M5 r9;clear d M4;have ab:=M5.hi 0;have ag:=M5.hi 3;have y_:=(M5.bk 3).ten;exact bodyPost_ret (v:= .agg #[h.aA,h.aB,.slice p h.cells cap,h.free,h.step,h.aD,h.aF,h.aC,(-1:Int),.slice q h.vs c2]) (by simp[results,results15,go_sem, *]) rfl ⟨{h with aG:= -1},p,cap,q,c2,rfl,by(try simp only[aTc,List.length_singleton]);omega,by(try simp only[aTc,List.length_singleton]);omega,by have:=M5.ow 1;simpa using this,by have:=M5.ow 2;simpa using this,r9.mono (by omega),M5.ext⟩
    ·skip;have d9:=(M3.bk 0).cl 9;have ba:=(M3.bk 0).frozen 9;go_upto_region 17 with(at_builtin;refine pX vU rfl _ _ rfl (M3.adv ((Ext.refl _).alloc (.cells #[I 98,(),(),()] TV))) 2 rfl rfl (aE (98,0,0,0)) rfl (eD _ _ _ 1 4 _ (by first|rfl|simp) (by first|rfl|simp) (by simp[maxLen])) (rD _) (by omega) ?_;intro q7 c7 w7 a6 bg;have M7:=xQ (show MemR R w w7 [aI w (HB) aK (aVs h p cap q c2),aVq w p h.cells cap,aJ w TV 4 (q7) (h.vs.length+1) (c7) (h.vs.flatMap aE++aE (98,0,0,0)),aI w w aK #[(),(),((),()),(),(),(),(),(),(),((),())]]from a6);have r7:Rand w7 R (k+20+800*(23-0)+1+1):=bg _ xN;have g9:w7.cell? ⟨HB,9,none⟩=some (.slice q h.vs c2):=(M7.out.bk 0).cell 9;have c0:w7.frozen? ⟨HB,9,none⟩=false:=(M7.out.bk 0).frozen 9);clear d9 ba o s;have o:=M7.out.hi 0;have s:=M7.out.hi 3;have r5:Rand (w7.setCell ⟨HB,9,none⟩ (.slice q7 (h.vs.length+1) c7)) R (k+20+800*(23-0)+1+1):=xN;have M4:=(show MemR R w (w7.setCell ⟨HB,9,none⟩ (.slice q7 (h.vs.length+1) c7)) [aI w (HB) aK #[h.aA,h.aB,.slice p h.cells cap,h.free,h.step,h.aD,h.aF,h.aC,h.aG,.slice q7 (h.vs.length+1) c7],aVq w p h.cells cap,aJ w TV 4 (q7) (h.vs.length+1) (c7) (h.vs.flatMap aE++aE (98,0,0,0)),aI w w aK #[(),(),((),()),(),(),(),(),(),(),((),())]]from(M7.out.store (i:=0) rfl 9 (.slice q7 (h.vs.length+1) c7)))
     generalize d:World.setCell _ _ _=w5;rw[d]at M4 r5;clear d r7 M7 o s;have z:=M4.hi 0;have aa:=M4.hi 3;obtain⟨d0,d1,d2,d3,d4,d5,d6,d7,d8,d9⟩:=(M4.bk 0).ten;have f_:=(M4.bk 3).tenf;obtain⟨f,m⟩:=M4.nq 0 3;have r9:Rand ((((((((((w5.setCell ⟨w,0,none⟩ (I h.aA)).setCell ⟨w,1,none⟩ (I h.aB)).setCell ⟨w,2,none⟩ (.slice p h.cells cap)).setCell ⟨w,3,none⟩ (I h.free)).setCell ⟨w,4,none⟩ (I h.step)).setCell ⟨w,5,none⟩ (I h.aD)).setCell ⟨w,6,none⟩ (I h.aF)).setCell ⟨w,7,none⟩ (I h.aC)).setCell ⟨w,8,none⟩ (I h.aG)).setCell ⟨w,9,none⟩ (.slice q7 (h.vs.length+1) c7)) R (k+20+800*(23-0)+1+1):=xN;go_wp2;clear d0 d1 d2 d3 d4 d5 d6 d7 d8 d9 f_ f m z aa;have M5:=(M4.put10 (i:=3) rfl (I h.aA) (I h.aB) (.slice p h.cells cap) (I h.free) (I h.step) (I h.aD) (I h.aF) (I h.aC) (I h.aG) (.slice q7 (h.vs.length+1) c7))
     generalize d:World.setCell _ _ _=wz;rw[d]at M5 r9;clear d M4;have ab:=M5.hi 0;have ag:=M5.hi 3;have y_:=(M5.bk 3).ten;exact bodyPost_ret (v:= .agg #[h.aA,h.aB,.slice p h.cells cap,h.free,h.step,h.aD,h.aF,h.aC,h.aG,.slice q7 (h.vs.length+1) c7]) (by simp[results,results15,go_sem, *]) rfl ⟨{h with vs:=h.vs++ [(98,0,0,0)]},p,cap,q7,c7,by simp[bG],by(try simp only[aTc,List.length_singleton]);omega,by(try simp only[aTc,List.length_singleton]);omega,by have:=M5.ow 1;simpa using this,by have:=M5.ow 2;simpa using this,r9.mono (by omega),M5.ext⟩
    skip;have d2:=(M3.bk 0).cl 2;have a7:=(M3.bk 0).frozen 2;go_upto_region 17 with(at_builtin;refine pX fY rfl _ _ rfl (M3.adv ((Ext.refl _).alloc (.cells #[()] TI))) 1 rfl rfl ([I 0]) rfl (eD _ _ _ 1 1 _ (by first|rfl|simp) (by first|rfl|simp) (by simp[maxLen])) (fun u hu=>by obtain rfl:=aTp.1 hu;rfl) (by omega) ?_;intro q7 c7 w7 a6 bg;have M7:=xQ (show MemR R w w7 [aI w (HB) aK (aVs h p cap q c2),aJ w TI 1 (q7) (h.cells.length+1) (c7) (ivs h.cells++ [I 0]),aVr w q h.vs c2,aI w w aK #[(),(),((),()),(),(),(),(),(),(),((),())]]from a6);have r7:Rand w7 R (k+20+800*(23-0)+1+1):=bg _ xN;have g2:w7.cell? ⟨HB,2,none⟩=some (.slice p h.cells cap):=(M7.out.bk 0).cell 2;have cy:w7.frozen? ⟨HB,2,none⟩=false:=(M7.out.bk 0).frozen 2);clear d2 a7 o s;have o:=M7.out.hi 0;have s:=M7.out.hi 3;have r5:Rand (w7.setCell ⟨HB,2,none⟩ (.slice q7 (h.cells.length+1) c7)) R (k+20+800*(23-0)+1+1):=xN;have M4:=(show MemR R w (w7.setCell ⟨HB,2,none⟩ (.slice q7 (h.cells.length+1) c7)) [aI w (HB) aK #[h.aA,h.aB,.slice q7 (h.cells.length+1) c7,h.free,h.step,h.aD,h.aF,h.aC,h.aG,.slice q h.vs c2],aJ w TI 1 (q7) (h.cells.length+1) (c7) (ivs h.cells++ [I 0]),aVr w q h.vs c2,aI w w aK #[(),(),((),()),(),(),(),(),(),(),((),())]]from(M7.out.store (i:=0) rfl 2 (.slice q7 (h.cells.length+1) c7)))
    generalize d:World.setCell _ _ _=w5;rw[d]at M4 r5;clear d r7 M7 o s;have z:=M4.hi 0;have aa:=M4.hi 3;obtain⟨d0,d1,d2,d3,d4,d5,d6,d7,d8,d9⟩:=(M4.bk 0).ten;have f_:=(M4.bk 3).tenf;obtain⟨f,m⟩:=M4.nq 0 3;have r9:Rand ((((((((((w5.setCell ⟨w,0,none⟩ (I h.aA)).setCell ⟨w,1,none⟩ (I h.aB)).setCell ⟨w,2,none⟩ (.slice q7 (h.cells.length+1) c7)).setCell ⟨w,3,none⟩ (I h.free)).setCell ⟨w,4,none⟩ (I h.step)).setCell ⟨w,5,none⟩ (I h.aD)).setCell ⟨w,6,none⟩ (I h.aF)).setCell ⟨w,7,none⟩ (I h.aC)).setCell ⟨w,8,none⟩ (I h.aG)).setCell ⟨w,9,none⟩ (.slice q h.vs c2)) R (k+20+800*(23-0)+1+1):=xN;go_wp2;clear d0 d1 d2 d3 d4 d5 d6 d7 d8 d9 f_ f m z aa;have M5:=(M4.put10 (i:=3) rfl (I h.aA) (I h.aB) (.slice q7 (h.cells.length+1) c7) (I h.free) (I h.step) (I h.aD) (I h.aF) (I h.aC) (I h.aG) (.slice q h.vs c2))
    generalize d:World.setCell _ _ _=wz;rw[d]at M5 r9;clear d M4;have ab:=M5.hi 0;have ag:=M5.hi 3;have y_:=(M5.bk 3).ten;exact bodyPost_ret (v:= .agg #[h.aA,h.aB,.slice q7 (h.cells.length+1) c7,h.free,h.step,h.aD,h.aF,h.aC,h.aG,.slice q h.vs c2]) (by simp[results,results15,go_sem, *]) rfl ⟨{h with cells:=h.cells++ [0]},q7,c7,q,c2,by simp[bG],by(try simp only[aTc,List.length_singleton]);omega,by(try simp only[aTc,List.length_singleton]);omega,by have:=M5.ow 1;simpa using this,by have:=M5.ow 2;simpa using this,r9.mono (by omega),M5.ext⟩
  obtain⟨j,rfl⟩: ∃i,j=i+1:=⟨j-1,by omega⟩
  have i1:decide ((0:Int)<((j+1:Nat):Int))=true:=by first|(simp;done)|(simp;omega)
  have i2:decide ((0:Int)<(j:Int)+1)=true:=by first|(simp;done)|(simp;omega)
  have B0:=xQ (M1.bk 0);have bz:=(M1.bk 0).ten;have n1: ¬(HB=wr.heap.size):=by omega
  have n2: ¬(wr.heap.size=HB):=by omega
  have c3:HB<wr:=by omega
  have a3:=xQ fun(w':World) (kk:Nat) (hkk:kk≤1099511600000) (hx:ExtR R wr w') (hr:Rand w' R kk)=>oE R kk h p cap q c2 w' hr hkk (by omega) (pB (i:=1) (j:=2) (M1.pickd hx) rfl rfl) (tS (i:=1) M1 rfl) (tS (i:=2) M1 rfl)
  have a4:=xQ fun(w':World) (hx:ExtR R wr w') (a b c:Int)=>aDm h HG a b c p _ cap q _ c2 w' (pB (i:=1) (j:=2) (M1.pickd hx) rfl rfl)
  unfold aJe at a3;unfold aKb at a4;go_wp2
  refine wI (gl [gEq (.agg #[h.aA,h.aB,.slice p h.cells cap,h.free,h.step,h.aD,h.aF,h.aC,h.aG,.slice q h.vs c2]),gEq (.pointer (some ⟨R,0,none⟩)),gEq (.agg #[h.aA,h.aB,.slice p h.cells cap,h.free,h.step,h.aD,h.aF,h.aC,h.aG,.slice q h.vs c2]),(fun v _=> ∃a b c:Int,v=eQ a b c),(fun v w'=> ∃(h':aL) (p':OA) (cap':Nat) (q':OA) (c2':Nat) (nn:Int) (ok:Bool),v= .tuple #[bG h' p' h'.cells.length cap' q' h'.vs.length c2',nn,.bool ok]∧Good h'∧w'.ownsRow wr TI 1 (.slice p' h'.cells cap') h'.cells.length (ivs h'.cells)∧w'.ownsRow wr TV 4 (.slice q' h'.vs c2') h'.vs.length (h'.vs.flatMap aE)),(fun v w'=> ∃(h':aL) (p':OA) (cap':Nat) (q':OA) (c2':Nat) (nn:Int) (ok:Bool),v= .tuple #[bG h' p' h'.cells.length cap' q' h'.vs.length c2',nn,.bool ok]∧Good h'∧w'.ownsRow wr TI 1 (.slice p' h'.cells cap') h'.cells.length (ivs h'.cells)∧w'.ownsRow wr TV 4 (.slice q' h'.vs c2') h'.vs.length (h'.vs.flatMap aE)),(fun v w'=> ∃(h':aL) (p':OA) (cap':Nat) (q':OA) (c2':Nat),v=bG h' p' h'.cells.length cap' q' h'.vs.length c2'∧Good h'∧w'.ownsRow wr TI 1 (.slice p' h'.cells cap') h'.cells.length (ivs h'.cells)∧w'.ownsRow wr TV 4 (.slice q' h'.vs c2') h'.vs.length (h'.vs.flatMap aE)),vP,aPe,(fun v w'=> ∃a:Nat,v= .pointer (some ⟨a,0,none⟩)∧wr.heap.size≤a∧rC wr w' a),(fun _ _=>True),vP,aPe]) (RG R wr) R (k+20+800*(23-(j+1))) 60 13 (by kernel_rfl) rfl (by kernel_rfl) (by kernel_rfl) (by kernel_rfl) rr (fun w=>RG.refl _ _ w) (fun _ _ _=>RG.trans ah) (aG7 (fS (rQ _) (fS (rQ _) (fS (rQ _) (fS (fun _ _ _ h _=>h) (fS (fun v w w' ⟨h',p',cap',q',c2',nn,ok,e,g,a,b⟩ hx=>⟨h',p',cap',q',c2',nn,ok,e,g,hx.own a ah (by decide),hx.own b ah (by decide)⟩) (fS (fun v w w' ⟨h',p',cap',q',c2',nn,ok,e,g,a,b⟩ hx=>⟨h',p',cap',q',c2',nn,ok,e,g,hx.own a ah (by decide),hx.own b ah (by decide)⟩) (fS (fun v w w' ⟨h',p',cap',q',c2',e,g,a,b⟩ hx=>⟨h',p',cap',q',c2',e,g,hx.own a ah (by decide),hx.own b ah (by decide)⟩) (fS (sW) (fS (wR) (fS (fun v w w' ⟨a,e,l,hb⟩ hx=>⟨a,e,l,hx.house ah l hb⟩) (fS (aJ5) (fS (sW) (fS (wR) (aJs))))))))))))))) rfl (k:=13) (by kernel_rfl) (by decide) (ls:= [(0,some 26),(1,some 27),(2,some 28),(3,some 29),(4,some 30),(5,some 25),(6,some 31),(7,some 32),(8,some 33),(9,some 7),(10,none),(11,some 8),(12,some 9)]) (by kernel_rfl) (ir:= [0,1,2,3,4,5,6,7,8,9,10,11,12]) (by kernel_rfl) ?steps (tl:=#[true,true,true,true,true,true,true,true,true,true,true,true,true]) (by kernel_rfl) ?fin
  case steps=>
   refine sCx [] rfl (fun wi kk hx hr hkk=> ?_) ?_
   ·intro K hK;have bz:=(hx.extR.blk B0 (by omega)).ten;go_simp;exact hK _ _ ⟨.agg #[h.aA,h.aB,.slice p h.cells cap,h.free,h.step,h.aD,h.aF,h.aC,h.aG,.slice q h.vs c2],rfl,rfl,⟨RG.refl _ _ _,hr.mono (by omega)⟩⟩
   refine sCx [] rfl (fun wi kk hx hr hkk=> ?_) ?_
   ·intro K hK;go_simp;exact hK _ _ ⟨.pointer (some ⟨R,0,none⟩),rfl,rfl,⟨RG.refl _ _ _,hr.mono (by omega)⟩⟩
   refine sCx [] rfl (fun wi kk hx hr hkk=> ?_) ?_
   ·intro K hK;have bz:=(hx.extR.blk B0 (by omega)).ten;go_simp;exact hK _ _ ⟨.agg #[h.aA,h.aB,.slice p h.cells cap,h.free,h.step,h.aD,h.aF,h.aC,h.aG,.slice q h.vs c2],rfl,rfl,⟨RG.refl _ _ _,hr.mono (by omega)⟩⟩
   refine sCx [(1,some 27),(2,some 28)] rfl (fun wi kk hx hr hkk=> ?_) ?_
   ·intro v1 h1 v2 h2 K hK;subst h1 h2;go_wp2_with fail;refine(a3 _ kk (by omega) hx.extR hr).mono ?_;rintro e w5 ⟨da,db,dc,rfl,r5,x5⟩;go_simp;exact hK _ _ ⟨eQ da db dc,rfl,⟨da,db,dc,rfl⟩,⟨RG.ofR x5,r5⟩⟩
   refine sCx [(0,some 26),(3,some 29)] rfl (fun wi kk hx hr hkk=> ?_) ?_
   ·intro v0 h0 v3 h3 K hK;obtain rfl:=h0;obtain⟨b0,b1,b2,rfl⟩:=h3;go_wp2_with fail;refine(a4 _ hx.extR b0 b1 b2).mono ?_;rintro e w6 ⟨h',p',cap',q',c2',nn,ok,rfl,ax,ay,a0,b9⟩;have az:(wr:Nat)≤wi:=hx.extR.sz;go_simp;exact hK _ _ ⟨_,rfl,⟨h',p',cap',q',c2',nn,ok,rfl,ax,bM ay az,bM a0 az⟩,⟨RG.ofE b9,(hr.ext b9).mono (by omega)⟩⟩
   refine sCx [(4,some 30)] rfl (fun wi kk hx hr hkk=> ?_) ?_
   ·intro v4 h4 K hK;obtain⟨h4,p4,a1,q4,bx,ca,cb,rfl,bb,be,bh⟩:=h4;go_simp;exact hK _ _ ⟨_,rfl,⟨h4,p4,a1,q4,bx,ca,cb,rfl,bb,be,bh⟩,⟨RG.refl _ _ _,hr.mono (by omega)⟩⟩
   refine sCx [(5,some 25)] rfl (fun wi kk hx hr hkk=> ?_) ?_
   ·intro v5 h5 K hK;obtain⟨h5,p5,am,q5,aw,bt,bu,rfl,ao,ap,aq⟩:=h5;go_simp;exact hK _ _ ⟨_,rfl,⟨h5,p5,am,q5,aw,rfl,ao,ap,aq⟩,⟨RG.refl _ _ _,hr.mono (by omega)⟩⟩
   refine sCx [(5,some 25)] rfl (fun wi kk hx hr hkk=> ?_) ?_
   ·intro v5 h5 K hK;obtain⟨h5,p5,am,q5,aw,bt,bu,rfl,ao,ap,aq⟩:=h5;go_simp;exact hK _ _ ⟨_,rfl,⟨_,rfl⟩,⟨RG.refl _ _ _,hr.mono (by omega)⟩⟩
   refine sCx [(5,some 25)] rfl (fun wi kk hx hr hkk=> ?_) ?_
   ·intro v5 h5 K hK;obtain⟨h5,p5,am,q5,aw,bt,bu,rfl,ao,ap,aq⟩:=h5;go_simp;exact hK _ _ ⟨_,rfl,⟨_,rfl⟩,⟨RG.refl _ _ _,hr.mono (by omega)⟩⟩
   refine sCx [] rfl (fun wi kk hx hr hkk=> ?_) ?_
   ·intro K hK;have az:(wr:Nat)≤wi:=hx.extR.sz;go_simp;exact hK _ _ ⟨.pointer (some ⟨wi,0,none⟩),rfl,⟨wi.heap.size,rfl,az,aDn wi⟩,⟨RG.ofE ((Ext.refl _).alloc _),(hr.alloc _).mono (by omega)⟩⟩
   refine sCx [(6,some 31),(9,some 7)] rfl (fun wi kk hx hr hkk=> ?_) ?_
   ·intro v6 h6 v9 h9 K hK;obtain⟨h6,p6,bw,q6,ce,rfl,bc,bf,bi⟩:=h6;obtain⟨a9,rfl,bj,a5⟩:=h9;obtain⟨hz,pz,cx,qz,cz,BZ,_⟩:=a5;have z_:=BZ.tenf;go_simp;generalize cs:World.setCell _ _ _=w9;obtain⟨Y9,b5⟩:=BZ.putr cs;have r9:Rand w9 R kk:=yP hr b5 (fun g e=>by injection e with e;omega);exact hK _ _ ⟨undef,rfl,trivial,⟨RG.put b5 bj BZ Y9 bc bf bi,r9.mono (by omega)⟩⟩
   refine sCx [(7,some 32)] rfl (fun wi kk hx hr hkk=> ?_) ?_
   ·intro v7 h7 K hK;obtain⟨n7,rfl⟩:=h7;go_simp;exact hK _ _ ⟨_,rfl,⟨_,rfl⟩,⟨RG.refl _ _ _,hr.mono (by omega)⟩⟩
   refine sCx [(8,some 33)] rfl (fun wi kk hx hr hkk=> ?_) StepsLX.nil
   ·intro v8 h8 K hK;obtain⟨b8,rfl⟩:=h8;go_simp;exact hK _ _ ⟨_,rfl,⟨_,rfl⟩,⟨RG.refl _ _ _,hr.mono (by omega)⟩⟩
  case fin=>
   intro wi hx hr v0 h0 v1 h1 v2 h2 v3 h3 v4 h4 v5 h5 v6 h6 v7 h7 v8 h8 v9 h9 c5 cm c6 cn c8 co;subst h0 h1 h2;obtain⟨b0,b1,b2,rfl⟩:=h3;obtain⟨h4,p4,a1,q4,bx,ca,cb,rfl,bb,be,bh⟩:=h4;obtain⟨h5,p5,am,q5,aw,bt,bu,rfl,ao,ap,aq⟩:=h5;obtain⟨h6,p6,bw,q6,ce,rfl,bc,bf,bi⟩:=h6;obtain⟨n7,rfl⟩:=h7;obtain⟨b8,rfl⟩:=h8;obtain⟨a9,rfl,bj,a5⟩:=h9;clear cm;obtain⟨c4,rfl⟩:=cn;obtain⟨cd,rfl⟩:=co;have hE:=hx.extR;obtain⟨h',p',cap',q',c2',BA,ax,ay,a0⟩:=a5;have cc:=xQ ax;have M2:=(show MemR R w wi [aVq w p' h'.cells cap',aVr w q' h'.vs c2',aI w (a9) aK (aVs h' p' cap' q' c2'),aI w (HB) aK (aVs h p cap q c2),aVq w p h.cells cap,aVr w q h.vs c2,aI w w aK #[(),(),((),()),(),(),(),(),(),(),((),())]]from M1.own2blk hE ay a0 BA bj (by decide) (by decide) (by decide))
   have r2:Rand wi R (k+20+800*(23-j)):=hr.mono (by omega);clear ax ay a0 BA hE hx hr be bh ap aq bf bi bb ao bc M1 a3 a4 B0 rr n1 n2 ad ar;have bl:=M2.hi 2;have af:=M2.hi 3;have bm:=M2.hi 6;refine wpAny_done (by kernel_rfl) ?_ _;try go_frame
   go_upto_region 6 with fail;cases cd with
   |false=>
    go_wp2_with fail;go_roundw
    case rel=>exact⟨h,p,cap,q,c2,j,by go_num,by omega,HG.out,M2.pick [3,4,5,6] (by decide) rfl,r2⟩
    case measure=>first|(simp[intOf];done)|(simp[intOf];omega)
   |true=>
    obtain⟨e0,e1,e2,e3,e4,e5,e6,e7,e8,e9⟩:=(M2.bk 2).ten;obtain⟨d0,cf,d1,cg,d2,a7,d3,ch,d4,ci,d5,cj,d6,ck,d7,an,d8,a8,d9,ba⟩:=(M2.bk 3).tenf;obtain⟨f,m⟩:=M2.nq 2 3;go_upto_region 4 with fail;clear e0 e1 e2 e3 e4 e5 e6 e7 e8 e9 d0 cf d1 cg d2 a7 d3 ch d4 ci d5 cj d6 ck d7 an d8 a8 d9 ba f m;have r3:Rand ((((((((((wi.setCell ⟨HB,0,none⟩ (I h'.aA)).setCell ⟨HB,1,none⟩ (I h'.aB)).setCell ⟨HB,2,none⟩ (.slice p' h'.cells cap')).setCell ⟨HB,3,none⟩ (I h'.free)).setCell ⟨HB,4,none⟩ (I h'.step)).setCell ⟨HB,5,none⟩ (I h'.aD)).setCell ⟨HB,6,none⟩ (I h'.aF)).setCell ⟨HB,7,none⟩ (I h'.aC)).setCell ⟨HB,8,none⟩ (I h'.aG)).setCell ⟨HB,9,none⟩ (.slice q' h'.vs c2')) R (k+20+800*(23-j)):=xN;clear bl af bm;have M3:=(M2.put10 (i:=3) rfl (I h'.aA) (I h'.aB) (.slice p' h'.cells cap') (I h'.free) (I h'.step) (I h'.aD) (I h'.aF) (I h'.aC) (I h'.aG) (.slice q' h'.vs c2'))
    generalize d:World.setCell _ _ _=w3;rw[d]at M3 r3;clear d r2 M2;have cv:=M3.hi 2;have s:=M3.hi 3;have cw:=M3.hi 6;go_wp2_with fail;go_roundw
    case rel=>exact⟨h',p',cap',q',c2',j,by go_num,by omega,cc.out,M3.pick [3,0,1,6] (by decide) rfl,r3⟩
    case measure=>first|(simp[intOf];done)|(simp[intOf];omega)
end
def kV (K:Int):Nat→List Value
 |0=> []
 |m+1=>kV K m++ [.int .i64 (K+m)]
theorem nQ (K:Int)(m:Nat):(kV K m).length=m:=by induction m with|zero=>rfl|succ m ih=>simp[kV,ih]
theorem aAj (K:Int): ∀(m j:Nat),j<m→(kV K m)[j]? =some (I (K+j)):=by
 intro m;induction m with
 |zero=>intro j h;omega
 |succ m ih=>
  intro j h;by_cases hj:j<m
  ·rw[kV,aTr (by rw[nQ];exact hj)];exact ih j hj
  obtain rfl:j=m:=by omega
  rw[kV,aTy (by rw[nQ];omega),nQ];simp
def ChgE (e:TypeId)(B T:Nat)(w w':World):Prop:= ∃row,w.grownBy w' row∧ ∀g,row=some g→B≤g∧g<T∧ ∃cur,w.heap[g]? =some (.cells cur e (0,0))
theorem ChgE.chg {e:TypeId}{B T:Nat}{w w':World}(h:ChgE e B T w w'):Chg B T w w':=by obtain⟨a,hg,hr⟩:=h;exact Chg.of_grown hg (fun g e=>⟨(hr g e).1,(hr g e).2.1⟩)
theorem ChgE.refl (e:TypeId)(B T:Nat)(w:World):ChgE e B T w w:=⟨none,aUs _ _,fun g h=>by cases h⟩
theorem Blk.chg {w w':World}{g B T:Nat}{t:TypeId}{cs:Array Value}(h:Blk w g t cs)(hc:Chg B T w w')(hd:g<B∨T≤g):Blk w' g t cs:=(hc.block g h.lt hd).trans h
theorem OwnT.held {w:World}{B T n a:Nat}{e:TypeId}{sz:Nat}{p:OA}{K:Int}(h:OwnT w B T e sz p n a (kV K (n*sz)))(hn:0<n):
  ∃g,p=some ⟨g,0,none⟩∧ ∀j,j<n*sz→w.cell? ⟨g,0+j,none⟩=some (I (K+j)):=by
 rcases h.2 with⟨rfl,_⟩|⟨h2,_⟩
 ·omega
 rcases h2.2 with⟨_,h3⟩|⟨g,cap',cur,h1,hb,hg,hn,hm,hs,ht⟩
 ·omega
 injection h1 with e1 e2 e3;refine⟨g,e1,fun j hj=> ?_⟩;subst e1;rw[aUf,h2.cellAt j hj];exact aAj _ _ _ hj
theorem ChgE.pre {e:TypeId}{B T:Nat}{w a w':World}(h:ChgE e B T a w')(hx:Ext w a)(hT:T≤w.heap.size):ChgE e B T w w':=by obtain⟨c,hg,hr⟩:=h;refine⟨c,⟨hg.os.trans hx.os,hg.tape.trans hx.tape,hg.output.trans hx.output,aTg hx.size hg.size,fun i hi hne=>(hg.block i (aT4 hi hx.size) hne).trans (hx.block i hi)⟩,fun g e=> ?_⟩;obtain⟨h1,h2,b,h3⟩:=hr g e;exact⟨h1,h2,b,by rw[←hx.block g (by omega)];exact h3⟩
section
open Go.Proofs.Tryz
def mY (D:aR→Int)(vs:List aR):Int:=vs.foldl (fun a v=>a+D v) 0
theorem aAz (D:aR→Int){vs:List aR}{k:Nat}{v:aR}(h:vs[k]? =some v):mY D (vs.take (k+1))=mY D (vs.take k)+D v:=by unfold mY;rw[bA h,List.foldl_append];rfl
theorem aCa (D:aR→Int): ∀(vs:List aR) (a:Int),(∀v∈vs,0≤D v∧D v≤693)→a≤vs.foldl (fun a v=>a+D v) a∧vs.foldl (fun a v=>a+D v) a≤a+693*vs.length:=by
 intro vs;induction vs with
 |nil=>intro a _;simp
 |cons v vs ih=>intro a h;obtain⟨h0,h1⟩:=h v (by simp);have:=ih (a+D v) (fun x hx=>h x (by simp[hx]));simp only[List.foldl_cons,aUh];omega
theorem aIk (aA aB a b aD aF aC aG:Int)(p:OA)(n c:Nat)(q:OA)(m c2:Nat)(w:World)(HV:xB 19 #[.agg #[aA,aB,.slice p n c,a,b,aD,aF,aC,aG,.slice q m c2]] w false):
  U 13 #[.agg #[aA,aB,.slice p n c,a,b,aD,aF,aC,aG,.slice q m c2]] w (O (I (-1)) w):=by
 go_enter func13,ntmps13;go_wp2_with fail;refine Z (HV _ (by exact .alloc (.refl _) _)) fun w1 d=>?_
 go_wp2;go_ret;exact⟨rfl,by exact .trans (.alloc (.refl _) _) d⟩
theorem aH3 (aA aB a b aD aF aC aG:Int)(p:OA)(n c:Nat)(q:OA)(m c2:Nat)(w:World)(HV:xB 9 #[.agg #[aA,aB,.slice p n c,a,b,aD,aF,aC,aG,.slice q m c2]] w false):
  U 91 #[.agg #[aA,aB,.slice p n c,a,b,aD,aF,aC,aG,.slice q m c2]] w (O (I (-1)) w):=by
 go_enter func91,ntmps91;go_wp2_with fail;refine Z (HV _ (by exact .alloc (.refl _) _)) fun w1 d=>?_
 go_wp2;go_ret;exact⟨rfl,by exact .trans (.alloc (.refl _) _) d⟩
theorem aFq (aA aB a c aD aF aC aG:Int)(p:OA)(n d:Nat)(q:OA)(m c2:Nat)(w:World)(vs:List aR)(D:aR→Int)(hm:m≤12)(HB:Hid (∀v∈vs,0≤D v∧D v≤693))(HS:Hid (Sl w q m c2 4 (vs.flatMap aE)))
  (HV:xB 19 #[.agg #[aA,aB,.slice p n d,a,c,aD,aF,aC,aG,.slice q m c2]] w true)
  (HD:Hid (∀w' (k:Nat) a0 a1 a2 a3,vs[k]? =some (a0,a1,a2,a3)→U 35 #[aS a c aD aF,bX a1 a2 a3,aC] w' (O (I (D (a0,a1,a2,a3))) w'))):
  U 13 #[.agg #[aA,aB,.slice p n d,a,c,aD,aF,aC,aG,.slice q m c2]] w (O (I (mY D vs)) w):=by
 have hl:Hid (vs.length=m):=by have:=HS.out.len;rw[dD aE 4 (fun _=>rfl)]at this;exact(by omega:vs.length=m)
 go_enter func13,ntmps13;go_wp2_with fail;refine Z (HV _ (by exact .alloc (.refl _) _)) fun w1 h=>?_
 have BA:Blk w1 w 30 #[aA,aB,.slice p n d,a,c,aD,aF,aC,aG,.slice q m c2]:=(Blk.new w _ _).ext h;have l:=xQ BA;have X1:Ext w w1:=by exact .trans (.alloc (.refl _) _) h
 clear h;obtain⟨a0,a1,a2,a3,a4,a5,a6,a7,a8,a9⟩:=BA.ten;clear BA;go_wp2;clear a0 a1 a2 a3 a4 a5 a6 a7 a8 a9;go_loopw [3,12] (fun o i wr=> ∃k:Nat,k≤m∧i=I k∧o=I (mY D (vs.take k))∧Ext w wr∧Blk wr w 30 #[aA,aB,.slice p n d,a,c,aD,aF,aC,aG,.slice q m c2]) (fun _ i _=>m-(intOf i).toNat)
 case atStart=>exact⟨0,aTd _,rfl,rfl,X1,l.out⟩
 case round=>
  obtain⟨k,hk,rfl,rfl,hE,hB⟩:=hrel;have g:=xQ hB;clear X1 l;have ai:(w:Nat)<wr:=hB.lt;clear hB;by_cases hlt:k<m
  ·obtain⟨b,aj,a0,a1,a2,a3,rfl,hv,hb,g0,g1,g2,g3⟩:=eN (HS.out.ext hE) hlt;have z:=xQ hv;have t:=xQ (aAz D hv);have hd:=HB _ (aT7 hv);have j:=aCa D (vs.take k) 0 (fun x hx=>HB x (aUl hx));have ad:(vs.take k).length≤12:=by rw[aTt,hl.out];omega
   obtain⟨S,hS⟩: ∃S,S=mY D (vs.take k):=⟨_,rfl⟩
   obtain⟨E,f⟩: ∃E,E=D (a0,a1,a2,a3):=⟨_,rfl⟩
   change 0≤mY D (vs.take k)∧mY D (vs.take k)≤_ at j;rw[←hS]at j⊢;rw[←f]at hd;obtain⟨ae,af⟩:=hd;obtain⟨ag,ab⟩:=j;have ah:S≤8316:=by omega
   have u:Hid (S+E=mY D (vs.take (k+1))):=by show _=_;rw[t.out,hS,f]
   have y:=xQ f;clear hS ab ad t hv f;obtain⟨e0,e1,e2,e3,e4,e5,e6,e7,e8,e9⟩:=g.out.ten;go_wp2_with fail;refine Z (HD _ k a0 a1 a2 a3 z.out) fun w2 s=>?_
   rw[←y.out];have aa:=xQ ((g.out.alloc _).ext s);go_wp2;go_roundw
   case rel=>exact⟨k+1,by omega,by go_num,by rw[←u.out],by exact .trans (.alloc hE _) s,aa.out⟩
   case measure=>simp[intOf];omega
  have r:Hid (mY D (vs.take k)=mY D vs):=by show _=_;rw[aTa (by rw[hl.out];omega)]
  have e9:=g.out.cl 9;go_wp2;go_ret;exact⟨eS r.out,hE⟩
theorem aEg (aA aB a c aD aF aC aG:Int)(p:OA)(n d:Nat)(q:OA)(m c2:Nat)(w:World)(vs:List aR)(D:aR→Int)(hm:m≤12)(HB:Hid (∀v∈vs,0≤D v∧D v≤693))(HS:Hid (Sl w q m c2 4 (vs.flatMap aE)))
  (HV:xB 9 #[.agg #[aA,aB,.slice p n d,a,c,aD,aF,aC,aG,.slice q m c2]] w true)
  (HD:Hid (∀w' (k:Nat) a0 a1 a2 a3,Ext w w'→vs[k]? =some (a0,a1,a2,a3)→U 93 #[.agg #[aA,aB,.slice p n d,a,c,aD,aF,aC,aG,.slice q m c2],a0] w' (O (I (D (a0,a1,a2,a3))) w'))):
  U 91 #[.agg #[aA,aB,.slice p n d,a,c,aD,aF,aC,aG,.slice q m c2]] w (O (I (mY D vs)) w):=by
 have hl:Hid (vs.length=m):=by have:=HS.out.len;rw[dD aE 4 (fun _=>rfl)]at this;exact(by omega:vs.length=m)
 go_enter func91,ntmps91;go_wp2_with fail;refine Z (HV _ (by exact .alloc (.refl _) _)) fun w1 r=>?_
 have BA:Blk w1 w 30 #[aA,aB,.slice p n d,a,c,aD,aF,aC,aG,.slice q m c2]:=(Blk.new w _ _).ext r;have u:=xQ BA;have X1:Ext w w1:=by exact .trans (.alloc (.refl _) _) r
 clear r;obtain⟨a0,a1,a2,a3,a4,a5,a6,a7,a8,a9⟩:=BA.ten;clear BA;go_wp2;clear a0 a1 a2 a3 a4 a5 a6 a7 a8 a9;go_loopw [3,4] (fun o i wr=> ∃k:Nat,k≤m∧i=I k∧o=I (mY D (vs.take k))∧Ext w wr∧Blk wr w 30 #[aA,aB,.slice p n d,a,c,aD,aF,aC,aG,.slice q m c2]) (fun _ i _=>m-(intOf i).toNat)
 case atStart=>exact⟨0,aTd _,rfl,rfl,X1,u.out⟩
 case round=>
  obtain⟨k,hk,rfl,rfl,hE,hB⟩:=hrel;have j:=xQ hB;clear X1 u;have aj:(w:Nat)<wr:=hB.lt;clear hB;by_cases hlt:k<m
  ·obtain⟨b,t,a0,a1,a2,a3,rfl,hv,hb,g0,g1,g2,g3⟩:=eN (HS.out.ext hE) hlt;have ab:=xQ hv;have z:=xQ (aAz D hv);have hd:=HB _ (aT7 hv);have s:=aCa D (vs.take k) 0 (fun x hx=>HB x (aUl hx));have ae:(vs.take k).length≤12:=by rw[aTt,hl.out];omega
   obtain⟨S,hS⟩: ∃S,S=mY D (vs.take k):=⟨_,rfl⟩
   obtain⟨E,g⟩: ∃E,E=D (a0,a1,a2,a3):=⟨_,rfl⟩
   change 0≤mY D (vs.take k)∧mY D (vs.take k)≤_ at s;rw[←hS]at s⊢;rw[←g]at hd;obtain⟨af,ag⟩:=hd;obtain⟨ah,ad⟩:=s;have ai:S≤8316:=by omega
   have h:Hid (S+E=mY D (vs.take (k+1))):=by show _=_;rw[z.out,hS,g]
   have aa:=xQ g;clear hS ad ae z hv g;obtain⟨e0,e1,e2,e3,e4,e5,e6,e7,e8,e9⟩:=j.out.ten;have i1:=aVt k;have i2:=aVu k m;have j1:=aVw (S+E);go_wp2
   go_region_held3 (fun w'=>w'.cell? ⟨w,0,none⟩=some (I aA)∧w'.cell? ⟨w,1,none⟩=some (I aB)∧w'.cell? ⟨w,2,none⟩=some (.slice p n d)∧w'.cell? ⟨w,3,none⟩=some (I a)∧w'.cell? ⟨w,4,none⟩=some (I c)∧w'.cell? ⟨w,5,none⟩=some (I aD)∧w'.cell? ⟨w,6,none⟩=some (I aF)∧w'.cell? ⟨w,7,none⟩=some (I aC)∧w'.cell? ⟨w,8,none⟩=some (I aG)∧w'.cell? ⟨w,9,none⟩=some (.slice (some ⟨b,t,none⟩) m c2)∧w'.cell? ⟨b,t+k*4,none⟩=some (I a0)) (first|(refine⟨?_,?_,?_,?_,?_,?_,?_,?_,?_,?_,?_⟩<;>assumption)|go_keep)
    ((go_at_call 93
      refine Z (HD _ k a0 a1 a2 a3 (by first|exact hE|exact hE.drew|exact Ext.drewN hE _) ab.out) fun w2 f=>?_
      (try replace f:=f.of_drew);rw[←aa.out];have l:=xQ (j.out.ext f);have X2:Ext w w2:=hE.trans f;have gk:w2.cell? ⟨b,t+k*4,none⟩=some (I a0):=by rw[f.cells.1 _ _ hb];exact g0
      have k_:=l.out.ten
      clear f))
   all_goals clear j1
   all_goals go_wp2
   all_goals go_roundw
   all_goals first
    |(case rel=>exact⟨k+1,by omega,by go_num,by rw[←h.out],by exact X2,l.out⟩)
    |(case rel=>exact⟨k+1,by omega,by go_num,by rw[←h.out],xE,l.out.ext xE⟩)
    |(case measure=>simp[intOf];omega)
  have y:Hid (mY D (vs.take k)=mY D vs):=by show _=_;rw[aTa (by rw[hl.out];omega)]
  have e9:=j.out.cl 9;go_wp2;go_ret;exact⟨eS y.out,hE⟩
theorem eC {h:aL}(a:aP h=true):(h.vs.map (·.1)).Nodup∧h.vs.length≤12∧ ∀v∈h.vs,fP h.aC v=true:=by
 unfold aP at a;simp only[aTf]at a;obtain⟨⟨⟨h1,h2⟩,h3⟩,h4⟩:=a;obtain⟨q1,q2⟩:=kD h4;unfold aN at h1;rw[aTf]at h1;have hc:=(eI _ _).1 h1.2;have hb:=cG h1.1;refine⟨?_,?_,q2⟩
 ·rw[q1];exact(fW _).nodup_iff.2 hc.2.2
 have:=congrArg List.length q1;rw[aU1,jM]at this;have:=kT h.cells;omega
theorem xZ {h:aL}(a:aP h=true){v:aR}(hv:v∈h.vs):bT v.1 h.vs=some v:=by
 have hn:=(eC a).1;unfold bT;generalize h.vs=vs at hn hv;induction vs with
 |nil=>simp at hv
 |cons x xs ih=>
  rw[aUp,List.nodup_cons]at hn;rcases aTi.1 hv with rfl|hv
  ·simp[List.find?_cons]
  rw[List.find?_cons];have:(x.1==v.1)=false:=by rw[beq_eq_false_iff_ne];intro e;exact hn.1 (by rw[e];exact List.mem_map_of_mem hv)
  rw[this];exact ih hn.2 hv
theorem qU {h:aL}(a:aP h=true){v:aR}(hv:v∈h.vs):aQ h v.1=qV h v:=by unfold aQ cT qV;rw[if_pos a,xZ a hv];rfl
theorem wT {h:aL}(a:aP h=true){v:aR}(hv:v∈h.vs):bJ h.free h.step h.aD h.aF=true∧dI v.2.1 v.2.2.1 v.2.2.2=true∧v.2.2.2≤h.aC∧h.aC≤9999:=by have b:=(eC a).2.2 v hv;unfold aP at a;simp only[aTf]at a;obtain⟨⟨⟨h1,h2⟩,h3⟩,h4⟩:=a;unfold fP at b;unfold sP at h3;simp at b h3;exact⟨h2,b.1,b.2,h3.2.1⟩
theorem oH {h:aL}(f:aP h=true){v:aR}(hv:v∈h.vs):0≤qV h v∧qV h v≤693:=by obtain⟨a,b,c,d⟩:=wT f hv;have e:=fJ b;unfold qV cF;rw[a,b];have hf:=qS a (m:=h.aC-v.2.1) (by omega) (by omega);simp only[Bool.and_self,Bool.true_and,decide_eq_true_eq];rw[if_pos ⟨c,d⟩];omega
theorem aQr {h:aL}(a:aP h=true):0≤tQ h h.vs∧tQ h h.vs≤8316:=by have:=aCa (qV h) h.vs 0 (fun v hv=>oH a hv);have hl:=(eC a).2.1;unfold tQ;omega
theorem nR (h:aL)(p:OA)(n c:Nat)(q:OA)(m c2:Nat)(w:World)(hi:IsHouse w h p n c q m c2):
  U 13 #[bG h p n c q m c2] w (O (I (dW h)) w):=by
 have HV:=fun(w':World) (hx:Ext w w')=>iW h p n c q m c2 w' (hi.ext hx)
 have g:=hi.vlen;unfold dW;cases hok:aP h with
 |false=>rw[hok]at HV;obtain⟨aA,aB,d,a,b,aD,aF,aC,aG,vs⟩:=h;exact aIk aA aB a b aD aF aC aG p n c q m c2 w HV
 |true=>
  rw[hok]at HV;have hn:=(eC hok).2.1;have f:=fun v (hv:v∈h.vs)=>oH hok hv
  rw[if_pos rfl];obtain⟨aA,aB,d,a,b,aD,aF,aC,aG,vs⟩:=h;simp only at g hn
  exact aFq aA aB a b aD aF aC aG p n c q m c2 w vs (qV ⟨aA,aB,d,a,b,aD,aF,aC,aG,vs⟩) (by omega) f hi.vs HV (fun w' k a0 a1 a2 a3 hv=>by
    obtain⟨x1,x2,x3,x4⟩:=wT hok (aT7 hv)
    exact zD _ _ _ _ _ _ _ _ w' x1 x2 x3 x4)
theorem aA7 (h:aL)(p:OA)(n c:Nat)(q:OA)(m c2:Nat)(w:World)(hi:IsHouse w h p n c q m c2):
  U 91 #[bG h p n c q m c2] w (O (I (dW h)) w):=by
 have HV:=fun(w':World) (hx:Ext w w')=>iA h p n c q m c2 w' (hi.ext hx)
 have g:=hi.vlen;unfold dW;cases hok:aP h with
 |false=>rw[hok]at HV;obtain⟨aA,aB,d,a,b,aD,aF,aC,aG,vs⟩:=h;exact aH3 aA aB a b aD aF aC aG p n c q m c2 w HV
 |true=>
  rw[hok]at HV;have hn:=(eC hok).2.1;have f:=fun v (hv:v∈h.vs)=>oH hok hv
  rw[if_pos rfl];obtain⟨aA,aB,d,a,b,aD,aF,aC,aG,vs⟩:=h;simp only at g hn
  exact aEg aA aB a b aD aF aC aG p n c q m c2 w vs (qV ⟨aA,aB,d,a,b,aD,aF,aC,aG,vs⟩) (by omega) f hi.vs HV (fun w' k a0 a1 a2 a3 hx hv=>by
    have:=oQ _ a0 p n c q m c2 w' (hi.ext hx);rw[qU hok (aT7 hv)]at this
    exact this)
end
end Go.Proofs.YthfmmibomhhmpaaGreatDoor
