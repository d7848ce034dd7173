/- Lemmas (@packed). -/
import Derived.Test.YthfmmibomhhmpabGreatDoorZ13
namespace Go.Proofs.YthfmmibomhhmpabGreatDoor
open Go.RowKit Go.Proofs.Tryz
set_option linter.all false
set_option maxHeartbeats 64000000
set_option maxRecDepth 100000
variable{p:List UInt8}{g B T sz n k:Nat}{q:OA}{t e:TypeId}{v:Value}{w w' W0 wr a:World}(K:Int)(l:List UInt8)(first:Int)(R:Nat)
theorem aG2 (k:Nat)(n:Int)(w:World)(b7:Rand w R k)(hk:k≤1099511500000)(cp:0≤n)(cq:n≤1000000):
  U 44 #[.pointer (some ⟨R,0,none⟩),n] w (aPn R k w):=by
 have hR:=b7.lt;go_enter func44,ntmps44;go_wp2_with fail;refine(cP R k 2 _ (b7.ext (by exact .alloc (.refl _) _)) (by omega)).mono ?_;rintro e w1 ⟨x,rfl,xa,xb,r1,x1⟩;have M1:=(((MemR.start R w hR).c0 aN zT).pickd x1)
 clear x1;have ad:=M1.hi 0;go_wp2_with fail;refine(cP R (k+1) (2) _ r1 (by omega)).mono ?_;rintro e w2 ⟨y,rfl,ya,yb,r2,yx⟩;have M2:=(M1.pickd yx)
 clear yx M1 ad;have ae:=M2.hi 0;have i1:=aYs (2+x);have i2:=aYs (2+y);go_wp2_with fail;refine(aDd R (k+1+1) 0 _ r2 (by omega) (by omega) (by omega)).mono ?_;rintro e w3 ⟨tf,ts,tp,tc,rfl,r3,x3⟩;have M3:=(M2.pickd x3)
 clear x3 M2 ae;have o:=M3.hi 0;go_wp2_with fail;refine(aUo _ _ tf ts tp tc _).mono ?_;intro e w4 a2;obtain⟨h0,b6,p0,ai,q0,aj,rfl,ho,hv,hx⟩: ∃h0:aQ,Good h0∧RetHouse h0 w3 e w4:=⟨_,aDl _ _ _ _ _ _,a2⟩
 clear a2 i1 i2 xa xb;have r4:Rand w4 R (k+9):=(r3.ext hx).mono (by omega);have bv:=xQ b6;clear b6 r1 r2;have M4:=(show MemR R w w4 [aYm w p0 h0.cells ai,aYn w q0 h0.vs aj,aI w w aN #[(),(),((),()),(),(),(),(),(),(),((),())]]from M3.own2 (hx.r R) ho hv (by decide))
 clear ho hv hx r3 M3 o;have bo:=M4.hi 2;have cr:(w:Nat)≤w4:=M4.ext.sz;go_upto_region 2 with fail;have r5:Rand (w4.alloc (.cells #[h0.aA,h0.aB,.slice p0 h0.cells ai,h0.free,h0.step,h0.aE,h0.aF,h0.aD,h0.aG,.slice q0 h0.vs aj] aN)) R (k+9):=xN;have M5:=(M4.c0 aN (aYo h0 p0 ai q0 aj))
 generalize d:(w4.alloc (.cells #[h0.aA,h0.aB,.slice p0 h0.cells ai,h0.free,h0.step,h0.aE,h0.aF,h0.aD,h0.aG,.slice q0 h0.vs aj] aN))=w5;rw[d]at M5 r5;clear d r4 M4 bo;have ab:=M5.hi 0;have ag:=M5.hi 3;obtain⟨HB,b3⟩: ∃a,a=w4.heap.size:=⟨_,rfl⟩
 have b4:R<w4:=by omega
 rw[←b3]at M5 b4 ab⊢;clear b3 cr;go_wp2_with fail;refine(cP R (k+9) (24) _ r5 (by omega)).mono ?_;rintro e w6 ⟨x,rfl,xa,xb,r6,xx⟩;have M6:=(M5.pickd xx)
 clear xx M5 ab ag;have bp:=M6.hi 0;have br:=M6.hi 3;obtain⟨j0,rfl⟩:=aWk xa;have bd:j0≤23:=by omega
 clear xa xb;have MS:=(show MemR R w w6 [aI w (HB) aN (aYo h0 p0 ai q0 aj),aYm w p0 h0.cells ai,aYn w q0 h0.vs aj,aI w w aN #[(),(),((),()),(),(),(),(),(),(),((),())]]from M6)
 clear M6 bp br;go_wp2;go_loopw [6] (fun i wr=> ∃(h:aQ) (p:OA) (cap:Nat) (q:OA) (c2 j:Nat),i=I j∧j≤23∧Good h∧MemR R w wr [aI w (HB) aN (aYo h p cap q c2),aYm w p h.cells cap,aYn w q h.vs c2,aI w w aN #[(),(),((),()),(),(),(),(),(),(),((),())]]∧Rand wr R (k+20+800*(23-j))) (fun i _=>(intOf i).toNat)
 case atStart=>exact⟨h0,p0,ai,q0,aj,j0,rfl,bd,bv.out,MS,r6.mono (by omega)⟩
 case round=>
  clear MS r6 r5 bv;obtain⟨h,p,cap,q,c2,j,rfl,hj,hg,hM,rr⟩:=hrel;have M1:=hM;have HG:=xQ hg;have c1:=hg.small;clear hM hg;have ah:R<wr:=rr.lt;have ad:=M1.hi 0;have ar:=M1.hi 3;by_cases bd:j=0
  ·skip;subst bd;go_wp2_with fail;refine(aFx R (k+20+800*(23-0)) n _ rr (by omega) cp cq).mono ?_;rintro e w2 ⟨t,rfl,r2,x2⟩;clear rr;have M2:=(M1.pickd x2)
   clear x2 M1 ad ar;have ae:=M2.hi 0;have af:=M2.hi 3;cases t with
   |false=>
    obtain⟨d0,d1,d2,d3,d4,d5,d6,d7,d8,d9⟩:=(M2.bk 0).ten;have f_:=(M2.bk 3).tenf;obtain⟨f,m⟩:=M2.nq 0 3;have r9:Rand ((((((((((w2.setCell ⟨w,0,none⟩ (I h.aA)).setCell ⟨w,1,none⟩ (I h.aB)).setCell ⟨w,2,none⟩ (.slice p h.cells cap)).setCell ⟨w,3,none⟩ (I h.free)).setCell ⟨w,4,none⟩ (I h.step)).setCell ⟨w,5,none⟩ (I h.aE)).setCell ⟨w,6,none⟩ (I h.aF)).setCell ⟨w,7,none⟩ (I h.aD)).setCell ⟨w,8,none⟩ (I h.aG)).setCell ⟨w,9,none⟩ (.slice q h.vs c2)) R (k+20+800*(23-0)+1):=xN;go_wp2;clear d0 d1 d2 d3 d4 d5 d6 d7 d8 d9 f_ f m ae af;have M3:=(M2.put10 (i:=3) rfl (I h.aA) (I h.aB) (.slice p h.cells cap) (I h.free) (I h.step) (I h.aE) (I h.aF) (I h.aD) (I h.aG) (.slice q h.vs c2))
    generalize d:World.setCell _ _ _=wz;rw[d]at M3 r9;clear d M2;have o:=M3.hi 0;have s:=M3.hi 3;have y_:=(M3.bk 3).ten;exact aYw (v:= .agg #[h.aA,h.aB,.slice p h.cells cap,h.free,h.step,h.aE,h.aF,h.aD,h.aG,.slice q h.vs c2]) ⟨h,p,cap,q,c2,rfl,by(try simp only[aW5,List.length_singleton]);omega,by(try simp only[aW5,List.length_singleton]);omega,by have:=M3.ow 1;simpa using this,by have:=M3.ow 2;simpa using this,r9.mono (by omega),M3.ext⟩
   |true=>
    go_wp2_with fail;refine(cP R (k+20+800*(23-0)+1) (4) _ r2 (by omega)).mono ?_;rintro e w3 ⟨x,rfl,xa,xb,r3,xx⟩;have M3:=(M2.pickd xx)
    clear xx M2 ae af;have o:=M3.hi 0;have s:=M3.hi 3;have ct:x=0∨x=1∨x=2∨x=3:=by omega
    clear xa xb;rcases ct with rfl|rfl|rfl|rfl
    ·skip;go_wp2_with fail;refine(cP R (k+20+800*(23-0)+1+1) 2 _ (r3.ext (by exact .alloc (.refl _) _)) (by omega)).mono ?_;rintro e w4 ⟨y,rfl,ya,yb,r4,x4⟩;have M4:=((M3.lit TI 1 2 w3 #[(-1:Int),I 10000] (by simp) (by simp) (by simp[maxLen])).pickd x4)
     clear x4 M3 o s;have au:=M4.hi 1;have av:=M4.hi 4;have cu:y=0∨y=1:=by omega
     clear ya yb;rcases cu with rfl|rfl
     ·skip;have d7:=(M4.bk 1).cl 7;have an:=(M4.bk 1).frozen 7;have e0:w4.cell? ⟨w3,0,none⟩=some (I (-1)):=by rw[(M4.ow 0).cellAt 0 (by omega)];rfl
      have e1:(w3:Nat)<w4:=(M4.hi 0)
      go_upto_region 17 with fail;clear d7 an e0 e1;have r5:Rand (w4.setCell ⟨HB,7,none⟩ (I (-1))) R (k+20+800*(23-0)+1+1+1):=xN;have M5:=(show MemR R w (w4.setCell ⟨HB,7,none⟩ (I (-1))) [aJ w TI 1 (some ⟨w3,0,none⟩) (2) (2) ([I (-1),I 10000]),aI w (HB) aN #[h.aA,h.aB,.slice p h.cells cap,h.free,h.step,h.aE,h.aF,(-1:Int),h.aG,.slice q h.vs c2],aYm w p h.cells cap,aYn w q h.vs c2,aI w w aN #[(),(),((),()),(),(),(),(),(),(),((),())]]from(M4.store (i:=1) rfl 7 (I (-1))))
      generalize d:World.setCell _ _ _=w5;rw[d]at M5 r5;clear d r4 M4 au av;have ak:=M5.hi 1;have al:=M5.hi 4;obtain⟨d0,d1,d2,d3,d4,d5,d6,d7,d8,d9⟩:=(M5.bk 1).ten;have f_:=(M5.bk 4).tenf;obtain⟨f,m⟩:=M5.nq 1 4;have r9:Rand ((((((((((w5.setCell ⟨w,0,none⟩ (I h.aA)).setCell ⟨w,1,none⟩ (I h.aB)).setCell ⟨w,2,none⟩ (.slice p h.cells cap)).setCell ⟨w,3,none⟩ (I h.free)).setCell ⟨w,4,none⟩ (I h.step)).setCell ⟨w,5,none⟩ (I h.aE)).setCell ⟨w,6,none⟩ (I h.aF)).setCell ⟨w,7,none⟩ (I (-1))).setCell ⟨w,8,none⟩ (I h.aG)).setCell ⟨w,9,none⟩ (.slice q h.vs c2)) R (k+20+800*(23-0)+1+1+1):=xN;go_wp2;clear d0 d1 d2 d3 d4 d5 d6 d7 d8 d9 f_ f m ak al;have M6:=(M5.put10 (i:=4) rfl (I h.aA) (I h.aB) (.slice p h.cells cap) (I h.free) (I h.step) (I h.aE) (I h.aF) (I (-1)) (I h.aG) (.slice q h.vs c2))
      generalize d:World.setCell _ _ _=wz;rw[d]at M6 r9;clear d M5;have bq:=M6.hi 1;have bs:=M6.hi 4;have y_:=(M6.bk 4).ten;exact aYw (v:= .agg #[h.aA,h.aB,.slice p h.cells cap,h.free,h.step,h.aE,h.aF,(-1:Int),h.aG,.slice q h.vs c2]) ⟨{h with aD:= -1},p,cap,q,c2,rfl,by(try simp only[aW5,List.length_singleton]);omega,by(try simp only[aW5,List.length_singleton]);omega,by have:=M6.ow 2;simpa using this,by have:=M6.ow 3;simpa using this,r9.mono (by omega),M6.ext⟩
     skip;have d7:=(M4.bk 1).cl 7;have an:=(M4.bk 1).frozen 7;have e0:w4.cell? ⟨w3,1,none⟩=some (I (10000)):=by rw[(M4.ow 0).cellAt 1 (by omega)];rfl
     have e1:(w3:Nat)<w4:=(M4.hi 0)
     go_upto_region 17 with fail;clear d7 an e0 e1;have r5:Rand (w4.setCell ⟨HB,7,none⟩ (I (10000))) R (k+20+800*(23-0)+1+1+1):=xN;have M5:=(show MemR R w (w4.setCell ⟨HB,7,none⟩ (I (10000))) [aJ w TI 1 (some ⟨w3,0,none⟩) (2) (2) ([I (-1),I 10000]),aI w (HB) aN #[h.aA,h.aB,.slice p h.cells cap,h.free,h.step,h.aE,h.aF,(10000:Int),h.aG,.slice q h.vs c2],aYm w p h.cells cap,aYn w q h.vs c2,aI w w aN #[(),(),((),()),(),(),(),(),(),(),((),())]]from(M4.store (i:=1) rfl 7 (I (10000))))
     generalize d:World.setCell _ _ _=w5;rw[d]at M5 r5;clear d r4 M4 au av;have ak:=M5.hi 1;have al:=M5.hi 4;obtain⟨d0,d1,d2,d3,d4,d5,d6,d7,d8,d9⟩:=(M5.bk 1).ten;have f_:=(M5.bk 4).tenf;obtain⟨f,m⟩:=M5.nq 1 4;have r9:Rand ((((((((((w5.setCell ⟨w,0,none⟩ (I h.aA)).setCell ⟨w,1,none⟩ (I h.aB)).setCell ⟨w,2,none⟩ (.slice p h.cells cap)).setCell ⟨w,3,none⟩ (I h.free)).setCell ⟨w,4,none⟩ (I h.step)).setCell ⟨w,5,none⟩ (I h.aE)).setCell ⟨w,6,none⟩ (I h.aF)).setCell ⟨w,7,none⟩ (I (10000))).setCell ⟨w,8,none⟩ (I h.aG)).setCell ⟨w,9,none⟩ (.slice q h.vs c2)) R (k+20+800*(23-0)+1+1+1):=xN;go_wp2;clear d0 d1 d2 d3 d4 d5 d6 d7 d8 d9 f_ f m ak al;have M6:=(M5.put10 (i:=4) rfl (I h.aA) (I h.aB) (.slice p h.cells cap) (I h.free) (I h.step) (I h.aE) (I h.aF) (I (10000)) (I h.aG) (.slice q h.vs c2))
     generalize d:World.setCell _ _ _=wz;rw[d]at M6 r9;clear d M5;have bq:=M6.hi 1;have bs:=M6.hi 4;have y_:=(M6.bk 4).ten;exact aYw (v:= .agg #[h.aA,h.aB,.slice p h.cells cap,h.free,h.step,h.aE,h.aF,(10000:Int),h.aG,.slice q h.vs c2]) ⟨{h with aD:=10000},p,cap,q,c2,rfl,by(try simp only[aW5,List.length_singleton]);omega,by(try simp only[aW5,List.length_singleton]);omega,by have:=M6.ow 2;simpa using this,by have:=M6.ow 3;simpa using this,r9.mono (by omega),M6.ext⟩
    ·skip;have d8:=(M3.bk 0).cl 8;have a8:=(M3.bk 0).frozen 8;go_upto_region 17 with fail;clear d8 a8;have r5:Rand (w3.setCell ⟨HB,8,none⟩ (I (-1))) R (k+20+800*(23-0)+1+1):=xN;have M4:=(show MemR R w (w3.setCell ⟨HB,8,none⟩ (I (-1))) [aI w (HB) aN #[h.aA,h.aB,.slice p h.cells cap,h.free,h.step,h.aE,h.aF,h.aD,(-1:Int),.slice q h.vs c2],aYm w p h.cells cap,aYn w q h.vs c2,aI w w aN #[(),(),((),()),(),(),(),(),(),(),((),())]]from(M3.store (i:=0) rfl 8 (I (-1))))
     generalize d:World.setCell _ _ _=w5;rw[d]at M4 r5;clear d r3 M3 o s;have z:=M4.hi 0;have aa:=M4.hi 3;obtain⟨d0,d1,d2,d3,d4,d5,d6,d7,d8,d9⟩:=(M4.bk 0).ten;have f_:=(M4.bk 3).tenf;obtain⟨f,m⟩:=M4.nq 0 3;have r9:Rand ((((((((((w5.setCell ⟨w,0,none⟩ (I h.aA)).setCell ⟨w,1,none⟩ (I h.aB)).setCell ⟨w,2,none⟩ (.slice p h.cells cap)).setCell ⟨w,3,none⟩ (I h.free)).setCell ⟨w,4,none⟩ (I h.step)).setCell ⟨w,5,none⟩ (I h.aE)).setCell ⟨w,6,none⟩ (I h.aF)).setCell ⟨w,7,none⟩ (I h.aD)).setCell ⟨w,8,none⟩ (I (-1))).setCell ⟨w,9,none⟩ (.slice q h.vs c2)) R (k+20+800*(23-0)+1+1):=xN;go_wp2;clear d0 d1 d2 d3 d4 d5 d6 d7 d8 d9 f_ f m z aa;have M5:=(M4.put10 (i:=3) rfl (I h.aA) (I h.aB) (.slice p h.cells cap) (I h.free) (I h.step) (I h.aE) (I h.aF) (I h.aD) (I (-1)) (.slice q h.vs c2))
     generalize d:World.setCell _ _ _=wz;rw[d]at M5 r9;clear d M4;have ab:=M5.hi 0;have ag:=M5.hi 3;have y_:=(M5.bk 3).ten;exact aYw (v:= .agg #[h.aA,h.aB,.slice p h.cells cap,h.free,h.step,h.aE,h.aF,h.aD,(-1:Int),.slice q h.vs c2]) ⟨{h with aG:= -1},p,cap,q,c2,rfl,by(try simp only[aW5,List.length_singleton]);omega,by(try simp only[aW5,List.length_singleton]);omega,by have:=M5.ow 1;simpa using this,by have:=M5.ow 2;simpa using this,r9.mono (by omega),M5.ext⟩
    ·skip;have d9:=(M3.bk 0).cl 9;have ba:=(M3.bk 0).frozen 9;go_upto_region 17 with(at_builtin;refine mR zF rfl _ _ rfl (M3.adv ((Ext.refl _).alloc (.cells #[I 98,(),(),()] TV))) 2 rfl rfl (aC (98,0,0,0)) rfl (fC _ _ _ 1 4 _ (by first|rfl|simp) (by first|rfl|simp) (by simp[maxLen])) (tP _) (by omega) ?_;intro q7 c7 w7 a6 bg;have M7:=xQ (show MemR R w w7 [aI w (HB) aN (aYo h p cap q c2),aYm w p h.cells cap,aJ w TV 4 (q7) (h.vs.length+1) (c7) (h.vs.flatMap aC++aC (98,0,0,0)),aI w w aN #[(),(),((),()),(),(),(),(),(),(),((),())]]from a6);have r7:Rand w7 R (k+20+800*(23-0)+1+1):=bg _ xN;have g9:w7.cell? ⟨HB,9,none⟩=some (.slice q h.vs c2):=(M7.out.bk 0).cell 9;have c0:w7.frozen? ⟨HB,9,none⟩=false:=(M7.out.bk 0).frozen 9);clear d9 ba o s;have o:=M7.out.hi 0;have s:=M7.out.hi 3;have r5:Rand (w7.setCell ⟨HB,9,none⟩ (.slice q7 (h.vs.length+1) c7)) R (k+20+800*(23-0)+1+1):=xN;have M4:=(show MemR R w (w7.setCell ⟨HB,9,none⟩ (.slice q7 (h.vs.length+1) c7)) [aI w (HB) aN #[h.aA,h.aB,.slice p h.cells cap,h.free,h.step,h.aE,h.aF,h.aD,h.aG,.slice q7 (h.vs.length+1) c7],aYm w p h.cells cap,aJ w TV 4 (q7) (h.vs.length+1) (c7) (h.vs.flatMap aC++aC (98,0,0,0)),aI w w aN #[(),(),((),()),(),(),(),(),(),(),((),())]]from(M7.out.store (i:=0) rfl 9 (.slice q7 (h.vs.length+1) c7)))
     generalize d:World.setCell _ _ _=w5;rw[d]at M4 r5;clear d r7 M7 o s;have z:=M4.hi 0;have aa:=M4.hi 3;obtain⟨d0,d1,d2,d3,d4,d5,d6,d7,d8,d9⟩:=(M4.bk 0).ten;have f_:=(M4.bk 3).tenf;obtain⟨f,m⟩:=M4.nq 0 3;have r9:Rand ((((((((((w5.setCell ⟨w,0,none⟩ (I h.aA)).setCell ⟨w,1,none⟩ (I h.aB)).setCell ⟨w,2,none⟩ (.slice p h.cells cap)).setCell ⟨w,3,none⟩ (I h.free)).setCell ⟨w,4,none⟩ (I h.step)).setCell ⟨w,5,none⟩ (I h.aE)).setCell ⟨w,6,none⟩ (I h.aF)).setCell ⟨w,7,none⟩ (I h.aD)).setCell ⟨w,8,none⟩ (I h.aG)).setCell ⟨w,9,none⟩ (.slice q7 (h.vs.length+1) c7)) R (k+20+800*(23-0)+1+1):=xN;go_wp2;clear d0 d1 d2 d3 d4 d5 d6 d7 d8 d9 f_ f m z aa;have M5:=(M4.put10 (i:=3) rfl (I h.aA) (I h.aB) (.slice p h.cells cap) (I h.free) (I h.step) (I h.aE) (I h.aF) (I h.aD) (I h.aG) (.slice q7 (h.vs.length+1) c7))
     generalize d:World.setCell _ _ _=wz;rw[d]at M5 r9;clear d M4;have ab:=M5.hi 0;have ag:=M5.hi 3;have y_:=(M5.bk 3).ten;exact aYw (v:= .agg #[h.aA,h.aB,.slice p h.cells cap,h.free,h.step,h.aE,h.aF,h.aD,h.aG,.slice q7 (h.vs.length+1) c7]) ⟨{h with vs:=h.vs++ [(98,0,0,0)]},p,cap,q7,c7,by simp[bV],by(try simp only[aW5,List.length_singleton]);omega,by(try simp only[aW5,List.length_singleton]);omega,by have:=M5.ow 1;simpa using this,by have:=M5.ow 2;simpa using this,r9.mono (by omega),M5.ext⟩
    skip;have d2:=(M3.bk 0).cl 2;have a7:=(M3.bk 0).frozen 2;go_upto_region 17 with(at_builtin;refine mR iA rfl _ _ rfl (M3.adv ((Ext.refl _).alloc (.cells #[()] TI))) 1 rfl rfl ([I 0]) rfl (fC _ _ _ 1 1 _ (by first|rfl|simp) (by first|rfl|simp) (by simp[maxLen])) (fun u hu=>by obtain rfl:=aWq.1 hu;rfl) (by omega) ?_;intro q7 c7 w7 a6 bg;have M7:=xQ (show MemR R w w7 [aI w (HB) aN (aYo h p cap q c2),aJ w TI 1 (q7) (h.cells.length+1) (c7) (ivs h.cells++ [I 0]),aYn w q h.vs c2,aI w w aN #[(),(),((),()),(),(),(),(),(),(),((),())]]from a6);have r7:Rand w7 R (k+20+800*(23-0)+1+1):=bg _ xN;have g2:w7.cell? ⟨HB,2,none⟩=some (.slice p h.cells cap):=(M7.out.bk 0).cell 2;have cy:w7.frozen? ⟨HB,2,none⟩=false:=(M7.out.bk 0).frozen 2);clear d2 a7 o s;have o:=M7.out.hi 0;have s:=M7.out.hi 3;have r5:Rand (w7.setCell ⟨HB,2,none⟩ (.slice q7 (h.cells.length+1) c7)) R (k+20+800*(23-0)+1+1):=xN;have M4:=(show MemR R w (w7.setCell ⟨HB,2,none⟩ (.slice q7 (h.cells.length+1) c7)) [aI w (HB) aN #[h.aA,h.aB,.slice q7 (h.cells.length+1) c7,h.free,h.step,h.aE,h.aF,h.aD,h.aG,.slice q h.vs c2],aJ w TI 1 (q7) (h.cells.length+1) (c7) (ivs h.cells++ [I 0]),aYn w q h.vs c2,aI w w aN #[(),(),((),()),(),(),(),(),(),(),((),())]]from(M7.out.store (i:=0) rfl 2 (.slice q7 (h.cells.length+1) c7)))
    generalize d:World.setCell _ _ _=w5;rw[d]at M4 r5;clear d r7 M7 o s;have z:=M4.hi 0;have aa:=M4.hi 3;obtain⟨d0,d1,d2,d3,d4,d5,d6,d7,d8,d9⟩:=(M4.bk 0).ten;have f_:=(M4.bk 3).tenf;obtain⟨f,m⟩:=M4.nq 0 3;have r9:Rand ((((((((((w5.setCell ⟨w,0,none⟩ (I h.aA)).setCell ⟨w,1,none⟩ (I h.aB)).setCell ⟨w,2,none⟩ (.slice q7 (h.cells.length+1) c7)).setCell ⟨w,3,none⟩ (I h.free)).setCell ⟨w,4,none⟩ (I h.step)).setCell ⟨w,5,none⟩ (I h.aE)).setCell ⟨w,6,none⟩ (I h.aF)).setCell ⟨w,7,none⟩ (I h.aD)).setCell ⟨w,8,none⟩ (I h.aG)).setCell ⟨w,9,none⟩ (.slice q h.vs c2)) R (k+20+800*(23-0)+1+1):=xN;go_wp2;clear d0 d1 d2 d3 d4 d5 d6 d7 d8 d9 f_ f m z aa;have M5:=(M4.put10 (i:=3) rfl (I h.aA) (I h.aB) (.slice q7 (h.cells.length+1) c7) (I h.free) (I h.step) (I h.aE) (I h.aF) (I h.aD) (I h.aG) (.slice q h.vs c2))
    generalize d:World.setCell _ _ _=wz;rw[d]at M5 r9;clear d M4;have ab:=M5.hi 0;have ag:=M5.hi 3;have y_:=(M5.bk 3).ten;exact aYw (v:= .agg #[h.aA,h.aB,.slice q7 (h.cells.length+1) c7,h.free,h.step,h.aE,h.aF,h.aD,h.aG,.slice q h.vs c2]) ⟨{h with cells:=h.cells++ [0]},q7,c7,q,c2,by simp[bV],by(try simp only[aW5,List.length_singleton]);omega,by(try simp only[aW5,List.length_singleton]);omega,by have:=M5.ow 1;simpa using this,by have:=M5.ow 2;simpa using this,r9.mono (by omega),M5.ext⟩
  obtain⟨j,rfl⟩: ∃i,j=i+1:=⟨j-1,by omega⟩
  have i1:decide ((0:Int)<((j+1:Nat):Int))=true:=by first|(simp;done)|(simp;omega)
  have i2:decide ((0:Int)<(j:Int)+1)=true:=by first|(simp;done)|(simp;omega)
  have B0:=xQ (M1.bk 0);have bz:=(M1.bk 0).ten;have n1: ¬(HB=wr.heap.size):=by omega
  have n2: ¬(wr.heap.size=HB):=by omega
  have c3:HB<wr:=by omega
  have a3:=xQ fun(w':World) (kk:Nat) (hkk:kk≤1099511600000) (hx:ExtR R wr w') (hr:Rand w' R kk)=>qC R kk h p cap q c2 w' hr hkk (by omega) (nN (i:=1) (j:=2) (M1.pickd hx) rfl rfl) (pY (i:=1) M1 rfl) (pY (i:=2) M1 rfl)
  have a4:=xQ fun(w':World) (hx:ExtR R wr w') (a b c:Int)=>xO h HG a b c p _ cap q _ c2 w' (nN (i:=1) (j:=2) (M1.pickd hx) rfl rfl)
  unfold aMf at a3;unfold aH9 at a4;go_wp2
  refine sI (gl [gEq (.agg #[h.aA,h.aB,.slice p h.cells cap,h.free,h.step,h.aE,h.aF,h.aD,h.aG,.slice q h.vs c2]),gEq (.pointer (some ⟨R,0,none⟩)),gEq (.agg #[h.aA,h.aB,.slice p h.cells cap,h.free,h.step,h.aE,h.aF,h.aD,h.aG,.slice q h.vs c2]),(fun v _=> ∃a b c:Int,v=cS a b c),(fun v w'=> ∃(h':aQ) (p':OA) (cap':Nat) (q':OA) (c2':Nat) (nn:Int) (ok:Bool),v= .tuple #[bV h' p' h'.cells.length cap' q' h'.vs.length c2',nn,.bool ok]∧Good h'∧w'.ownsRow wr TI 1 (.slice p' h'.cells cap') h'.cells.length (ivs h'.cells)∧w'.ownsRow wr TV 4 (.slice q' h'.vs c2') h'.vs.length (h'.vs.flatMap aC)),(fun v w'=> ∃(h':aQ) (p':OA) (cap':Nat) (q':OA) (c2':Nat) (nn:Int) (ok:Bool),v= .tuple #[bV h' p' h'.cells.length cap' q' h'.vs.length c2',nn,.bool ok]∧Good h'∧w'.ownsRow wr TI 1 (.slice p' h'.cells cap') h'.cells.length (ivs h'.cells)∧w'.ownsRow wr TV 4 (.slice q' h'.vs c2') h'.vs.length (h'.vs.flatMap aC)),(fun v w'=> ∃(h':aQ) (p':OA) (cap':Nat) (q':OA) (c2':Nat),v=bV h' p' h'.cells.length cap' q' h'.vs.length c2'∧Good h'∧w'.ownsRow wr TI 1 (.slice p' h'.cells cap') h'.cells.length (ivs h'.cells)∧w'.ownsRow wr TV 4 (.slice q' h'.vs c2') h'.vs.length (h'.vs.flatMap aC)),zD,aSd,(fun v w'=> ∃a:Nat,v= .pointer (some ⟨a,0,none⟩)∧wr.heap.size≤a∧tN wr w' a),(fun _ _=>True),zD,aSd]) (RG R wr) R (k+20+800*(23-(j+1))) 60 13 (by kernel_rfl) rfl (by kernel_rfl) (by kernel_rfl) (by kernel_rfl) rr (fun w=>RG.refl _ _ w) (fun _ _ _=>RG.trans ah) (aCa (eB (lE _) (eB (lE _) (eB (lE _) (eB (fun _ _ _ h _=>h) (eB (fun v w w' ⟨h',p',cap',q',c2',nn,ok,e,g,a,b⟩ hx=>⟨h',p',cap',q',c2',nn,ok,e,g,hx.own a ah (by decide),hx.own b ah (by decide)⟩) (eB (fun v w w' ⟨h',p',cap',q',c2',nn,ok,e,g,a,b⟩ hx=>⟨h',p',cap',q',c2',nn,ok,e,g,hx.own a ah (by decide),hx.own b ah (by decide)⟩) (eB (fun v w w' ⟨h',p',cap',q',c2',e,g,a,b⟩ hx=>⟨h',p',cap',q',c2',e,g,hx.own a ah (by decide),hx.own b ah (by decide)⟩) (eB (vZ) (eB (aA7) (eB (fun v w w' ⟨a,e,l,hb⟩ hx=>⟨a,e,l,hx.house ah l hb⟩) (eB (aM4) (eB (vZ) (eB (aA7) (aGv))))))))))))))) rfl (k:=13) (by kernel_rfl) (by decide) (ls:= [(0,some 26),(1,some 27),(2,some 28),(3,some 29),(4,some 30),(5,some 25),(6,some 31),(7,some 32),(8,some 33),(9,some 7),(10,none),(11,some 8),(12,some 9)]) (by kernel_rfl) (ir:= [0,1,2,3,4,5,6,7,8,9,10,11,12]) (by kernel_rfl) ?steps (tl:=#[true,true,true,true,true,true,true,true,true,true,true,true,true]) (by kernel_rfl) ?fin
  case steps=>
   refine sCx [] rfl (fun wi kk hx hr hkk=> ?_) ?_
   ·intro K hK;have bz:=(hx.extR.blk B0 (by omega)).ten;go_simp;exact hK _ _ ⟨.agg #[h.aA,h.aB,.slice p h.cells cap,h.free,h.step,h.aE,h.aF,h.aD,h.aG,.slice q h.vs c2],rfl,rfl,⟨RG.refl _ _ _,hr.mono (by omega)⟩⟩
   refine sCx [] rfl (fun wi kk hx hr hkk=> ?_) ?_
   ·intro K hK;go_simp;exact hK _ _ ⟨.pointer (some ⟨R,0,none⟩),rfl,rfl,⟨RG.refl _ _ _,hr.mono (by omega)⟩⟩
   refine sCx [] rfl (fun wi kk hx hr hkk=> ?_) ?_
   ·intro K hK;have bz:=(hx.extR.blk B0 (by omega)).ten;go_simp;exact hK _ _ ⟨.agg #[h.aA,h.aB,.slice p h.cells cap,h.free,h.step,h.aE,h.aF,h.aD,h.aG,.slice q h.vs c2],rfl,rfl,⟨RG.refl _ _ _,hr.mono (by omega)⟩⟩
   refine sCx [(1,some 27),(2,some 28)] rfl (fun wi kk hx hr hkk=> ?_) ?_
   ·intro v1 h1 v2 h2 K hK;subst h1 h2;go_wp2_with fail;refine(a3 _ kk (by omega) hx.extR hr).mono ?_;rintro e w5 ⟨da,db,dc,rfl,r5,x5⟩;go_simp;exact hK _ _ ⟨cS da db dc,rfl,⟨da,db,dc,rfl⟩,⟨RG.ofR x5,r5⟩⟩
   refine sCx [(0,some 26),(3,some 29)] rfl (fun wi kk hx hr hkk=> ?_) ?_
   ·intro v0 h0 v3 h3 K hK;obtain rfl:=h0;obtain⟨b0,b1,b2,rfl⟩:=h3;go_wp2_with fail;refine(a4 _ hx.extR b0 b1 b2).mono ?_;rintro e w6 ⟨h',p',cap',q',c2',nn,ok,rfl,ax,ay,a0,b9⟩;have az:(wr:Nat)≤wi:=hx.extR.sz;go_simp;exact hK _ _ ⟨_,rfl,⟨h',p',cap',q',c2',nn,ok,rfl,ax,bF ay az,bF a0 az⟩,⟨RG.ofE b9,(hr.ext b9).mono (by omega)⟩⟩
   refine sCx [(4,some 30)] rfl (fun wi kk hx hr hkk=> ?_) ?_
   ·intro v4 h4 K hK;obtain⟨h4,p4,a1,q4,bx,ca,cb,rfl,bb,be,bh⟩:=h4;go_simp;exact hK _ _ ⟨_,rfl,⟨h4,p4,a1,q4,bx,ca,cb,rfl,bb,be,bh⟩,⟨RG.refl _ _ _,hr.mono (by omega)⟩⟩
   refine sCx [(5,some 25)] rfl (fun wi kk hx hr hkk=> ?_) ?_
   ·intro v5 h5 K hK;obtain⟨h5,p5,am,q5,aw,bt,bu,rfl,ao,ap,aq⟩:=h5;go_simp;exact hK _ _ ⟨_,rfl,⟨h5,p5,am,q5,aw,rfl,ao,ap,aq⟩,⟨RG.refl _ _ _,hr.mono (by omega)⟩⟩
   refine sCx [(5,some 25)] rfl (fun wi kk hx hr hkk=> ?_) ?_
   ·intro v5 h5 K hK;obtain⟨h5,p5,am,q5,aw,bt,bu,rfl,ao,ap,aq⟩:=h5;go_simp;exact hK _ _ ⟨_,rfl,⟨_,rfl⟩,⟨RG.refl _ _ _,hr.mono (by omega)⟩⟩
   refine sCx [(5,some 25)] rfl (fun wi kk hx hr hkk=> ?_) ?_
   ·intro v5 h5 K hK;obtain⟨h5,p5,am,q5,aw,bt,bu,rfl,ao,ap,aq⟩:=h5;go_simp;exact hK _ _ ⟨_,rfl,⟨_,rfl⟩,⟨RG.refl _ _ _,hr.mono (by omega)⟩⟩
   refine sCx [] rfl (fun wi kk hx hr hkk=> ?_) ?_
   ·intro K hK;have az:(wr:Nat)≤wi:=hx.extR.sz;go_simp;exact hK _ _ ⟨.pointer (some ⟨wi,0,none⟩),rfl,⟨wi.heap.size,rfl,az,aGs wi⟩,⟨RG.ofE ((Ext.refl _).alloc _),(hr.alloc _).mono (by omega)⟩⟩
   refine sCx [(6,some 31),(9,some 7)] rfl (fun wi kk hx hr hkk=> ?_) ?_
   ·intro v6 h6 v9 h9 K hK;obtain⟨h6,p6,bw,q6,ce,rfl,bc,bf,bi⟩:=h6;obtain⟨a9,rfl,bj,a5⟩:=h9;obtain⟨hz,pz,cx,qz,cz,BZ,_⟩:=a5;have z_:=BZ.tenf;go_simp;generalize cs:World.setCell _ _ _=w9;obtain⟨Y9,b5⟩:=BZ.putr cs;have r9:Rand w9 R kk:=aBj hr b5 (fun g e=>by injection e with e;omega);exact hK _ _ ⟨undef,rfl,trivial,⟨RG.put b5 bj BZ Y9 bc bf bi,r9.mono (by omega)⟩⟩
   refine sCx [(7,some 32)] rfl (fun wi kk hx hr hkk=> ?_) ?_
   ·intro v7 h7 K hK;obtain⟨n7,rfl⟩:=h7;go_simp;exact hK _ _ ⟨_,rfl,⟨_,rfl⟩,⟨RG.refl _ _ _,hr.mono (by omega)⟩⟩
   refine sCx [(8,some 33)] rfl (fun wi kk hx hr hkk=> ?_) StepsLX.nil
   ·intro v8 h8 K hK;obtain⟨b8,rfl⟩:=h8;go_simp;exact hK _ _ ⟨_,rfl,⟨_,rfl⟩,⟨RG.refl _ _ _,hr.mono (by omega)⟩⟩
  case fin=>
   intro wi hx hr v0 h0 v1 h1 v2 h2 v3 h3 v4 h4 v5 h5 v6 h6 v7 h7 v8 h8 v9 h9 c5 cm c6 cn c8 co;subst h0 h1 h2;obtain⟨b0,b1,b2,rfl⟩:=h3;obtain⟨h4,p4,a1,q4,bx,ca,cb,rfl,bb,be,bh⟩:=h4;obtain⟨h5,p5,am,q5,aw,bt,bu,rfl,ao,ap,aq⟩:=h5;obtain⟨h6,p6,bw,q6,ce,rfl,bc,bf,bi⟩:=h6;obtain⟨n7,rfl⟩:=h7;obtain⟨b8,rfl⟩:=h8;obtain⟨a9,rfl,bj,a5⟩:=h9;clear cm;obtain⟨c4,rfl⟩:=cn;obtain⟨cd,rfl⟩:=co;have hE:=hx.extR;obtain⟨h',p',cap',q',c2',BA,ax,ay,a0⟩:=a5;have cc:=xQ ax;have M2:=(show MemR R w wi [aYm w p' h'.cells cap',aYn w q' h'.vs c2',aI w (a9) aN (aYo h' p' cap' q' c2'),aI w (HB) aN (aYo h p cap q c2),aYm w p h.cells cap,aYn w q h.vs c2,aI w w aN #[(),(),((),()),(),(),(),(),(),(),((),())]]from M1.own2blk hE ay a0 BA bj (by decide) (by decide) (by decide))
   have r2:Rand wi R (k+20+800*(23-j)):=hr.mono (by omega);clear ax ay a0 BA hE hx hr be bh ap aq bf bi bb ao bc M1 a3 a4 B0 rr n1 n2 ad ar;have bl:=M2.hi 2;have af:=M2.hi 3;have bm:=M2.hi 6;refine wpAny_done (by kernel_rfl) ?_ _;try go_frame
   go_upto_region 6 with fail;cases cd with
   |false=>
    go_wp2_with fail;go_roundw
    case rel=>exact⟨h,p,cap,q,c2,j,by go_num,by omega,HG.out,M2.pick [3,4,5,6] (by decide) rfl,r2⟩
    case measure=>first|(simp[intOf];done)|(simp[intOf];omega)
   |true=>
    obtain⟨e0,e1,e2,e3,e4,e5,e6,e7,e8,e9⟩:=(M2.bk 2).ten;obtain⟨d0,cf,d1,cg,d2,a7,d3,ch,d4,ci,d5,cj,d6,ck,d7,an,d8,a8,d9,ba⟩:=(M2.bk 3).tenf;obtain⟨f,m⟩:=M2.nq 2 3;go_upto_region 4 with fail;clear e0 e1 e2 e3 e4 e5 e6 e7 e8 e9 d0 cf d1 cg d2 a7 d3 ch d4 ci d5 cj d6 ck d7 an d8 a8 d9 ba f m;have r3:Rand ((((((((((wi.setCell ⟨HB,0,none⟩ (I h'.aA)).setCell ⟨HB,1,none⟩ (I h'.aB)).setCell ⟨HB,2,none⟩ (.slice p' h'.cells cap')).setCell ⟨HB,3,none⟩ (I h'.free)).setCell ⟨HB,4,none⟩ (I h'.step)).setCell ⟨HB,5,none⟩ (I h'.aE)).setCell ⟨HB,6,none⟩ (I h'.aF)).setCell ⟨HB,7,none⟩ (I h'.aD)).setCell ⟨HB,8,none⟩ (I h'.aG)).setCell ⟨HB,9,none⟩ (.slice q' h'.vs c2')) R (k+20+800*(23-j)):=xN;clear bl af bm;have M3:=(M2.put10 (i:=3) rfl (I h'.aA) (I h'.aB) (.slice p' h'.cells cap') (I h'.free) (I h'.step) (I h'.aE) (I h'.aF) (I h'.aD) (I h'.aG) (.slice q' h'.vs c2'))
    generalize d:World.setCell _ _ _=w3;rw[d]at M3 r3;clear d r2 M2;have cv:=M3.hi 2;have s:=M3.hi 3;have cw:=M3.hi 6;go_wp2_with fail;go_roundw
    case rel=>exact⟨h',p',cap',q',c2',j,by go_num,by omega,cc.out,M3.pick [3,0,1,6] (by decide) rfl,r3⟩
    case measure=>first|(simp[intOf];done)|(simp[intOf];omega)
def mG (K:Int):Nat→List Value
 |0=> []
 |m+1=>mG K m++ [.int .i64 (K+m)]
theorem pJ (m:Nat):(mG K m).length=m:=by induction m with|zero=>rfl|succ m ih=>simp[mG,ih]
theorem aDb: ∀(m j:Nat),j<m→(mG K m)[j]? =some (I (K+j)):=by
 intro m;induction m with
 |zero=>intro j h;omega
 |succ m ih=>
  intro j h;by_cases hj:j<m
  ·rw[mG,aWl (by rw[pJ];exact hj)];exact ih j hj
  obtain rfl:j=m:=by omega
  rw[mG,aWx (by rw[pJ];omega),pJ];simp
def ChgE (e:TypeId)(B T:Nat)(w w':World):Prop:= ∃row,w.grownBy w' row∧ ∀g,row=some g→B≤g∧g<T∧ ∃cur,w.heap[g]? =some (.cells cur e (0,0))
theorem ChgE.chg (h:ChgE e B T w w'):Chg B T w w':=by obtain⟨a,hg,hr⟩:=h;exact Chg.of_grown hg (fun g e=>⟨(hr g e).1,(hr g e).2.1⟩)
theorem ChgE.refl (e:TypeId)(B T:Nat)(w:World):ChgE e B T w w:=⟨none,aXk _ _,fun g h=>by cases h⟩
theorem Blk.chg {cs:Array Value}(h:Blk w g t cs)(hc:Chg B T w w')(hd:g<B∨T≤g):Blk w' g t cs:=(hc.block g h.lt hd).trans h
theorem OwnT.held {a:Nat}{p:OA}{K:Int}(h:OwnT w B T e sz p n a (mG K (n*sz)))(hn:0<n):
  ∃g,p=some ⟨g,0,none⟩∧ ∀j,j<n*sz→w.cell? ⟨g,0+j,none⟩=some (I (K+j)):=by
 rcases h.2 with⟨rfl,_⟩|⟨h2,_⟩
 ·omega
 rcases h2.2 with⟨_,h3⟩|⟨g,cap',cur,h1,hb,hg,hn,hm,hs,ht⟩
 ·omega
 injection h1 with e1 e2 e3;refine⟨g,e1,fun j hj=> ?_⟩;subst e1;rw[aWz,h2.cellAt j hj];exact aDb _ _ _ hj
theorem ChgE.pre (h:ChgE e B T a w')(hx:Ext w a)(hT:T≤w.heap.size):ChgE e B T w w':=by obtain⟨c,hg,hr⟩:=h;refine⟨c,⟨hg.os.trans hx.os,hg.tape.trans hx.tape,hg.output.trans hx.output,aW8 hx.size hg.size,fun i hi hne=>(hg.block i (aVy hi hx.size) hne).trans (hx.block i hi)⟩,fun g e=> ?_⟩;obtain⟨h1,h2,b,h3⟩:=hr g e;exact⟨h1,h2,b,by rw[←hx.block g (by omega)];exact h3⟩
theorem aF7 {h:aQ}(a:bC h=true):(h.vs.map (·.1)).Nodup∧h.vs.length≤12∧ ∀v∈h.vs,iH h.aD v=true:=by
 unfold bC at a;simp only[aWc]at a;obtain⟨⟨⟨h1,h2⟩,h3⟩,h4⟩:=a;obtain⟨q1,q2⟩:=nJ h4;unfold aO at h1;rw[aWc]at h1;have hc:=(fW _ _).1 h1.2;have hb:=cQ h1.1;refine⟨?_,?_,q2⟩
 ·rw[q1];exact(kR _).nodup_iff.2 hc.2.2
 have:=congrArg List.length q1;rw[aWj,rP]at this;have:=tV h.cells;omega
abbrev TDd:TypeId:=70
abbrev Dd3:=Int×Int×Int
def bT (d:Dd3):List Value:= [.int .i64 d.1,.int .i64 d.2.1,.int .i64 d.2.2]
theorem aH1 {m c2:Nat}{ds:List Dd3}(h:Sl w q m c2 3 (ds.flatMap bT))(hk:k<m):
  ∃b off a0 a1 a2,q=some ⟨b,off,none⟩∧ds[k]? =some (a0,a1,a2)∧b<w.heap.size∧w.cell? ⟨b,off+k*3,none⟩=some (I a0)∧w.cell? ⟨b,off+k*3+1,none⟩=some (I a1)∧w.cell? ⟨b,off+k*3+2,none⟩=some (I a2):=by
 obtain⟨b,off,x,hp,hx,hb,hc⟩:=Sl.at_ (sz:=3) (f:=bT) (fun _=>rfl) h hk (by omega);obtain⟨a0,a1,a2⟩:=x;exact⟨b,off,a0,a1,a2,hp,hx,hb,hc 0 (by omega),hc 1 (by omega),hc 2 (by omega)⟩
theorem aVe:ElT prog 40 TDd 3:=
 ⟨underlying40,by
  obtain⟨i,hi,h0,h1,h2⟩:=info_parts (show(prog.info? TDd).map (fun i=>(i.zero,i.size,i.bytes))=some (some (.agg #[(),(),()]),3,24) by kernel_rfl)
  exact⟨i,_,hi,h0,h1,by omega,rfl⟩,by omega⟩
theorem aH2 (ds:List Dd3): ∀u∈ds.flatMap bT,u.oneCell'=true:=by intro u hu;obtain⟨v,_,hv⟩:=List.mem_flatMap.1 hu;simp[bT]at hv;rcases hv with rfl|rfl|rfl<;>rfl
section
structure XS (R g:Nat) (t:TypeId) (cs:Array Value) (w w':World):Prop where
 os:w'.os=w.os
 tape:w'.tape=w.tape
 output:w'.output=w.output
 size:w.heap.size≤w'.heap.size
 block: ∀i,i<w.heap.size→i≠R→i≠g→w'.heap[i]? =w.heap[i]?
 put:g<w.heap.size→w'.heap[g]? =w.heap[g]? ∨Blk w' g t cs
theorem XS.refl (g:Nat)(t:TypeId)(cs:Array Value)(w:World):XS R g t cs w w:=⟨rfl,rfl,rfl,aVz _,fun i _ _ _=>rfl,fun _=> .inl rfl⟩
theorem XS.blk {R:Nat}{cs:Array Value}(h:XS R g t cs w w')(hb:Blk w g t cs):Blk w' g t cs:=by
 rcases h.put hb.lt with h1|h1
 ·unfold Blk at*;rw[h1];exact hb
 exact h1
theorem XS.trans {R:Nat}{cs:Array Value}{b c:World}(h:XS R g t cs a b)(k:XS R g t cs b c):XS R g t cs a c:=
 ⟨k.os.trans h.os,k.tape.trans h.tape,k.output.trans h.output,aW8 h.size k.size,fun i hi h1 h2=>(k.block i (aVy hi h.size) h1 h2).trans (h.block i hi h1 h2),fun hg=>by
  rcases h.put hg with h1|h1
  ·rcases k.put (aVy hg h.size)with k1|k1
   ·exact .inl (k1.trans h1)
   exact .inr k1
  ·exact .inr (k.blk h1)⟩
theorem XS.ofR {R:Nat}{cs:Array Value}(a:g≠R)(h:ExtR R w w'):XS R g t cs w w':=
 ⟨h.os,h.tape,h.output,h.size,fun i hi h1 _=>h.block i hi (fun e=>h1 (by injection e)),fun hg=> .inl (h.block g hg (fun e=>a (by injection e)))⟩
theorem XS.ofE {R:Nat}{cs:Array Value}(h:Ext w w'):XS R g t cs w w':=
 ⟨h.os,h.tape,h.output,h.size,fun i hi _ _=>h.block i hi,fun hg=> .inl (h.block g hg)⟩
theorem XS.ofPut {R:Nat}{cs:Array Value}(h:ExtR g w w')(hb:Blk w' g t cs):XS R g t cs w w':=
 ⟨h.os,h.tape,h.output,h.size,fun i hi _ h2=>h.block i hi (fun e=>h2 (by injection e)),fun _=> .inr hb⟩
theorem XS.other {R a:Nat}{t':TypeId}{cs b:Array Value}(h:XS R g t cs w.drew w')(hb:Blk w a t' b)(h1:a≠R)(h2:a≠g):Blk w' a t' b:=by have:=h.block a hb.lt h1 h2;unfold Blk at*;rw[this];exact hb
theorem XS.either {R:Nat}{cs a:Array Value}(h:XS R g t cs w.drew w')(hb:Blk w g t a):Blk w' g t a∨Blk w' g t cs:=by
 rcases h.put hb.lt with h1|h1
 ·left;unfold Blk at*;rw[h1];exact hb
 exact .inr h1
section
variable {R:Nat} {w0 w w':World} {L:List Item}
end
end
theorem aJ5 (h:aQ)(k a b:Int)(p:OA)(n c:Nat)(q:OA)(m c2:Nat)(w:World)(hi:IsHouse w h p n c q m c2):
  U 50 #[bV h p n c q m c2,cS k a b] w (aH9 w):=by
 cases hok:bC h with
 |true=>exact xO h (.inl hok) k a b p n c q m c2 w hi
 |false=>
  refine Ω (rT h k a b p n c q m c2 w hi hok) fun w' hx=>?_
  exact⟨eR,none,0,none,0,_,_,rfl,.inr rfl,aW9 _ _ _ _,aW9 _ _ _ _,hx⟩
def aMg (R:Nat)(w:World)(LT:List Item)(g:aQ)(p:OA)(c:Nat)(q:OA)(d:Nat):Prop:=
 ∀w',MemR R w w' LT→IsHouse w' g p g.cells.length c q g.vs.length d∧(0<g.cells.length→ ∀b off,p=some ⟨b,off,none⟩→b≠R)∧(0<g.vs.length→ ∀b off,q=some ⟨b,off,none⟩→b≠R)
theorem aLe {R:Nat}{g:aQ}{p:OA}{c d:Nat}:aMg R w [aYm w p g.cells c,aYn w q g.vs d] g p c q d:=
 fun w' m=>⟨nN (i:=0) (j:=1) m rfl rfl,pY (i:=0) m rfl,pY (i:=1) m rfl⟩
def aPo (R k:Nat)(w:World)(e:Ending)(w':World):Prop:=
 ∃(ds:List Dd3) (lq:OA) (lc:Nat),e= .returned (.slice lq ds.length lc)∧ds.length≤11∧w'.ownsRow w.heap.size TDd 3 (.slice lq ds.length lc) ds.length (ds.flatMap bT)∧Rand w' R (k+1000)∧ExtR R w w'∧ ∃gq,lq=some ⟨gq,0,none⟩
theorem xG (k:Nat)(h:aQ)(p:OA)(f:Nat)(q:OA)(c2:Nat)(w:World)(ao:Rand w R k)(hk:k≤1099511500000)(hs:h.cells.length≤13∧h.vs.length≤13)(hi:IsHouse w h p h.cells.length f q h.vs.length c2)(hp:0<h.cells.length→ ∀b off,p=some ⟨b,off,none⟩→b≠R)(hq:0<h.vs.length→ ∀b off,q=some ⟨b,off,none⟩→b≠R):
  U 45 #[.pointer (some ⟨R,0,none⟩),bV h p h.cells.length f q h.vs.length c2] w (aPo R k w):=by
 have hR:=ao.lt;have al:=xQ (show aMg R w [] h p f q c2 from fun w' m=>⟨⟨m.ext.sl (b0:=0) hi.cells hp,m.ext.sl (b0:=0) hi.vs hq⟩,hp,hq⟩);clear hi hp hq;go_enter func45,ntmps45;go_wp2_with fail;refine(cP R k 12 _ (ao.ext xE) (by omega)).mono ?_;rintro e w1 ⟨x,rfl,xa,xb,r1,x1⟩;have M1:=(((((MemR.start R w hR).c0 aN (aYo h p f q c2)).made0 TDd 3 (w.heap.size+1) (by simp)).c2 aN (aYo h p f q c2)).pickd x1)
 clear x1;have t:=M1.hi 0;have af:=M1.hi 2;obtain⟨j0,rfl⟩:=aWk xa;have y:j0≤11:=by omega
 clear xa xb;obtain⟨gX,an⟩: ∃a,a=w.heap.size+1+1:=⟨_,rfl⟩
 rw[←an]at M1 t⊢;clear an;have MS:=(show MemR R w w1 (aJ w TDd 3 (some ⟨w.heap.size+1,0,none⟩) (0) (0) ([])::aI w (gX) aN (aYo h p f q c2):: [])from M1.pick [1,0] (by decide) rfl)
 clear M1 t af;go_wp2;go_loopw [5,7] (fun o i wr=> ∃(g:aQ) (p3:OA) (c3:Nat) (q3:OA) (d3 j:Nat) (ds:List Dd3) (lq:OA) (lc:Nat) (LT:List Item),o= .slice lq ds lc∧i=I j∧ds.length+j≤11∧g.cells.length≤13∧g.vs.length≤13∧MemR R w wr (aJ w TDd 3 (lq) (ds.length) (lc) (ds.flatMap bT)::aI w (gX) aN (aYo g p3 c3 q3 d3)::LT)∧aMg R w LT g p3 c3 q3 d3∧Rand wr R (k+1+60*(11-j))∧ ∃gq,lq=some ⟨gq,0,none⟩) (fun _ i _=>(intOf i).toNat)
 case atStart=>exact⟨h,p,f,q,c2,j0,[],_,0,[],rfl,rfl,by simpa using y,hs.1,hs.2,MS,al.out,r1.mono (by omega),_,rfl⟩
 case round=>
  clear MS r1 al y;obtain⟨g,p3,c3,q3,d3,j,ds,lq,lc,LT,rfl,rfl,hj,a0,a1,hM,hT,rr,c⟩:=hrel;have d:=xQ c;have M1:=hM;have HT:=xQ hT;clear hM hT c;have ax:R<wr:=rr.lt;have ae:=M1.hi 1;by_cases y:j=0
  ·skip;subst y;go_wp2;go_ret;exact⟨ds,lq,lc,rfl,by omega,(M1.ow 0),rr.mono (by omega),M1.ext,d.out⟩
  obtain⟨j,rfl⟩: ∃i,j=i+1:=⟨j-1,by omega⟩
  have i1:decide ((0:Int)<((j+1:Nat):Int))=true:=by first|(simp;done)|(simp;omega)
  have i2:decide ((0:Int)<(j:Int)+1)=true:=by first|(simp;done)|(simp;omega)
  have aw:ds.length≤10:=by omega
  have ab:=(M1.bk 1).ten;go_wp2_with fail;clear ab i1 i2;obtain⟨h1,h2,h3⟩:=HT _ (M1.sub (.cons _ (.cons _ (.refl _))));refine(qC R (k+1+60*(11-(j+1))) g p3 c3 q3 d3 _ rr (by omega) ⟨by omega,by omega⟩ h1 h2 h3).mono ?_;rintro e w2 ⟨da,db,dc,rfl,r2,x2⟩;clear h1 h2 h3 rr;have M2:=(M1.pickd x2)
  clear x2 M1 ae;have ag:=M2.hi 1;have ab:=(M2.bk 1).ten;go_wp2_with fail;clear ab;refine(aJ5 g da db dc p3 _ c3 q3 _ d3 _ (HT _ ((M2.c0 TDd #[da,db,dc]).sub (.cons _ (.cons _ (.cons _ (.refl _)))))).1).mono ?_;rintro e w3 ⟨r,p5,c5,q5,d5,nn,ok,rfl,hg,ho,hv,hx⟩;have az:=hg.small;have r3:Rand w3 R (k+1+60*(11-(j+1))+60):=(r2.ext ((Ext.refl _).alloc _)).ext hx;clear hg r2;have M3:=((M2.c0 TDd #[da,db,dc]).own2 (hx.r R) ho hv (by decide))
  clear ho hv hx M2 ag;have v:=M3.hi 2;have ah:=M3.hi 4;obtain⟨gD,am⟩: ∃a,a=w2.heap.size:=⟨_,rfl⟩
  rw[←am]at M3 v⊢;clear am;go_upto_region 8 with fail;have r4:Rand (w3.alloc (.cells #[r.aA,r.aB,.slice p5 r.cells c5,r.free,r.step,r.aE,r.aF,r.aD,r.aG,.slice q5 r.vs d5] aN)) R (k+1+60*(11-(j+1))+60):=r3.alloc _;have M4:=(M3.c0 aN (aYo r p5 c5 q5 d5))
  generalize s:(w3.alloc (.cells #[r.aA,r.aB,.slice p5 r.cells c5,r.free,r.step,r.aE,r.aF,r.aD,r.aG,.slice q5 r.vs d5] aN))=w4;rw[s]at M4 r4;clear s r3 M3 v ah;have ai:=M4.hi 0;have aj:=M4.hi 3;have ak:=M4.hi 5;cases ok with
  |false=>
   have ad:=(M4.bk 3).tri;go_wp2_with (at_builtin;refine mR aVe rfl _ _ rfl (M4.adv ((Ext.refl _).alloc (.cells #[da,db,dc] TDd))) 4 rfl rfl (bT (da,db,dc)) rfl (fC _ _ _ 1 3 _ (by first|rfl|simp) (by first|rfl|simp) (by simp[maxLen])) (fun u hu=>aH2 [(da,db,dc)] u (by simpa using hu)) (by omega) ?_;intro q7 c7 w7 l n;have r7:Rand w7 R (k+1+60*(11-(j+1))+60):=n _ xN);clear ad;have M7:=l;clear l n d;obtain⟨gq,c,_,_⟩:=M7.so 4;have d:=xQ c;clear c;go_wp2;go_roundw
   case rel=>
    have e7:(ds++ [(da,db,dc)]).length=ds.length+1:=by simp
    have e8:(ds++ [(da,db,dc)]).flatMap bT=ds.flatMap bT++bT (da,db,dc):=by simp
    refine⟨g,p3,c3,q3,d3,j,ds++ [(da,db,dc)],q7,c7,LT,by rw[e7],by go_num,by rw[e7];omega,by omega,by omega,?_,HT.out,r7.mono (by omega),_,d.out⟩;rw[e7,e8];exact M7.sub (.cons _ (.cons _ (.cons _ (.cons _ (.refl _)))))
   case measure=>first|(simp[intOf];done)|(simp[intOf];omega)
  |true=>
   have aq:=(M4.bk 0).ten;have ap:=(M4.bk 5).tenf;obtain⟨z,aa⟩:=M4.nq 0 5;go_upto_region 10 with fail;clear aq ap z aa;have ay:R<gX:=by have:=(M4.lt (i:=5) rfl rfl).1;omega
   have r5:Rand ((((((((((w4.setCell ⟨gX,0,none⟩ (I r.aA)).setCell ⟨gX,1,none⟩ (I r.aB)).setCell ⟨gX,2,none⟩ (.slice p5 r.cells c5)).setCell ⟨gX,3,none⟩ (I r.free)).setCell ⟨gX,4,none⟩ (I r.step)).setCell ⟨gX,5,none⟩ (I r.aE)).setCell ⟨gX,6,none⟩ (I r.aF)).setCell ⟨gX,7,none⟩ (I r.aD)).setCell ⟨gX,8,none⟩ (I r.aG)).setCell ⟨gX,9,none⟩ (.slice q5 r.vs d5)) R (k+1+60*(11-(j+1))+60):=xN;have M5:=(M4.put10 (i:=5) rfl (I r.aA) (I r.aB) (.slice p5 r.cells c5) (I r.free) (I r.step) (I r.aE) (I r.aF) (I r.aD) (I r.aG) (.slice q5 r.vs d5))
   generalize s:World.setCell _ _ _=w5;rw[s]at M5 r5;clear s r4 M4 ai aj ak;have ar:=M5.hi 0;have au:=M5.hi 3;have av:=M5.hi 5;have ad:=(M5.bk 3).tri;go_wp2_with (at_builtin;refine mR aVe rfl _ _ rfl (M5.adv ((Ext.refl _).alloc (.cells #[da,db,dc] TDd))) 4 rfl rfl (bT (da,db,dc)) rfl (fC _ _ _ 1 3 _ (by first|rfl|simp) (by first|rfl|simp) (by simp[maxLen])) (fun u hu=>aH2 [(da,db,dc)] u (by simpa using hu)) (by omega) ?_;intro q7 c7 w7 l n;have r7:Rand w7 R (k+1+60*(11-(j+1))+60):=n _ xN);clear ad;have M7:=l;clear l n d;obtain⟨gq,c,_,_⟩:=M7.so 4;have d:=xQ c;clear c;go_wp2;go_roundw
   case rel=>
    have e7:(ds++ [(da,db,dc)]).length=ds.length+1:=by simp
    have e8:(ds++ [(da,db,dc)]).flatMap bT=ds.flatMap bT++bT (da,db,dc):=by simp
    refine⟨r,p5,c5,q5,d5,j,ds++ [(da,db,dc)],q7,c7,_,by rw[e7],by go_num,by rw[e7];omega,by omega,by omega,?_,aLe,r7.mono (by omega),_,d.out⟩;rw[e7,e8];exact M7.pick [4,5,1,2] (by decide) rfl
   case measure=>first|(simp[intOf];done)|(simp[intOf];omega)
theorem aIf:(⟨l.toArray⟩:ByteArray).size=l.length:=by simp[ByteArray.size]
theorem aTe (a:Int)(h0:0≤a)(h1:a<6): ∃x:ByteArray,(#[.string ⟨#[]⟩,.string ⟨#[48]⟩,.string ⟨#[59]⟩,.string ⟨#[35]⟩,.string ⟨#[57]⟩,.string ⟨#[53,58]⟩]:Array Value)[a.toNat]? =some (.string x)∧x.size≤2:=by rcases(show a=0∨a=1∨a=2∨a=3∨a=4∨a=5 by omega)with rfl|rfl|rfl|rfl|rfl|rfl;all_goals exact⟨_,rfl,by decide⟩
theorem aQp {j:Nat}{x:ByteArray}(hx:(#[.string ⟨#[]⟩,.string ⟨#[48]⟩,.string ⟨#[59]⟩,.string ⟨#[35]⟩,.string ⟨#[57]⟩,.string ⟨#[53,58]⟩]:Array Value)[j]? =some (.string x))(h:j<([.string ⟨#[]⟩,.string ⟨#[48]⟩,.string ⟨#[59]⟩,.string ⟨#[35]⟩,.string ⟨#[57]⟩,.string ⟨#[53,58]⟩]:List Value).length):
  ([.string ⟨#[]⟩,.string ⟨#[48]⟩,.string ⟨#[59]⟩,.string ⟨#[35]⟩,.string ⟨#[57]⟩,.string ⟨#[53,58]⟩]:List Value)[j]'h= .string x:=by
 have:=aW0 h;have h2:([.string ⟨#[]⟩,.string ⟨#[48]⟩,.string ⟨#[59]⟩,.string ⟨#[35]⟩,.string ⟨#[57]⟩,.string ⟨#[53,58]⟩]:List Value)[j]? =some (.string x):=by simpa using hx
 rw[this]at h2;injection h2
theorem aHj (s x:ByteArray)(j:Nat)(hj:j<s.size)(hx:x.size≤2):(s.extract 0 j++x++s.extract (j+1) s.size).size≤s.size+1:=by simp[ByteArray.size_append,ByteArray.size_extract];omega
def aT5 (R k m:Nat)(w:World)(e:Ending)(w':World):Prop:= ∃s:ByteArray,e= .returned (.string s)∧s.size≤m∧Rand w' R k∧ExtR R w w'
theorem vF (c:Nat)(s:ByteArray)(w:World)(hr:Rand w R c)(hc:c≤1000000)(hs:s.size≤1000000):U 24 #[.pointer (some ⟨R,0,none⟩),.string s] w (aT5 R (c+2) (s.size+1) w):=by
 by_cases h0:s.size=0
 ·have b:s=⟨#[]⟩:=by
   obtain⟨⟨l⟩⟩:=s;simp[ByteArray.size]at h0;rw[h0]
  subst b;go_enter func24,ntmps24;go_wp2;go_ret;exact⟨_,rfl,by decide,hr.mono (by omega),ExtR.refl _ _⟩
 have t0:((s.size:Int)==0)=false:=by simp[h0]
 have h1:0<s.size:=by omega
 clear h0;go_enter func24,ntmps24;go_wp2_with fail;refine(cP R (c) (s.size:Int) _ (hr) (by omega)).mono ?_;rintro e w5 ⟨j,rfl,j0,j1,r5,x5⟩;replace j1:j<(s.size:Int):=by omega
 have a:=r5.lt;obtain⟨jn,rfl⟩:=aWk j0;have i1:jn<s.size:=by omega
 have i2:(jn:Int)≤(s.size:Int):=by omega
 have i3:(jn:Int)+1≤(s.size:Int):=by omega
 have i4:=aYs ((jn:Int)+1);have i5:(0:Int)≤(jn:Int)+1:=by omega
 have i6:((jn:Int)+1).toNat=jn+1:=by omega
 go_wp2;go_region_with (go_at_call 20;refine(cP R (c+1) 6 _ (by first|exact r5|exact r5.alloc _|exact(r5.alloc _).drew|exact r5.drew|exact r5.drew.alloc _) (by omega)).mono ?_;rintro e w6 ⟨d,rfl,d0,d1,r6,x6⟩;(replace d1:d<6:=by omega);obtain⟨x,hx,hx2⟩:=aTe d d0 d1;(have HX:=xQ hx);(have hq: ∀h,([.string ⟨#[]⟩,.string ⟨#[48]⟩,.string ⟨#[59]⟩,.string ⟨#[35]⟩,.string ⟨#[57]⟩,.string ⟨#[53,58]⟩]:List Value)[d.toNat]'h= .string x:=fun h=>aQp HX h);clear hx;(first|(have gB:Blk w6 w5 9 #[.string ⟨#[]⟩,.string ⟨#[48]⟩,.string ⟨#[59]⟩,.string ⟨#[35]⟩,.string ⟨#[57]⟩,.string ⟨#[53,58]⟩]:=x6.blk (Blk.new w5 _ _) (Nat.ne_of_gt a);have gl:w6.cell? ⟨w5,d.toNat,none⟩=some (.string x):=(gB.cell d.toNat).trans HX.out;clear gB)|skip))
 all_goals go_wp2
 all_goals go_ret
 all_goals exact⟨_,rfl,aHj s x jn i1 hx2,xN,xR⟩
def lN (p:List UInt8):Nat→Int
 |0=> -1
 |k+1=>if p=bZ k then k else lN p k
theorem yY (p:List UInt8):lN p 5=(kM p).getD (-1):=by
 cases h:kM p with
 |none=>obtain⟨n1,n2,n3,n4,n5⟩:=sS h;simp only[beq_eq_false_iff_ne,ne_eq]at n1 n2 n3 n4 n5;simp[lN,bZ,n1,n2,n3,n4,n5]
 |some k=>rcases gY h with⟨rfl,rfl⟩|⟨rfl,rfl⟩|⟨rfl,rfl⟩|⟨rfl,rfl⟩|⟨rfl,rfl⟩<;>decide
theorem aBx (h:p=bZ k):lN p (k+1)=k:=by simp[lN,h]
theorem aG5 (h:p≠bZ k):lN p (k+1)=lN p k:=by simp[lN,h]
theorem vX (hg:W0.grownBy wr (some B))(o:Nat)(v:Value):W0.grownBy (wr.setCell ⟨B,o,none⟩ v) (some B):=
 ⟨hg.os,hg.tape,hg.output,by simpa using hg.size,fun k hk hne=>by rw[aYf _ _ _ _ (fun e=>hne (by simp[e]))];exact hg.block k hk hne⟩
theorem mK {r:Option Nat}(hg:W0.grownBy wr r):W0.grownBy wr.drew r:=⟨hg.os,hg.tape,hg.output,hg.size,hg.block⟩
theorem rN (h:Ext w W0)(hg:W0.grownBy wr (some B))(hB:w.heap.size≤B):Ext w wr:=h.grown hg (fun k hk=>by simp at hk;omega)
theorem h1' {w1:World}{o o2:Obj}(h:Ext (w.alloc o) w1):Ext w (w1.alloc o2):=(((Ext.refl w).alloc o).trans h).alloc o2
theorem aNq (w:World)(ps:List (List UInt8))(n:Nat)(p t:List UInt8)(hn:n=1)(af:1≤n)(ag:n≤1099511627777)(u:ps[0]? =some p)(HS:Hid (∀w,U 57 #[str l,.int .u8 32] w (aYx 9 1 n (eY ps) w)))(HD:Hid (∀w,U 46 #[cS (lN p 5) 0 0] w (Z (str t) w))):
  U 86 #[str l] w (oN (if l≠ []∧t=l then some (lN p 5,0,0)else none) w):=by
  obtain⟨o,ho⟩: ∃o:Option (Int×Int×Int),(if l≠ []∧t=l then some (lN p 5,0,0)else none)=o:=⟨_,rfl⟩
  rw[ho];have HO:=xQ ho;clear ho;go_enter func86,ntmps86;go_wp2_with fail;refine(HS _).mono ?_;rintro e w1 ⟨v,rfl,a,h1⟩;obtain⟨g,ab,rfl⟩:=aWb a (by omega);have e0:=aY a 0 (by omega) _ u;have hg:=(a.lt g rfl).2;have c:(w:Nat)<w1:=aVy (by simp) h1.sz;have ae:w.heap.size<g:=aVy (by simp) (a.lt g rfl).1;obtain⟨m,q⟩:=h1.cells;clear a;go_wp2;go_loopw [6] (fun i wr=> ∃k:Nat,k≤5∧i=I k∧wr.heap[w1.heap.size]? =some (.cells #[(lN p k:Int),(),()] 70 (0,0))∧(w1.alloc (.cells #[(-1:Int),(),()] 70)).grownBy wr (some w1)) (fun i _=>5-(intOf i).toNat)
  case atStart=>exact⟨0,by omega,rfl,by rw[heap_alloc_new];rfl,aXk _ _⟩
  case round=>
   obtain⟨k,hk,rfl,hB,b⟩:=hrel;have b0:wr.cell? ⟨w1,0,none⟩=some (I (lN p k)):=aXn hB 0;have b1:wr.cell? ⟨w1,1,none⟩=some (I 0):=aXn hB 1;have b2:wr.cell? ⟨w1,2,none⟩=some (I 0):=aXn hB 2;have u0:=aXh hB 0;have u1:=aXh hB 1;have u2:=aXh hB 2;have HG:=xQ b;have h:=xQ hB;have x:=b.size;simp only[aYk]at x;have g0:wr.cell? ⟨g,0,none⟩=some (str p):=b.cell (by rw[aXe _ _ _ (by simpa using hg)];exact e0) (by simp;omega);have r0: ∀j,j<3→wr.cell? ⟨w,j,none⟩=some (I 0):=fun j hj=>b.cell (by rw[aXe _ _ _ (by simpa using c),m _ _ (by simp)];rcases(show j=0∨j=1∨j=2 by omega)with rfl|rfl|rfl<;>simp) (by simp;omega)
   have r1: ∀j,wr.frozen? ⟨w,j,none⟩=false:=fun j=>by rw[aY1 (w:=w1.alloc (.cells #[(-1:Int),(),()] 70)) (b.block _ (by simp;omega) (by simp;omega)),aY1 (aYl _ _ _ (by simpa using c)),q _ _ (by simp)];simp
   have ah:=r0 0 (by omega);have ai:=r0 1 (by omega);have aj:=r0 2 (by omega);have ak:=r1 0;have al:=r1 1;have am:=r1 2;clear b hB r0 r1 m q e0;by_cases hlt:k<5
   ·by_cases hpk:p=bZ k
    ·have hb:(p==bZ (k:Int))=true:=by simp[hpk]
     have d:=xQ hpk;clear hpk;go_wp2;go_region_held3 (fun w'=>w'.cell? ⟨g,0,none⟩=some (str p)) (go_keep) ((go_at_call 83;refine(jR k _ (by omega)).mono ?_;rintro e w2 ⟨rfl,rfl⟩));all_goals go_wp2
     all_goals go_roundw
     all_goals first
      |(case rel=>exact⟨k+1,by omega,by go_num,by rw[aBx d.out];exact aYi h.out _,vX (mK HG.out) _ _⟩)
      |(case measure=>simp[intOf];omega)
    have hb:(p==bZ (k:Int))=false:=by simp[hpk]
    have d:=xQ hpk;clear hpk;go_wp2;go_region_held3 (fun w'=>w'.cell? ⟨g,0,none⟩=some (str p)) (go_keep) ((go_at_call 83;refine(jR k _ (by omega)).mono ?_;rintro e w2 ⟨rfl,rfl⟩));all_goals go_wp2
    all_goals go_roundw
    all_goals first
     |(case rel=>exact⟨k+1,by omega,by go_num,by rw[aG5 d.out];exact h.out,mK HG.out⟩)
     |(case measure=>simp[intOf];omega)
   obtain rfl:k=5:=by omega
   have ad:Ext w wr:=rN (h1' h1) HG (by omega);by_cases h0:l= []
   ·have hl:l.isEmpty=true:=by simp[h0]
    obtain rfl:none=o:=by have e:=HO.out;rwa[if_neg (by simp[h0])]at e
    clear h0;go_wp2;exact bodyPost_ret (v:=rdV none) (by simp[results,results86,go_sem, *];rfl) rfl ⟨rfl,xE⟩
   have hl:l.isEmpty=false:=by simp[h0]
   by_cases hh:t=l
   ·have ht:(t==l)=true:=by simp[hh]
    obtain rfl:some (lN p 5,0,0)=o:=by have e:=HO.out;rwa[if_pos ⟨h0,hh⟩]at e
    clear h0 hh;go_wp2_with fail;refine Ω (HD _) fun w2 h2=>?_
    obtain⟨r,s⟩:=h2.cells;have f:(w1:Nat)<w2:=aVy (by first|omega|(simp;omega)) h2.sz;have y:(w:Nat)<w2:=aXv c f;have z:(w1:Nat)<wr:=by omega
    have aa:(w:Nat)<wr:=by omega
    go_wp2;exact bodyPost_ret (v:=rdV (some (_,0,0))) (by simp[results,results86,go_sem, *];rfl) rfl ⟨rfl,xE⟩
   have ht:(t==l)=false:=by simp[hh]
   obtain rfl:none=o:=by have e:=HO.out;rwa[if_neg (by simp[hh])]at e
   clear h0 hh;go_wp2_with fail;refine Ω (HD _) fun w2 h2=>?_
   obtain⟨r,s⟩:=h2.cells;have f:(w1:Nat)<w2:=aVy (by first|omega|(simp;omega)) h2.sz;have y:(w:Nat)<w2:=aXv c f;have z:(w1:Nat)<wr:=by omega
   have aa:(w:Nat)<wr:=by omega
   go_wp2;exact bodyPost_ret (v:=rdV none) (by simp[results,results86,go_sem, *];rfl) rfl ⟨rfl,xE⟩
theorem aNp (w:World)(ps:List (List UInt8))(n:Nat)(p q t:List UInt8)(a:Int)(hn:n=2)(ai:1≤n)(aj:n≤1099511627777)(y:ps[0]? =some p)(z:ps[1]? =some q)(HS:Hid (∀w,U 57 #[str l,.int .u8 32] w (aYx 9 1 n (eY ps) w)))(HR:Hid (∀w,U 59 #[str q] w fun e w'=>e= .returned (I a)∧w=w'))(HD:Hid (∀w,U 46 #[cS (lN p 5) a 0] w (Z (str t) w))):
  U 86 #[str l] w (oN (if l≠ []∧t=l then some (lN p 5,a,0)else none) w):=by
  obtain⟨o,ho⟩: ∃o:Option (Int×Int×Int),(if l≠ []∧t=l then some (lN p 5,a,0)else none)=o:=⟨_,rfl⟩
  rw[ho];have HO:=xQ ho;clear ho;go_enter func86,ntmps86;go_wp2_with fail;refine(HS _).mono ?_;rintro e w1 ⟨v,rfl,b,h1⟩;obtain⟨g,af,rfl⟩:=aWb b (by omega);have e0:=aY b 0 (by omega) _ y;have e1:=aY b 1 (by omega) _ z;have hg:=(b.lt g rfl).2;have d:(w:Nat)<w1:=aVy (by simp) h1.sz;have ah:w.heap.size<g:=aVy (by simp) (b.lt g rfl).1;obtain⟨r,s⟩:=h1.cells;clear b;go_wp2;go_loopw [6] (fun i wr=> ∃k:Nat,k≤5∧i=I k∧wr.heap[w1.heap.size]? =some (.cells #[(lN p k:Int),(),()] 70 (0,0))∧(w1.alloc (.cells #[(-1:Int),(),()] 70)).grownBy wr (some w1)) (fun i _=>5-(intOf i).toNat)
  case atStart=>exact⟨0,by omega,rfl,by rw[heap_alloc_new];rfl,aXk _ _⟩
  case round=>
   obtain⟨k,hk,rfl,hB,c⟩:=hrel;have b0:wr.cell? ⟨w1,0,none⟩=some (I (lN p k)):=aXn hB 0;have b1:wr.cell? ⟨w1,1,none⟩=some (I 0):=aXn hB 1;have b2:wr.cell? ⟨w1,2,none⟩=some (I 0):=aXn hB 2;have u0:=aXh hB 0;have u1:=aXh hB 1;have u2:=aXh hB 2;have HG:=xQ c;have m:=xQ hB;have aa:=c.size;simp only[aYk]at aa;have g0:wr.cell? ⟨g,0,none⟩=some (str p):=c.cell (by rw[aXe _ _ _ (by simpa using hg)];exact e0) (by simp;omega);have g1:wr.cell? ⟨g,1,none⟩=some (str q):=c.cell (by rw[aXe _ _ _ (by simpa using hg)];exact e1) (by simp;omega);have r0: ∀j,j<3→wr.cell? ⟨w,j,none⟩=some (I 0):=fun j hj=>c.cell (by rw[aXe _ _ _ (by simpa using d),r _ _ (by simp)];rcases(show j=0∨j=1∨j=2 by omega)with rfl|rfl|rfl<;>simp) (by simp;omega)
   have r1: ∀j,wr.frozen? ⟨w,j,none⟩=false:=fun j=>by rw[aY1 (w:=w1.alloc (.cells #[(-1:Int),(),()] 70)) (c.block _ (by simp;omega) (by simp;omega)),aY1 (aYl _ _ _ (by simpa using d)),s _ _ (by simp)];simp
   have ak:=r0 0 (by omega);have al:=r0 1 (by omega);have am:=r0 2 (by omega);have an:=r1 0;have ao:=r1 1;have ap:=r1 2;clear c hB r0 r1 r s e0;by_cases hlt:k<5
   ·by_cases hpk:p=bZ k
    ·have hb:(p==bZ (k:Int))=true:=by simp[hpk]
     have f:=xQ hpk;clear hpk;go_wp2;go_region_held3 (fun w'=>w'.cell? ⟨g,0,none⟩=some (str p)) (go_keep) ((go_at_call 83;refine(jR k _ (by omega)).mono ?_;rintro e w2 ⟨rfl,rfl⟩));all_goals go_wp2
     all_goals go_roundw
     all_goals first
      |(case rel=>exact⟨k+1,by omega,by go_num,by rw[aBx f.out];exact aYi m.out _,vX (mK HG.out) _ _⟩)
      |(case measure=>simp[intOf];omega)
    have hb:(p==bZ (k:Int))=false:=by simp[hpk]
    have f:=xQ hpk;clear hpk;go_wp2;go_region_held3 (fun w'=>w'.cell? ⟨g,0,none⟩=some (str p)) (go_keep) ((go_at_call 83;refine(jR k _ (by omega)).mono ?_;rintro e w2 ⟨rfl,rfl⟩));all_goals go_wp2
    all_goals go_roundw
    all_goals first
     |(case rel=>exact⟨k+1,by omega,by go_num,by rw[aG5 f.out];exact m.out,mK HG.out⟩)
     |(case measure=>simp[intOf];omega)
   obtain rfl:k=5:=by omega
   have ag:Ext w wr:=rN (h1' h1) HG (by omega);go_wp2_with fail;refine(HR _).mono ?_;rintro e w2 ⟨rfl,rfl⟩;by_cases h0:l= []
   ·have hl:l.isEmpty=true:=by simp[h0]
    obtain rfl:none=o:=by have e:=HO.out;rwa[if_neg (by simp[h0])]at e
    clear h0;go_wp2;exact bodyPost_ret (v:=rdV none) (by simp[results,results86,go_sem, *];rfl) rfl ⟨rfl,xE⟩
   have hl:l.isEmpty=false:=by simp[h0]
   by_cases hh:t=l
   ·have ht:(t==l)=true:=by simp[hh]
    obtain rfl:some (lN p 5,a,0)=o:=by have e:=HO.out;rwa[if_pos ⟨h0,hh⟩]at e
    clear h0 hh;go_wp2_with fail;refine Ω (HD _) fun w2 h2=>?_
    obtain⟨u,x⟩:=h2.cells;have h:(w1:Nat)<w2:=aVy (by first|omega|(simp;omega)) h2.sz;have ab:(w:Nat)<w2:=aXv d h;have ad:(w1:Nat)<wr:=by omega
    have ae:(w:Nat)<wr:=by omega
    go_wp2;exact bodyPost_ret (v:=rdV (some (_,a,0))) (by simp[results,results86,go_sem, *];rfl) rfl ⟨rfl,xE⟩
   have ht:(t==l)=false:=by simp[hh]
   obtain rfl:none=o:=by have e:=HO.out;rwa[if_neg (by simp[hh])]at e
   clear h0 hh;go_wp2_with fail;refine Ω (HD _) fun w2 h2=>?_
   obtain⟨u,x⟩:=h2.cells;have h:(w1:Nat)<w2:=aVy (by first|omega|(simp;omega)) h2.sz;have ab:(w:Nat)<w2:=aXv d h;have ad:(w1:Nat)<wr:=by omega
   have ae:(w:Nat)<wr:=by omega
   go_wp2;exact bodyPost_ret (v:=rdV none) (by simp[results,results86,go_sem, *];rfl) rfl ⟨rfl,xE⟩
theorem aNo (w:World)(ps:List (List UInt8))(n:Nat)(p q r t:List UInt8)(a b:Int)(hn:3≤n)(am:1≤n)(an:n≤1099511627777)(ab:ps[0]? =some p)(ad:ps[1]? =some q)(ae:ps[2]? =some r)(HS:Hid (∀w,U 57 #[str l,.int .u8 32] w (aYx 9 1 n (eY ps) w)))(HR:Hid (∀w,U 59 #[str q] w fun e w'=>e= .returned (I a)∧w=w'))(y:Hid (∀w,U 59 #[str r] w fun e w'=>e= .returned (I b)∧w=w'))(HD:Hid (∀w,U 46 #[cS (lN p 5) a b] w (Z (str t) w))):
  U 86 #[str l] w (oN (if l≠ []∧t=l then some (lN p 5,a,b)else none) w):=by
  obtain⟨o,ho⟩: ∃o:Option (Int×Int×Int),(if l≠ []∧t=l then some (lN p 5,a,b)else none)=o:=⟨_,rfl⟩
  rw[ho];have HO:=xQ ho;clear ho;go_enter func86,ntmps86;go_wp2_with fail;refine(HS _).mono ?_;rintro e w1 ⟨v,rfl,c,h1⟩;obtain⟨g,aj,rfl⟩:=aWb c (by omega);have ao:(0:Int)<(n:Int):=by omega
  have ap:0<n:=by omega
  have e0:=aY c 0 (by omega) _ ab;have e1:=aY c 1 (by omega) _ ad;have e2:=aY c 2 (by omega) _ ae;have hg:=(c.lt g rfl).2;have f:(w:Nat)<w1:=aVy (by simp) h1.sz;have al:w.heap.size<g:=aVy (by simp) (c.lt g rfl).1;obtain⟨u,x⟩:=h1.cells;clear c;go_wp2;go_loopw [6] (fun i wr=> ∃k:Nat,k≤5∧i=I k∧wr.heap[w1.heap.size]? =some (.cells #[(lN p k:Int),(),()] 70 (0,0))∧(w1.alloc (.cells #[(-1:Int),(),()] 70)).grownBy wr (some w1)) (fun i _=>5-(intOf i).toNat)
  case atStart=>exact⟨0,by omega,rfl,by rw[heap_alloc_new];rfl,aXk _ _⟩
  case round=>
   obtain⟨k,hk,rfl,hB,d⟩:=hrel;have b0:wr.cell? ⟨w1,0,none⟩=some (I (lN p k)):=aXn hB 0;have b1:wr.cell? ⟨w1,1,none⟩=some (I 0):=aXn hB 1;have b2:wr.cell? ⟨w1,2,none⟩=some (I 0):=aXn hB 2;have u0:=aXh hB 0;have u1:=aXh hB 1;have u2:=aXh hB 2;have HG:=xQ d;have s:=xQ hB;have af:=d.size;simp only[aYk]at af;have g0:wr.cell? ⟨g,0,none⟩=some (str p):=d.cell (by rw[aXe _ _ _ (by simpa using hg)];exact e0) (by simp;omega);have g1:wr.cell? ⟨g,1,none⟩=some (str q):=d.cell (by rw[aXe _ _ _ (by simpa using hg)];exact e1) (by simp;omega);have g2:wr.cell? ⟨g,2,none⟩=some (str r):=d.cell (by rw[aXe _ _ _ (by simpa using hg)];exact e2) (by simp;omega);have r0: ∀j,j<3→wr.cell? ⟨w,j,none⟩=some (I 0):=fun j hj=>d.cell (by rw[aXe _ _ _ (by simpa using f),u _ _ (by simp)];rcases(show j=0∨j=1∨j=2 by omega)with rfl|rfl|rfl<;>simp) (by simp;omega)
   have r1: ∀j,wr.frozen? ⟨w,j,none⟩=false:=fun j=>by rw[aY1 (w:=w1.alloc (.cells #[(-1:Int),(),()] 70)) (d.block _ (by simp;omega) (by simp;omega)),aY1 (aYl _ _ _ (by simpa using f)),x _ _ (by simp)];simp
   have aq:=r0 0 (by omega);have ar:=r0 1 (by omega);have au:=r0 2 (by omega);have av:=r1 0;have aw:=r1 1;have ax:=r1 2;clear d hB r0 r1 u x e0;by_cases hlt:k<5
   ·by_cases hpk:p=bZ k
    ·have hb:(p==bZ (k:Int))=true:=by simp[hpk]
     have h:=xQ hpk;clear hpk;go_wp2;go_region_held3 (fun w'=>w'.cell? ⟨g,0,none⟩=some (str p)) (go_keep) ((go_at_call 83;refine(jR k _ (by omega)).mono ?_;rintro e w2 ⟨rfl,rfl⟩));all_goals go_wp2
     all_goals go_roundw
     all_goals first
      |(case rel=>exact⟨k+1,by omega,by go_num,by rw[aBx h.out];exact aYi s.out _,vX (mK HG.out) _ _⟩)
      |(case measure=>simp[intOf];omega)
    have hb:(p==bZ (k:Int))=false:=by simp[hpk]
    have h:=xQ hpk;clear hpk;go_wp2;go_region_held3 (fun w'=>w'.cell? ⟨g,0,none⟩=some (str p)) (go_keep) ((go_at_call 83;refine(jR k _ (by omega)).mono ?_;rintro e w2 ⟨rfl,rfl⟩));all_goals go_wp2
    all_goals go_roundw
    all_goals first
     |(case rel=>exact⟨k+1,by omega,by go_num,by rw[aG5 h.out];exact s.out,mK HG.out⟩)
     |(case measure=>simp[intOf];omega)
   obtain rfl:k=5:=by omega
   have ak:Ext w wr:=rN (h1' h1) HG (by omega);go_wp2_with fail;refine(HR _).mono ?_;rintro e w2 ⟨rfl,rfl⟩;go_wp2_with fail;refine(y _).mono ?_;rintro e w2 ⟨rfl,rfl⟩;by_cases h0:l= []
   ·have hl:l.isEmpty=true:=by simp[h0]
    obtain rfl:none=o:=by have e:=HO.out;rwa[if_neg (by simp[h0])]at e
    clear h0;go_wp2;exact bodyPost_ret (v:=rdV none) (by simp[results,results86,go_sem, *];rfl) rfl ⟨rfl,xE⟩
   have hl:l.isEmpty=false:=by simp[h0]
   by_cases hh:t=l
   ·have ht:(t==l)=true:=by simp[hh]
    obtain rfl:some (lN p 5,a,b)=o:=by have e:=HO.out;rwa[if_pos ⟨h0,hh⟩]at e
    clear h0 hh;go_wp2_with fail;refine Ω (HD _) fun w2 h2=>?_
    obtain⟨z,aa⟩:=h2.cells;have m:(w1:Nat)<w2:=aVy (by first|omega|(simp;omega)) h2.sz;have ag:(w:Nat)<w2:=aXv f m;have ah:(w1:Nat)<wr:=by omega
    have ai:(w:Nat)<wr:=by omega
    go_wp2;exact bodyPost_ret (v:=rdV (some (_,a,b))) (by simp[results,results86,go_sem, *];rfl) rfl ⟨rfl,xE⟩
   have ht:(t==l)=false:=by simp[hh]
   obtain rfl:none=o:=by have e:=HO.out;rwa[if_neg (by simp[hh])]at e
   clear h0 hh;go_wp2_with fail;refine Ω (HD _) fun w2 h2=>?_
   obtain⟨z,aa⟩:=h2.cells;have m:(w1:Nat)<w2:=aVy (by first|omega|(simp;omega)) h2.sz;have ag:(w:Nat)<w2:=aXv f m;have ah:(w1:Nat)<wr:=by omega
   have ai:(w:Nat)<wr:=by omega
   go_wp2;exact bodyPost_ret (v:=rdV none) (by simp[results,results86,go_sem, *];rfl) rfl ⟨rfl,xE⟩
theorem aBu (q:List UInt8)(hq:q.length≤maxLen)(w:World):U 59 #[str q] w fun e w'=>e= .returned (I ((bK 4 q).getD (-1)))∧w=w':=
 aBv ⟨q.toArray⟩ w (by simpa[ByteArray.size]using hq)
theorem qP (d:Int×Int×Int)(h:kW (aL 32 l)=d):oC l=if l≠ []∧aZ d.1 d.2.1 d.2.2=l then some d else none:=by unfold oC;rw[h]
theorem aFf (w:World)(hs:l.length≤1099511627776):U 86 #[str l] w (oN (cI l) w):=by
 rw[←aHn]
 have hS: ∀w,U 57 #[str l,.int .u8 32] w (aYx 9 1 (aL 32 l).length (eY (aL 32 l)) w):=
  fun w=>mI ⟨l.toArray⟩ 32 32 rfl w (by simpa[ByteArray.size]using hs)
 have f:=eK 32 l;have d:(aL 32 l).length≤1099511627777:=by omega
 have c: ∀q∈aL 32 l,Hid (∀w,U 59 #[str q] w fun e w'=>e= .returned (I ((bK 4 q).getD (-1)))∧w=w'):=
  fun q hq w=>aBu q (by have:=f.1 q hq;unfold maxLen;omega) w
 have hD: ∀k a b,Hid (∀w,U 46 #[cS k a b] w (Z (str (aZ k a b)) w)):=fun k a b w=>wP k a b w
 rcases hc:aL 32 l with _|⟨p,_|⟨q,_|⟨r,g⟩⟩⟩
 ·exact absurd hc (eX 32 l)
 ·rw[qP l (lN p 5,0,0) (by rw[hc,yY];rfl)];rw[hc]at hS c;exact aNq l w [p] 1 p _ rfl (by omega) (by omega) rfl hS (hD _ _ _)
 ·rw[qP l (lN p 5,(bK 4 q).getD (-1),0) (by rw[hc,yY];rfl)];rw[hc]at hS c;exact aNp l w [p,q] 2 p q _ _ rfl (by omega) (by omega) rfl rfl hS (c q (by simp)) (hD _ _ _)
 rw[qP l (lN p 5,(bK 4 q).getD (-1),(bK 4 r).getD (-1)) (by rw[hc,yY];rfl)];rw[hc]at hS c d;exact aNo l w (p::q::r::g) _ p q r _ _ _ (by simp) (by simp) d rfl rfl rfl hS (c q (by simp)) (c r (by simp)) (hD _ _ _)
theorem aRo:(prog.info? 70).map (fun i=>(i.zero,i.size,i.bytes))=some (some (.agg #[(),(),()]),3,24):=by kernel_rfl
section
open Go.ChangeShapes Go.WideShapes Go.ChangeAt Go.Deep
def RdZ (w:World)(v:Value)(n sz:Nat)(cs:List Value):Prop:=
 (n=0∧cs= []∧ ∃p cap,v= .slice p 0 cap)∨(0<n∧ ∃b off cap,v= .slice (some ⟨b,off,none⟩) n cap∧b<w.heap.size∧Rd w v n sz cs)
theorem RdZ.ext {cs:List Value}(h:RdZ w v n sz cs)(hx:Ext w w'):RdZ w' v n sz cs:=by
 rcases h with h|⟨h0,b,c,a,rfl,hb,h⟩
 ·exact .inl h
 exact .inr ⟨h0,b,c,a,rfl,aVy hb hx.sz,h.ext hx⟩
section
variable {H:Type} {enc:TypeId×Value→H} {w:World} {base:Nat} {spare:Nat→Bool} {held:Bool} {b0:Nat} {r:Reach} {v:Value} {d:DataW H} {p:List MemPlace}
end
end
theorem aTo {base:Nat}{xs:List Value}(hs:0<sz)(h:w.ownsRow base e sz v n xs):RdZ w v n sz xs:=by
 have a:=(show Own w base e sz v n xs from .inl h).rd;rcases h.2 with⟨rfl,rfl⟩|⟨g,cap,cur,rfl,hb,hg,hn,hm,hss,ht⟩
 ·exact .inl ⟨rfl,by have:=h.1;simpa using this,_,_,rfl⟩
 by_cases h0:n=0
 ·subst h0;exact .inl ⟨rfl,by have:=h.1;simpa using this,_,_,rfl⟩
 exact .inr ⟨by omega,g,0,cap,rfl,(aX6.1 hg).1,a⟩
theorem yI (p:OA)(a:Nat)(w:World):
  U 47 #[first,.slice p 0 a] w (Z (str []) w):=by
 go_enter func47,ntmps47;go_wp2;go_rounds 1;go_ret;exact⟨rfl,xE⟩
theorem aHp (v:Value)(ds:List fH)(w:World)(hB:B64 first)(h:RdZ w v ds.length 3 (ds.flatMap gC))(hn:ds.length≤1099511627776):
  U 47 #[first,v] w (Z (str (gZ first ds)) w):=by
 rcases h with⟨h0,hc,p,cap,rfl⟩|⟨h0,b,off,cap,rfl,hb,h⟩
 ·obtain rfl:ds= []:=aWv h0;exact yI first p cap w
 exact yJ first ds b off _ cap w hB rfl hn hb h
end Go.Proofs.YthfmmibomhhmpabGreatDoor
