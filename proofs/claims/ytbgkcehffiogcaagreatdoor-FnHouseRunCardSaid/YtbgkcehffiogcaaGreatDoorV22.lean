/-
  Texts of this proof, packed (@packed).
-/
import Derived.Test.YtbgkcehffiogcaaGreatDoorV21
namespace Go.Proofs.YtbgkcehffiogcaaGreatDoor
open Go.RowKit
set_option linter.unusedSimpArgs false
set_option linter.unusedVariables false
set_option maxHeartbeats 64000000
set_option maxRecDepth 100000
section
open Go.Proofs.Tryz
theorem wR (R k:Nat)(n:Int)(w:World)(cs:Rand w R k)(hk:k≤1099511500000)(de:0≤n)(df:n≤1000000):
  U 22 #[.pointer (some ⟨R,0,none⟩),n] w (aF3 R k w):=by
 have hR:=cs.lt;go_enter func22,ntmps22;go_wp2_with fail;refine(cA R k 2 _ (cs.ext (by exact .alloc (.refl _) _)) (by omega)).mono ?_;rintro e w1 ⟨x,rfl,xa,xb,r1,x1⟩;have M1:=(((MemR.start R w hR).c0 aL zT).pickd x1)
 clear x1;have an:=M1.hi 0;go_wp2_with fail;refine(cA R (k+1) (2) _ r1 (by omega)).mono ?_;rintro e w2 ⟨y,rfl,ya,yb,r2,yx⟩;have M2:=(M1.pickd yx)
 clear yx M1 an;have ao:=M2.hi 0;have i1:IntKind.i64.wrap (2+x)=2+x:=aK3 _ (by omega);have i2:IntKind.i64.wrap (2+y)=2+y:=aK3 _ (by omega);go_wp2_with fail;refine(uG R (k+1+1) 0 _ r2 (by omega) (by omega) (by omega)).mono ?_;rintro e w3 ⟨tf,ts,tp,tc,rfl,r3,x3⟩;have M3:=(M2.pickd x3)
 clear x3 M2 ao;have o:=M3.hi 0;go_wp2_with fail;refine(aJ1 _ _ tf ts tp tc _).mono ?_;intro e w4 bd;obtain⟨h0,cr,p0,au,q0,av,rfl,ho,hv,hx⟩: ∃h0:aO,Good h0∧RetHouse h0 w3 e w4:=⟨_,uJ _ _ _ _ _ _,bd⟩
 clear bd i1 i2 xa xb;have r4:Rand w4 R (k+9):=(r3.ext hx).mono (by omega);have b6:=xQ cr;clear cr r1 r2;have M4:=(show MemR R w w4 [aMe w p0 h0.cells au,aMf w q0 h0.vs av,aI w w aL #[(),(),((),()),(),(),(),(),(),(),((),())]]from M3.own2 (hx.r R) ho hv (by decide))
 clear ho hv hx r3 M3 o;have bz:=M4.hi 2;have dg:(w:Nat)≤w4:=M4.ext.sz;go_upto_region 2 with fail;have r5:Rand (w4.alloc (.cells #[h0.aA,h0.aB,.slice p0 h0.cells au,h0.free,h0.step,h0.aE,h0.aF,h0.aC,h0.aG,.slice q0 h0.vs av] aL)) R (k+9):=xN;have M5:=(M4.c0 aL (aMg h0 p0 au q0 av))
 generalize d:(w4.alloc (.cells #[h0.aA,h0.aB,.slice p0 h0.cells au,h0.free,h0.step,h0.aE,h0.aF,h0.aC,h0.aG,.slice q0 h0.vs av] aL))=w5;rw[d]at M5 r5;clear d r4 M4 bz;have am:=M5.hi 0;have aq:=M5.hi 3;obtain⟨HB,co⟩: ∃a,a=w4.heap.size:=⟨_,rfl⟩
 have cp:R<w4:=by omega
 rw[←co]at M5 cp am⊢;clear co dg;go_wp2_with fail;refine(cA R (k+9) (24) _ r5 (by omega)).mono ?_;rintro e w6 ⟨x,rfl,xa,xb,r6,xx⟩;have M6:=(M5.pickd xx)
 clear xx M5 am aq;have b0:=M6.hi 0;have b2:=M6.hi 3;obtain⟨j0,rfl⟩:=aKo xa;have bp:j0≤23:=by omega
 clear xa xb;have MS:=(show MemR R w w6 [aI w (HB) aL (aMg h0 p0 au q0 av),aMe w p0 h0.cells au,aMf w q0 h0.vs av,aI w w aL #[(),(),((),()),(),(),(),(),(),(),((),())]]from M6)
 clear M6 b0 b2;go_wp2;go_loopw [6] (fun i wr=> ∃(h:aO) (p:OA) (cap:Nat) (q:OA) (c2 j:Nat),i=I j∧j≤23∧Good h∧MemR R w wr [aI w (HB) aL (aMg h p cap q c2),aMe w p h.cells cap,aMf w q h.vs c2,aI w w aL #[(),(),((),()),(),(),(),(),(),(),((),())]]∧Rand wr R (k+20+800*(23-j))) (fun i _=>(intOf i).toNat)
 case atStart=>exact⟨h0,p0,au,q0,av,j0,rfl,bp,b6.out,MS,r6.mono (by omega)⟩
 case round=>
  clear MS r6 r5 b6;obtain⟨h,p,cap,q,c2,j,rfl,hj,hg,hM,rr⟩:=hrel;have M1:=hM;have HG:=xQ hg;have dq:=hg.small;clear hM hg;have ar:R<wr:=rr.lt;have an:=M1.hi 0;have a3:=M1.hi 3;by_cases bp:j=0
  ·skip;subst bp;go_wp2_with fail;refine(aCr R (k+20+800*(23-0)) n _ rr (by omega) de df).mono ?_;rintro e w2 ⟨t,rfl,r2,x2⟩;clear rr;have M2:=(M1.pickd x2)
   clear x2 M1 an a3;have ao:=M2.hi 0;have ap:=M2.hi 3;cases t with
   |false=>
    obtain⟨d0,d1,d2,d3,d4,d5,d6,d7,d8,d9⟩:=(M2.bk 0).ten;obtain⟨f0,z,f1,aa,f2,ab,f3,ad,f4,ae,f5,af,f6,ag,f7,ah,f8,ai,f9,aj⟩:=(M2.bk 3).tenf;obtain⟨f,m⟩:=M2.nq 0 3;have r9:Rand ((((((((((w2.setCell ⟨w,0,none⟩ (I h.aA)).setCell ⟨w,1,none⟩ (I h.aB)).setCell ⟨w,2,none⟩ (.slice p h.cells cap)).setCell ⟨w,3,none⟩ (I h.free)).setCell ⟨w,4,none⟩ (I h.step)).setCell ⟨w,5,none⟩ (I h.aE)).setCell ⟨w,6,none⟩ (I h.aF)).setCell ⟨w,7,none⟩ (I h.aC)).setCell ⟨w,8,none⟩ (I h.aG)).setCell ⟨w,9,none⟩ (.slice q h.vs c2)) R (k+20+800*(23-0)+1):=xN;go_wp2;clear d0 d1 d2 d3 d4 d5 d6 d7 d8 d9 f0 z f1 aa f2 ab f3 ad f4 ae f5 af f6 ag f7 ah f8 ai f9 aj f m ao ap;have M3:=(M2.put10 (i:=3) rfl (I h.aA) (I h.aB) (.slice p h.cells cap) (I h.free) (I h.step) (I h.aE) (I h.aF) (I h.aC) (I h.aG) (.slice q h.vs c2))
    generalize d:World.setCell _ _ _=wz;rw[d]at M3 r9;clear d M2;have o:=M3.hi 0;have s:=M3.hi 3;obtain⟨y0,y1,y2,y3,y4,y5,y6,y7,y8,y9⟩:=(M3.bk 3).ten;exact bodyPost_ret (v:= .agg #[h.aA,h.aB,.slice p h.cells cap,h.free,h.step,h.aE,h.aF,h.aC,h.aG,.slice q h.vs c2]) (by simp[results,results22,go_sem, *]) rfl ⟨h,p,cap,q,c2,rfl,by(try simp only[aKa,List.length_singleton]);omega,by(try simp only[aKa,List.length_singleton]);omega,by have:=M3.ow 1;simpa using this,by have:=M3.ow 2;simpa using this,r9.mono (by omega),M3.ext⟩
   |true=>
    go_wp2_with fail;refine(cA R (k+20+800*(23-0)+1) (4) _ r2 (by omega)).mono ?_;rintro e w3 ⟨x,rfl,xa,xb,r3,xx⟩;have M3:=(M2.pickd xx)
    clear xx M2 ao ap;have o:=M3.hi 0;have s:=M3.hi 3;have di:x=0∨x=1∨x=2∨x=3:=by omega
    clear xa xb;rcases di with rfl|rfl|rfl|rfl
    ·skip;go_wp2_with fail;refine(cA R (k+20+800*(23-0)+1+1) 2 _ (r3.ext (by exact .alloc (.refl _) _)) (by omega)).mono ?_;rintro e w4 ⟨y,rfl,ya,yb,r4,x4⟩;have M4:=((M3.lit TI 1 2 w3 #[(-1:Int),I 10000] (by simp) (by simp) (by simp[maxLen])).pickd x4)
     clear x4 M3 o s;have a4:=M4.hi 1;have a5:=M4.hi 4;have dj:y=0∨y=1:=by omega
     clear ya yb;rcases dj with rfl|rfl
     ·skip;have d7:=(M4.bk 1).cl 7;have az:=(M4.bk 1).frozen 7;have e0:w4.cell? ⟨w3,0,none⟩=some (I (-1)):=by rw[(M4.ow 0).cellAt 0 (by omega)];rfl
      have e1:(w3:Nat)<w4:=(M4.hi 0)
      go_upto_region 17 with fail;clear d7 az e0 e1;have r5:Rand (w4.setCell ⟨HB,7,none⟩ (I (-1))) R (k+20+800*(23-0)+1+1+1):=xN;have M5:=(show MemR R w (w4.setCell ⟨HB,7,none⟩ (I (-1))) [aJ w TI 1 (some ⟨w3,0,none⟩) (2) (2) ([I (-1),I 10000]),aI w (HB) aL #[h.aA,h.aB,.slice p h.cells cap,h.free,h.step,h.aE,h.aF,(-1:Int),h.aG,.slice q h.vs c2],aMe w p h.cells cap,aMf w q h.vs c2,aI w w aL #[(),(),((),()),(),(),(),(),(),(),((),())]]from(M4.store (i:=1) rfl 7 (I (-1))))
      generalize d:World.setCell _ _ _=w5;rw[d]at M5 r5;clear d r4 M4 a4 a5;have aw:=M5.hi 1;have ax:=M5.hi 4;obtain⟨d0,d1,d2,d3,d4,d5,d6,d7,d8,d9⟩:=(M5.bk 1).ten;obtain⟨f0,z,f1,aa,f2,ab,f3,ad,f4,ae,f5,af,f6,ag,f7,ah,f8,ai,f9,aj⟩:=(M5.bk 4).tenf;obtain⟨f,m⟩:=M5.nq 1 4;have r9:Rand ((((((((((w5.setCell ⟨w,0,none⟩ (I h.aA)).setCell ⟨w,1,none⟩ (I h.aB)).setCell ⟨w,2,none⟩ (.slice p h.cells cap)).setCell ⟨w,3,none⟩ (I h.free)).setCell ⟨w,4,none⟩ (I h.step)).setCell ⟨w,5,none⟩ (I h.aE)).setCell ⟨w,6,none⟩ (I h.aF)).setCell ⟨w,7,none⟩ (I (-1))).setCell ⟨w,8,none⟩ (I h.aG)).setCell ⟨w,9,none⟩ (.slice q h.vs c2)) R (k+20+800*(23-0)+1+1+1):=xN;go_wp2;clear d0 d1 d2 d3 d4 d5 d6 d7 d8 d9 f0 z f1 aa f2 ab f3 ad f4 ae f5 af f6 ag f7 ah f8 ai f9 aj f m aw ax;have M6:=(M5.put10 (i:=4) rfl (I h.aA) (I h.aB) (.slice p h.cells cap) (I h.free) (I h.step) (I h.aE) (I h.aF) (I (-1)) (I h.aG) (.slice q h.vs c2))
      generalize d:World.setCell _ _ _=wz;rw[d]at M6 r9;clear d M5;have b1:=M6.hi 1;have b3:=M6.hi 4;obtain⟨y0,y1,y2,y3,y4,y5,y6,y7,y8,y9⟩:=(M6.bk 4).ten;exact bodyPost_ret (v:= .agg #[h.aA,h.aB,.slice p h.cells cap,h.free,h.step,h.aE,h.aF,(-1:Int),h.aG,.slice q h.vs c2]) (by simp[results,results22,go_sem, *]) rfl ⟨{h with aC:= -1},p,cap,q,c2,rfl,by(try simp only[aKa,List.length_singleton]);omega,by(try simp only[aKa,List.length_singleton]);omega,by have:=M6.ow 2;simpa using this,by have:=M6.ow 3;simpa using this,r9.mono (by omega),M6.ext⟩
     skip;have d7:=(M4.bk 1).cl 7;have az:=(M4.bk 1).frozen 7;have e0:w4.cell? ⟨w3,1,none⟩=some (I (10000)):=by rw[(M4.ow 0).cellAt 1 (by omega)];rfl
     have e1:(w3:Nat)<w4:=(M4.hi 0)
     go_upto_region 17 with fail;clear d7 az e0 e1;have r5:Rand (w4.setCell ⟨HB,7,none⟩ (I (10000))) R (k+20+800*(23-0)+1+1+1):=xN;have M5:=(show MemR R w (w4.setCell ⟨HB,7,none⟩ (I (10000))) [aJ w TI 1 (some ⟨w3,0,none⟩) (2) (2) ([I (-1),I 10000]),aI w (HB) aL #[h.aA,h.aB,.slice p h.cells cap,h.free,h.step,h.aE,h.aF,(10000:Int),h.aG,.slice q h.vs c2],aMe w p h.cells cap,aMf w q h.vs c2,aI w w aL #[(),(),((),()),(),(),(),(),(),(),((),())]]from(M4.store (i:=1) rfl 7 (I (10000))))
     generalize d:World.setCell _ _ _=w5;rw[d]at M5 r5;clear d r4 M4 a4 a5;have aw:=M5.hi 1;have ax:=M5.hi 4;obtain⟨d0,d1,d2,d3,d4,d5,d6,d7,d8,d9⟩:=(M5.bk 1).ten;obtain⟨f0,z,f1,aa,f2,ab,f3,ad,f4,ae,f5,af,f6,ag,f7,ah,f8,ai,f9,aj⟩:=(M5.bk 4).tenf;obtain⟨f,m⟩:=M5.nq 1 4;have r9:Rand ((((((((((w5.setCell ⟨w,0,none⟩ (I h.aA)).setCell ⟨w,1,none⟩ (I h.aB)).setCell ⟨w,2,none⟩ (.slice p h.cells cap)).setCell ⟨w,3,none⟩ (I h.free)).setCell ⟨w,4,none⟩ (I h.step)).setCell ⟨w,5,none⟩ (I h.aE)).setCell ⟨w,6,none⟩ (I h.aF)).setCell ⟨w,7,none⟩ (I (10000))).setCell ⟨w,8,none⟩ (I h.aG)).setCell ⟨w,9,none⟩ (.slice q h.vs c2)) R (k+20+800*(23-0)+1+1+1):=xN;go_wp2;clear d0 d1 d2 d3 d4 d5 d6 d7 d8 d9 f0 z f1 aa f2 ab f3 ad f4 ae f5 af f6 ag f7 ah f8 ai f9 aj f m aw ax;have M6:=(M5.put10 (i:=4) rfl (I h.aA) (I h.aB) (.slice p h.cells cap) (I h.free) (I h.step) (I h.aE) (I h.aF) (I (10000)) (I h.aG) (.slice q h.vs c2))
     generalize d:World.setCell _ _ _=wz;rw[d]at M6 r9;clear d M5;have b1:=M6.hi 1;have b3:=M6.hi 4;obtain⟨y0,y1,y2,y3,y4,y5,y6,y7,y8,y9⟩:=(M6.bk 4).ten;exact bodyPost_ret (v:= .agg #[h.aA,h.aB,.slice p h.cells cap,h.free,h.step,h.aE,h.aF,(10000:Int),h.aG,.slice q h.vs c2]) (by simp[results,results22,go_sem, *]) rfl ⟨{h with aC:=10000},p,cap,q,c2,rfl,by(try simp only[aKa,List.length_singleton]);omega,by(try simp only[aKa,List.length_singleton]);omega,by have:=M6.ow 2;simpa using this,by have:=M6.ow 3;simpa using this,r9.mono (by omega),M6.ext⟩
    ·skip;have d8:=(M3.bk 0).cl 8;have bj:=(M3.bk 0).frozen 8;go_upto_region 17 with fail;clear d8 bj;have r5:Rand (w3.setCell ⟨HB,8,none⟩ (I (-1))) R (k+20+800*(23-0)+1+1):=xN;have M4:=(show MemR R w (w3.setCell ⟨HB,8,none⟩ (I (-1))) [aI w (HB) aL #[h.aA,h.aB,.slice p h.cells cap,h.free,h.step,h.aE,h.aF,h.aC,(-1:Int),.slice q h.vs c2],aMe w p h.cells cap,aMf w q h.vs c2,aI w w aL #[(),(),((),()),(),(),(),(),(),(),((),())]]from(M3.store (i:=0) rfl 8 (I (-1))))
     generalize d:World.setCell _ _ _=w5;rw[d]at M4 r5;clear d r3 M3 o s;have ak:=M4.hi 0;have al:=M4.hi 3;obtain⟨d0,d1,d2,d3,d4,d5,d6,d7,d8,d9⟩:=(M4.bk 0).ten;obtain⟨f0,z,f1,aa,f2,ab,f3,ad,f4,ae,f5,af,f6,ag,f7,ah,f8,ai,f9,aj⟩:=(M4.bk 3).tenf;obtain⟨f,m⟩:=M4.nq 0 3;have r9:Rand ((((((((((w5.setCell ⟨w,0,none⟩ (I h.aA)).setCell ⟨w,1,none⟩ (I h.aB)).setCell ⟨w,2,none⟩ (.slice p h.cells cap)).setCell ⟨w,3,none⟩ (I h.free)).setCell ⟨w,4,none⟩ (I h.step)).setCell ⟨w,5,none⟩ (I h.aE)).setCell ⟨w,6,none⟩ (I h.aF)).setCell ⟨w,7,none⟩ (I h.aC)).setCell ⟨w,8,none⟩ (I (-1))).setCell ⟨w,9,none⟩ (.slice q h.vs c2)) R (k+20+800*(23-0)+1+1):=xN;go_wp2;clear d0 d1 d2 d3 d4 d5 d6 d7 d8 d9 f0 z f1 aa f2 ab f3 ad f4 ae f5 af f6 ag f7 ah f8 ai f9 aj f m ak al;have M5:=(M4.put10 (i:=3) rfl (I h.aA) (I h.aB) (.slice p h.cells cap) (I h.free) (I h.step) (I h.aE) (I h.aF) (I h.aC) (I (-1)) (.slice q h.vs c2))
     generalize d:World.setCell _ _ _=wz;rw[d]at M5 r9;clear d M4;have am:=M5.hi 0;have aq:=M5.hi 3;obtain⟨y0,y1,y2,y3,y4,y5,y6,y7,y8,y9⟩:=(M5.bk 3).ten;exact bodyPost_ret (v:= .agg #[h.aA,h.aB,.slice p h.cells cap,h.free,h.step,h.aE,h.aF,h.aC,(-1:Int),.slice q h.vs c2]) (by simp[results,results22,go_sem, *]) rfl ⟨{h with aG:= -1},p,cap,q,c2,rfl,by(try simp only[aKa,List.length_singleton]);omega,by(try simp only[aKa,List.length_singleton]);omega,by have:=M5.ow 1;simpa using this,by have:=M5.ow 2;simpa using this,r9.mono (by omega),M5.ext⟩
    ·skip;have d9:=(M3.bk 0).cl 9;have bl:=(M3.bk 0).frozen 9;go_upto_region 17 with(at_builtin;refine kI qR rfl _ _ rfl (M3.adv ((Ext.refl _).alloc (.cells #[I 98,(),(),()] TV))) 2 rfl rfl (aD (98,0,0,0)) rfl (dO _ _ _ 1 4 _ (by first|rfl|simp) (by first|rfl|simp) (by simp[maxLen])) (nL _) (by omega) ?_;intro q7 c7 w7 bh bs;have M7:=xQ (show MemR R w w7 [aI w (HB) aL (aMg h p cap q c2),aMe w p h.cells cap,aJ w TV 4 (q7) (h.vs.length+1) (c7) (h.vs.flatMap aD++aD (98,0,0,0)),aI w w aL #[(),(),((),()),(),(),(),(),(),(),((),())]]from bh);have r7:Rand w7 R (k+20+800*(23-0)+1+1):=bs _ xN;have g9:w7.cell? ⟨HB,9,none⟩=some (.slice q h.vs c2):=(M7.out.bk 0).cell 9;have dp:w7.frozen? ⟨HB,9,none⟩=false:=(M7.out.bk 0).frozen 9);clear d9 bl o s;have o:=M7.out.hi 0;have s:=M7.out.hi 3;have r5:Rand (w7.setCell ⟨HB,9,none⟩ (.slice q7 (h.vs.length+1) c7)) R (k+20+800*(23-0)+1+1):=xN;have M4:=(show MemR R w (w7.setCell ⟨HB,9,none⟩ (.slice q7 (h.vs.length+1) c7)) [aI w (HB) aL #[h.aA,h.aB,.slice p h.cells cap,h.free,h.step,h.aE,h.aF,h.aC,h.aG,.slice q7 (h.vs.length+1) c7],aMe w p h.cells cap,aJ w TV 4 (q7) (h.vs.length+1) (c7) (h.vs.flatMap aD++aD (98,0,0,0)),aI w w aL #[(),(),((),()),(),(),(),(),(),(),((),())]]from(M7.out.store (i:=0) rfl 9 (.slice q7 (h.vs.length+1) c7)))
     generalize d:World.setCell _ _ _=w5;rw[d]at M4 r5;clear d r7 M7 o s;have ak:=M4.hi 0;have al:=M4.hi 3;obtain⟨d0,d1,d2,d3,d4,d5,d6,d7,d8,d9⟩:=(M4.bk 0).ten;obtain⟨f0,z,f1,aa,f2,ab,f3,ad,f4,ae,f5,af,f6,ag,f7,ah,f8,ai,f9,aj⟩:=(M4.bk 3).tenf;obtain⟨f,m⟩:=M4.nq 0 3;have r9:Rand ((((((((((w5.setCell ⟨w,0,none⟩ (I h.aA)).setCell ⟨w,1,none⟩ (I h.aB)).setCell ⟨w,2,none⟩ (.slice p h.cells cap)).setCell ⟨w,3,none⟩ (I h.free)).setCell ⟨w,4,none⟩ (I h.step)).setCell ⟨w,5,none⟩ (I h.aE)).setCell ⟨w,6,none⟩ (I h.aF)).setCell ⟨w,7,none⟩ (I h.aC)).setCell ⟨w,8,none⟩ (I h.aG)).setCell ⟨w,9,none⟩ (.slice q7 (h.vs.length+1) c7)) R (k+20+800*(23-0)+1+1):=xN;go_wp2;clear d0 d1 d2 d3 d4 d5 d6 d7 d8 d9 f0 z f1 aa f2 ab f3 ad f4 ae f5 af f6 ag f7 ah f8 ai f9 aj f m ak al;have M5:=(M4.put10 (i:=3) rfl (I h.aA) (I h.aB) (.slice p h.cells cap) (I h.free) (I h.step) (I h.aE) (I h.aF) (I h.aC) (I h.aG) (.slice q7 (h.vs.length+1) c7))
     generalize d:World.setCell _ _ _=wz;rw[d]at M5 r9;clear d M4;have am:=M5.hi 0;have aq:=M5.hi 3;obtain⟨y0,y1,y2,y3,y4,y5,y6,y7,y8,y9⟩:=(M5.bk 3).ten;exact bodyPost_ret (v:= .agg #[h.aA,h.aB,.slice p h.cells cap,h.free,h.step,h.aE,h.aF,h.aC,h.aG,.slice q7 (h.vs.length+1) c7]) (by simp[results,results22,go_sem, *]) rfl ⟨{h with vs:=h.vs++ [(98,0,0,0)]},p,cap,q7,c7,by simp[bN],by(try simp only[aKa,List.length_singleton]);omega,by(try simp only[aKa,List.length_singleton]);omega,by have:=M5.ow 1;simpa using this,by have:=M5.ow 2;simpa using this,r9.mono (by omega),M5.ext⟩
    skip;have d2:=(M3.bk 0).cl 2;have bi:=(M3.bk 0).frozen 2;go_upto_region 17 with(at_builtin;refine kI fH rfl _ _ rfl (M3.adv ((Ext.refl _).alloc (.cells #[()] TI))) 1 rfl rfl ([I 0]) rfl (dO _ _ _ 1 1 _ (by first|rfl|simp) (by first|rfl|simp) (by simp[maxLen])) (fun u hu=>by obtain rfl:=aKm.1 hu;rfl) (by omega) ?_;intro q7 c7 w7 bh bs;have M7:=xQ (show MemR R w w7 [aI w (HB) aL (aMg h p cap q c2),aJ w TI 1 (q7) (h.cells.length+1) (c7) (ivs h.cells++ [I 0]),aMf w q h.vs c2,aI w w aL #[(),(),((),()),(),(),(),(),(),(),((),())]]from bh);have r7:Rand w7 R (k+20+800*(23-0)+1+1):=bs _ xN;have g2:w7.cell? ⟨HB,2,none⟩=some (.slice p h.cells cap):=(M7.out.bk 0).cell 2;have dn:w7.frozen? ⟨HB,2,none⟩=false:=(M7.out.bk 0).frozen 2);clear d2 bi o s;have o:=M7.out.hi 0;have s:=M7.out.hi 3;have r5:Rand (w7.setCell ⟨HB,2,none⟩ (.slice q7 (h.cells.length+1) c7)) R (k+20+800*(23-0)+1+1):=xN;have M4:=(show MemR R w (w7.setCell ⟨HB,2,none⟩ (.slice q7 (h.cells.length+1) c7)) [aI w (HB) aL #[h.aA,h.aB,.slice q7 (h.cells.length+1) c7,h.free,h.step,h.aE,h.aF,h.aC,h.aG,.slice q h.vs c2],aJ w TI 1 (q7) (h.cells.length+1) (c7) (ivs h.cells++ [I 0]),aMf w q h.vs c2,aI w w aL #[(),(),((),()),(),(),(),(),(),(),((),())]]from(M7.out.store (i:=0) rfl 2 (.slice q7 (h.cells.length+1) c7)))
    generalize d:World.setCell _ _ _=w5;rw[d]at M4 r5;clear d r7 M7 o s;have ak:=M4.hi 0;have al:=M4.hi 3;obtain⟨d0,d1,d2,d3,d4,d5,d6,d7,d8,d9⟩:=(M4.bk 0).ten;obtain⟨f0,z,f1,aa,f2,ab,f3,ad,f4,ae,f5,af,f6,ag,f7,ah,f8,ai,f9,aj⟩:=(M4.bk 3).tenf;obtain⟨f,m⟩:=M4.nq 0 3;have r9:Rand ((((((((((w5.setCell ⟨w,0,none⟩ (I h.aA)).setCell ⟨w,1,none⟩ (I h.aB)).setCell ⟨w,2,none⟩ (.slice q7 (h.cells.length+1) c7)).setCell ⟨w,3,none⟩ (I h.free)).setCell ⟨w,4,none⟩ (I h.step)).setCell ⟨w,5,none⟩ (I h.aE)).setCell ⟨w,6,none⟩ (I h.aF)).setCell ⟨w,7,none⟩ (I h.aC)).setCell ⟨w,8,none⟩ (I h.aG)).setCell ⟨w,9,none⟩ (.slice q h.vs c2)) R (k+20+800*(23-0)+1+1):=xN;go_wp2;clear d0 d1 d2 d3 d4 d5 d6 d7 d8 d9 f0 z f1 aa f2 ab f3 ad f4 ae f5 af f6 ag f7 ah f8 ai f9 aj f m ak al;have M5:=(M4.put10 (i:=3) rfl (I h.aA) (I h.aB) (.slice q7 (h.cells.length+1) c7) (I h.free) (I h.step) (I h.aE) (I h.aF) (I h.aC) (I h.aG) (.slice q h.vs c2))
    generalize d:World.setCell _ _ _=wz;rw[d]at M5 r9;clear d M4;have am:=M5.hi 0;have aq:=M5.hi 3;obtain⟨y0,y1,y2,y3,y4,y5,y6,y7,y8,y9⟩:=(M5.bk 3).ten;exact bodyPost_ret (v:= .agg #[h.aA,h.aB,.slice q7 (h.cells.length+1) c7,h.free,h.step,h.aE,h.aF,h.aC,h.aG,.slice q h.vs c2]) (by simp[results,results22,go_sem, *]) rfl ⟨{h with cells:=h.cells++ [0]},q7,c7,q,c2,by simp[bN],by(try simp only[aKa,List.length_singleton]);omega,by(try simp only[aKa,List.length_singleton]);omega,by have:=M5.ow 1;simpa using this,by have:=M5.ow 2;simpa using this,r9.mono (by omega),M5.ext⟩
  obtain⟨j,rfl⟩: ∃i,j=i+1:=⟨j-1,by omega⟩
  have i1:decide ((0:Int)<((j+1:Nat):Int))=true:=by first|(simp;done)|(simp;omega)
  have i2:decide ((0:Int)<(j:Int)+1)=true:=by first|(simp;done)|(simp;omega)
  have B0:=xQ (M1.bk 0);obtain⟨ca,cb,cc,cd,ce,cf,cg,ch,ci,cj⟩:=(M1.bk 0).ten;have n1: ¬(HB=wr.heap.size):=by omega
  have n2: ¬(wr.heap.size=HB):=by omega
  have dr:HB<wr:=by omega
  have be:=xQ fun(w':World) (kk:Nat) (hkk:kk≤1099511600000) (hx:ExtR R wr w') (hr:Rand w' R kk)=>lF R kk h p cap q c2 w' hr hkk (by omega) (jP (i:=1) (j:=2) (M1.pickd hx) rfl rfl) (lC (i:=1) M1 rfl) (lC (i:=2) M1 rfl)
  have bf:=xQ fun(w':World) (hx:ExtR R wr w') (a b c:Int)=>pM h HG a b c p _ cap q _ c2 w' (jP (i:=1) (j:=2) (M1.pickd hx) rfl rfl)
  unfold aCe at be;unfold xT at bf;go_wp2
  refine rD (gl [gEq (.agg #[h.aA,h.aB,.slice p h.cells cap,h.free,h.step,h.aE,h.aF,h.aC,h.aG,.slice q h.vs c2]),gEq (.pointer (some ⟨R,0,none⟩)),gEq (.agg #[h.aA,h.aB,.slice p h.cells cap,h.free,h.step,h.aE,h.aF,h.aC,h.aG,.slice q h.vs c2]),(fun v _=> ∃a b c:Int,v=kG a b c),(fun v w'=> ∃(h':aO) (p':OA) (cap':Nat) (q':OA) (c2':Nat) (nn:Int) (ok:Bool),v= .tuple #[bN h' p' h'.cells.length cap' q' h'.vs.length c2',nn,.bool ok]∧Good h'∧w'.ownsRow wr TI 1 (.slice p' h'.cells cap') h'.cells.length (ivs h'.cells)∧w'.ownsRow wr TV 4 (.slice q' h'.vs c2') h'.vs.length (h'.vs.flatMap aD)),(fun v w'=> ∃(h':aO) (p':OA) (cap':Nat) (q':OA) (c2':Nat) (nn:Int) (ok:Bool),v= .tuple #[bN h' p' h'.cells.length cap' q' h'.vs.length c2',nn,.bool ok]∧Good h'∧w'.ownsRow wr TI 1 (.slice p' h'.cells cap') h'.cells.length (ivs h'.cells)∧w'.ownsRow wr TV 4 (.slice q' h'.vs c2') h'.vs.length (h'.vs.flatMap aD)),(fun v w'=> ∃(h':aO) (p':OA) (cap':Nat) (q':OA) (c2':Nat),v=bN h' p' h'.cells.length cap' q' h'.vs.length c2'∧Good h'∧w'.ownsRow wr TI 1 (.slice p' h'.cells cap') h'.cells.length (ivs h'.cells)∧w'.ownsRow wr TV 4 (.slice q' h'.vs c2') h'.vs.length (h'.vs.flatMap aD)),qO,aH8,(fun v w'=> ∃a:Nat,v= .pointer (some ⟨a,0,none⟩)∧wr.heap.size≤a∧nK wr w' a),(fun _ _=>True),qO,aH8]) (RG R wr) R (k+20+800*(23-(j+1))) 60 13 (by kernel_rfl) rfl (by kernel_rfl) (by kernel_rfl) (by kernel_rfl) rr (fun w=>RG.refl _ _ w) (fun _ _ _=>RG.trans ar) (zR (eG (nT _) (eG (nT _) (eG (nT _) (eG (fun _ _ _ h _=>h) (eG (fun v w w' ⟨h',p',cap',q',c2',nn,ok,e,g,a,b⟩ hx=>⟨h',p',cap',q',c2',nn,ok,e,g,hx.own a ar (by decide),hx.own b ar (by decide)⟩) (eG (fun v w w' ⟨h',p',cap',q',c2',nn,ok,e,g,a,b⟩ hx=>⟨h',p',cap',q',c2',nn,ok,e,g,hx.own a ar (by decide),hx.own b ar (by decide)⟩) (eG (fun v w w' ⟨h',p',cap',q',c2',e,g,a,b⟩ hx=>⟨h',p',cap',q',c2',e,g,hx.own a ar (by decide),hx.own b ar (by decide)⟩) (eG (oQ) (eG (rM) (eG (fun v w w' ⟨a,e,l,hb⟩ hx=>⟨a,e,l,hx.house ar l hb⟩) (eG (aC5) (eG (oQ) (eG (rM) (aCu))))))))))))))) rfl (k:=13) (by kernel_rfl) (by decide) (ls:= [(0,some 26),(1,some 27),(2,some 28),(3,some 29),(4,some 30),(5,some 25),(6,some 31),(7,some 32),(8,some 33),(9,some 7),(10,none),(11,some 8),(12,some 9)]) (by kernel_rfl) (ir:= [0,1,2,3,4,5,6,7,8,9,10,11,12]) (by kernel_rfl) ?steps (tl:=#[true,true,true,true,true,true,true,true,true,true,true,true,true]) (by kernel_rfl) ?fin
  case steps=>
   refine sCx [] rfl (fun wi kk hx hr hkk=> ?_) ?_
   ·intro K hK;obtain⟨ca,cb,cc,cd,ce,cf,cg,ch,ci,cj⟩:=(hx.extR.blk B0 (by omega)).ten;go_simp;exact hK _ _ ⟨.agg #[h.aA,h.aB,.slice p h.cells cap,h.free,h.step,h.aE,h.aF,h.aC,h.aG,.slice q h.vs c2],rfl,rfl,⟨RG.refl _ _ _,hr.mono (by omega)⟩⟩
   refine sCx [] rfl (fun wi kk hx hr hkk=> ?_) ?_
   ·intro K hK;go_simp;exact hK _ _ ⟨.pointer (some ⟨R,0,none⟩),rfl,rfl,⟨RG.refl _ _ _,hr.mono (by omega)⟩⟩
   refine sCx [] rfl (fun wi kk hx hr hkk=> ?_) ?_
   ·intro K hK;obtain⟨ca,cb,cc,cd,ce,cf,cg,ch,ci,cj⟩:=(hx.extR.blk B0 (by omega)).ten;go_simp;exact hK _ _ ⟨.agg #[h.aA,h.aB,.slice p h.cells cap,h.free,h.step,h.aE,h.aF,h.aC,h.aG,.slice q h.vs c2],rfl,rfl,⟨RG.refl _ _ _,hr.mono (by omega)⟩⟩
   refine sCx [(1,some 27),(2,some 28)] rfl (fun wi kk hx hr hkk=> ?_) ?_
   ·intro v1 h1 v2 h2 K hK;subst h1 h2;go_wp2_with fail;refine(be _ kk (by omega) hx.extR hr).mono ?_;rintro e w5 ⟨da,db,dc,rfl,r5,x5⟩;go_simp;exact hK _ _ ⟨kG da db dc,rfl,⟨da,db,dc,rfl⟩,⟨RG.ofR x5,r5⟩⟩
   refine sCx [(0,some 26),(3,some 29)] rfl (fun wi kk hx hr hkk=> ?_) ?_
   ·intro v0 h0 v3 h3 K hK;obtain rfl:=h0;obtain⟨ck,cm,cn,rfl⟩:=h3;go_wp2_with fail;refine(bf _ hx.extR ck cm cn).mono ?_;rintro e w6 ⟨h',p',cap',q',c2',nn,ok,rfl,a7,a8,bb,ct⟩;have ba:(wr:Nat)≤wi:=hx.extR.sz;go_simp;exact hK _ _ ⟨_,rfl,⟨h',p',cap',q',c2',nn,ok,rfl,a7,bF a8 ba,bF bb ba⟩,⟨RG.ofE ct,(hr.ext ct).mono (by omega)⟩⟩
   refine sCx [(4,some 30)] rfl (fun wi kk hx hr hkk=> ?_) ?_
   ·intro v4 h4 K hK;obtain⟨h4,p4,bc,q4,b9,cu,cv,rfl,bm,bq,bt⟩:=h4;go_simp;exact hK _ _ ⟨_,rfl,⟨h4,p4,bc,q4,b9,cu,cv,rfl,bm,bq,bt⟩,⟨RG.refl _ _ _,hr.mono (by omega)⟩⟩
   refine sCx [(5,some 25)] rfl (fun wi kk hx hr hkk=> ?_) ?_
   ·intro v5 h5 K hK;obtain⟨h5,p5,ay,q5,a6,b4,b5,rfl,a0,a1,a2⟩:=h5;go_simp;exact hK _ _ ⟨_,rfl,⟨h5,p5,ay,q5,a6,rfl,a0,a1,a2⟩,⟨RG.refl _ _ _,hr.mono (by omega)⟩⟩
   refine sCx [(5,some 25)] rfl (fun wi kk hx hr hkk=> ?_) ?_
   ·intro v5 h5 K hK;obtain⟨h5,p5,ay,q5,a6,b4,b5,rfl,a0,a1,a2⟩:=h5;go_simp;exact hK _ _ ⟨_,rfl,⟨_,rfl⟩,⟨RG.refl _ _ _,hr.mono (by omega)⟩⟩
   refine sCx [(5,some 25)] rfl (fun wi kk hx hr hkk=> ?_) ?_
   ·intro v5 h5 K hK;obtain⟨h5,p5,ay,q5,a6,b4,b5,rfl,a0,a1,a2⟩:=h5;go_simp;exact hK _ _ ⟨_,rfl,⟨_,rfl⟩,⟨RG.refl _ _ _,hr.mono (by omega)⟩⟩
   refine sCx [] rfl (fun wi kk hx hr hkk=> ?_) ?_
   ·intro K hK;have ba:(wr:Nat)≤wi:=hx.extR.sz;go_simp;exact hK _ _ ⟨.pointer (some ⟨wi,0,none⟩),rfl,⟨wi.heap.size,rfl,ba,wZ wi⟩,⟨RG.ofE ((Ext.refl _).alloc _),(hr.alloc _).mono (by omega)⟩⟩
   refine sCx [(6,some 31),(9,some 7)] rfl (fun wi kk hx hr hkk=> ?_) ?_
   ·intro v6 h6 v9 h9 K hK;obtain⟨h6,p6,b7,q6,cy,rfl,bo,br,bu⟩:=h6;obtain⟨a9,rfl,bv,bg⟩:=h9;obtain⟨hz,pz,dm,qz,cz,BZ,_⟩:=bg;obtain⟨z0,dw,z1,dx,z2,dy,z3,dz,z4,ea,z5,eb,z6,ec,z7,ed,z8,ee,z9,ef⟩:=BZ.tenf;go_simp;generalize dh:World.setCell _ _ _=w9;obtain⟨Y9,cq⟩:=BZ.putr dh;have r9:Rand w9 R kk:=sU hr cq (fun g e=>by injection e with e;omega);exact hK _ _ ⟨undef,rfl,trivial,⟨RG.put cq bv BZ Y9 bo br bu,r9.mono (by omega)⟩⟩
   refine sCx [(7,some 32)] rfl (fun wi kk hx hr hkk=> ?_) ?_
   ·intro v7 h7 K hK;obtain⟨n7,rfl⟩:=h7;go_simp;exact hK _ _ ⟨_,rfl,⟨_,rfl⟩,⟨RG.refl _ _ _,hr.mono (by omega)⟩⟩
   refine sCx [(8,some 33)] rfl (fun wi kk hx hr hkk=> ?_) StepsLX.nil
   ·intro v8 h8 K hK;obtain⟨b8,rfl⟩:=h8;go_simp;exact hK _ _ ⟨_,rfl,⟨_,rfl⟩,⟨RG.refl _ _ _,hr.mono (by omega)⟩⟩
  case fin=>
   intro wi hx hr v0 h0 v1 h1 v2 h2 v3 h3 v4 h4 v5 h5 v6 h6 v7 h7 v8 h8 v9 h9 dt c8 du c9 dv dd;subst h0 h1 h2;obtain⟨ck,cm,cn,rfl⟩:=h3;obtain⟨h4,p4,bc,q4,b9,cu,cv,rfl,bm,bq,bt⟩:=h4;obtain⟨h5,p5,ay,q5,a6,b4,b5,rfl,a0,a1,a2⟩:=h5;obtain⟨h6,p6,b7,q6,cy,rfl,bo,br,bu⟩:=h6;obtain⟨n7,rfl⟩:=h7;obtain⟨b8,rfl⟩:=h8;obtain⟨a9,rfl,bv,bg⟩:=h9;clear c8;obtain⟨ds,rfl⟩:=c9;obtain⟨cx,rfl⟩:=dd;have hE:=hx.extR;obtain⟨h',p',cap',q',c2',BA,a7,a8,bb⟩:=bg;have cw:=xQ a7;have M2:=(show MemR R w wi [aMe w p' h'.cells cap',aMf w q' h'.vs c2',aI w (a9) aL (aMg h' p' cap' q' c2'),aI w (HB) aL (aMg h p cap q c2),aMe w p h.cells cap,aMf w q h.vs c2,aI w w aL #[(),(),((),()),(),(),(),(),(),(),((),())]]from M1.own2blk hE a8 bb BA bv (by decide) (by decide) (by decide))
   have r2:Rand wi R (k+20+800*(23-j)):=hr.mono (by omega);clear a7 a8 bb BA hE hx hr bq bt a1 a2 br bu bm a0 bo M1 be bf B0 rr n1 n2 an a3;have bw:=M2.hi 2;have ap:=M2.hi 3;have bx:=M2.hi 6;refine wpAny_done (by kernel_rfl) ?_ _;try go_frame
   go_upto_region 6 with fail;cases cx with
   |false=>
    go_wp2_with fail;go_roundw
    case rel=>exact⟨h,p,cap,q,c2,j,by go_num,by omega,HG.out,M2.pick [3,4,5,6] (by decide) rfl,r2⟩
    case measure=>first|(simp[intOf];done)|(simp[intOf];omega)
   |true=>
    obtain⟨e0,e1,e2,e3,e4,e5,e6,e7,e8,e9⟩:=(M2.bk 2).ten;obtain⟨d0,c0,d1,c1,d2,bi,d3,c3,d4,c4,d5,c5,d6,c6,d7,az,d8,bj,d9,bl⟩:=(M2.bk 3).tenf;obtain⟨f,m⟩:=M2.nq 2 3;go_upto_region 4 with fail;clear e0 e1 e2 e3 e4 e5 e6 e7 e8 e9 d0 c0 d1 c1 d2 bi d3 c3 d4 c4 d5 c5 d6 c6 d7 az d8 bj d9 bl f m;have r3:Rand ((((((((((wi.setCell ⟨HB,0,none⟩ (I h'.aA)).setCell ⟨HB,1,none⟩ (I h'.aB)).setCell ⟨HB,2,none⟩ (.slice p' h'.cells cap')).setCell ⟨HB,3,none⟩ (I h'.free)).setCell ⟨HB,4,none⟩ (I h'.step)).setCell ⟨HB,5,none⟩ (I h'.aE)).setCell ⟨HB,6,none⟩ (I h'.aF)).setCell ⟨HB,7,none⟩ (I h'.aC)).setCell ⟨HB,8,none⟩ (I h'.aG)).setCell ⟨HB,9,none⟩ (.slice q' h'.vs c2')) R (k+20+800*(23-j)):=xN;clear bw ap bx;have M3:=(M2.put10 (i:=3) rfl (I h'.aA) (I h'.aB) (.slice p' h'.cells cap') (I h'.free) (I h'.step) (I h'.aE) (I h'.aF) (I h'.aC) (I h'.aG) (.slice q' h'.vs c2'))
    generalize d:World.setCell _ _ _=w3;rw[d]at M3 r3;clear d r2 M2;have dk:=M3.hi 2;have s:=M3.hi 3;have dl:=M3.hi 6;go_wp2_with fail;go_roundw
    case rel=>exact⟨h',p',cap',q',c2',j,by go_num,by omega,cw.out,M3.pick [3,0,1,6] (by decide) rfl,r3⟩
    case measure=>first|(simp[intOf];done)|(simp[intOf];omega)
end
def iQ (K:Int):Nat→List Value
 |0=> []
 |m+1=>iQ K m++ [.int .i64 (K+m)]
theorem kR (K:Int)(m:Nat):(iQ K m).length=m:=by induction m with|zero=>rfl|succ m ih=>simp[iQ,ih]
theorem uF (K:Int): ∀(m j:Nat),j<m→(iQ K m)[j]? =some (I (K+j)):=by
 intro m;induction m with
 |zero=>intro j h;omega
 |succ m ih=>
  intro j h;by_cases hj:j<m
  ·rw[iQ,aKk (by rw[kR];exact hj)];exact ih j hj
  obtain rfl:j=m:=by omega
  rw[iQ,aKt (by rw[kR];omega),kR];simp
def ChgE (e:TypeId)(B T:Nat)(w w':World):Prop:= ∃row,w.grownBy w' row∧ ∀g,row=some g→B≤g∧g<T∧ ∃cur,w.heap[g]? =some (.cells cur e (0,0))
theorem ChgE.chg {e:TypeId}{B T:Nat}{w w':World}(h:ChgE e B T w w'):Chg B T w w':=by obtain⟨a,hg,hr⟩:=h;exact Chg.of_grown hg (fun g e=>⟨(hr g e).1,(hr g e).2.1⟩)
theorem ChgE.refl (e:TypeId)(B T:Nat)(w:World):ChgE e B T w w:=⟨none,aLo _ _,fun g h=>by cases h⟩
theorem Blk.chg {w w':World}{g B T:Nat}{t:TypeId}{cs:Array Value}(h:Blk w g t cs)(hc:Chg B T w w')(hd:g<B∨T≤g):Blk w' g t cs:=(hc.block g h.lt hd).trans h
theorem OwnT.held {w:World}{B T n a:Nat}{e:TypeId}{sz:Nat}{p:OA}{K:Int}(h:OwnT w B T e sz p n a (iQ K (n*sz)))(hn:0<n):
  ∃g,p=some ⟨g,0,none⟩∧ ∀j,j<n*sz→w.cell? ⟨g,0+j,none⟩=some (I (K+j)):=by
 rcases h.2 with⟨rfl,_⟩|⟨h2,_⟩
 ·omega
 rcases h2.2 with⟨_,h3⟩|⟨g,cap',cur,h1,hb,hg,hn,hm,hs,ht⟩
 ·omega
 injection h1 with e1 e2 e3;refine⟨g,e1,fun j hj=> ?_⟩;subst e1;rw[aL4,h2.cellAt j hj];exact uF _ _ _ hj
theorem ChgE.pre {e:TypeId}{B T:Nat}{w a w':World}(h:ChgE e B T a w')(hx:Ext w a)(hT:T≤w.heap.size):ChgE e B T w w':=by obtain⟨c,hg,hr⟩:=h;refine⟨c,⟨hg.os.trans hx.os,hg.tape.trans hx.tape,hg.output.trans hx.output,aK9 hx.size hg.size,fun i hi hne=>(hg.block i (aK0 hi hx.size) hne).trans (hx.block i hi)⟩,fun g e=> ?_⟩;obtain⟨h1,h2,b,h3⟩:=hr g e;exact⟨h1,h2,b,by rw[←hx.block g (by omega)];exact h3⟩
abbrev TDd:TypeId:=44
abbrev Dd3:=Int×Int×Int
def cE (d:Dd3):List Value:= [.int .i64 d.1,.int .i64 d.2.1,.int .i64 d.2.2]
theorem xK {w:World}{q:OA}{m c2:Nat}{ds:List Dd3}(h:Sl w q m c2 3 (ds.flatMap cE)){k:Nat}(hk:k<m):
  ∃b off a0 a1 a2,q=some ⟨b,off,none⟩∧ds[k]? =some (a0,a1,a2)∧b<w.heap.size∧w.cell? ⟨b,off+k*3,none⟩=some (I a0)∧w.cell? ⟨b,off+k*3+1,none⟩=some (I a1)∧w.cell? ⟨b,off+k*3+2,none⟩=some (I a2):=by
 obtain⟨b,off,x,hp,hx,hb,hc⟩:=Sl.at_ (sz:=3) (f:=cE) (fun _=>rfl) h hk (by omega);obtain⟨a0,a1,a2⟩:=x;exact⟨b,off,a0,a1,a2,hp,hx,hb,hc 0 (by omega),hc 1 (by omega),hc 2 (by omega)⟩
section
open Go.Proofs.Tryz
theorem aJx:ElT prog 31 TDd 3:=
 ⟨underlying31,by
  obtain⟨i,hi,h0,h1,h2⟩:=info_parts (show(prog.info? TDd).map (fun i=>(i.zero,i.size,i.bytes))=some (some (.agg #[(),(),()]),3,24) by kernel_rfl)
  exact⟨i,_,hi,h0,h1,by omega,rfl⟩,by omega⟩
theorem aD3 (ds:List Dd3): ∀u∈ds.flatMap cE,u.oneCell'=true:=by intro u hu;obtain⟨v,_,hv⟩:=List.mem_flatMap.1 hu;simp[cE]at hv;rcases hv with rfl|rfl|rfl<;>rfl
end
section
structure XS (R g:Nat) (t:TypeId) (cs:Array Value) (w w':World):Prop where
 os:w'.os=w.os
 tape:w'.tape=w.tape
 output:w'.output=w.output
 size:w.heap.size≤w'.heap.size
 block: ∀i,i<w.heap.size→i≠R→i≠g→w'.heap[i]? =w.heap[i]?
 put:g<w.heap.size→w'.heap[g]? =w.heap[g]? ∨Blk w' g t cs
theorem XS.refl (R g:Nat)(t:TypeId)(cs:Array Value)(w:World):XS R g t cs w w:=⟨rfl,rfl,rfl,aK1 _,fun i _ _ _=>rfl,fun _=> .inl rfl⟩
theorem XS.blk {R g:Nat}{t:TypeId}{cs:Array Value}{w w':World}(h:XS R g t cs w w')(hb:Blk w g t cs):Blk w' g t cs:=by
 rcases h.put hb.lt with h1|h1
 ·unfold Blk at*;rw[h1];exact hb
 exact h1
theorem XS.trans {R g:Nat}{t:TypeId}{cs:Array Value}{a b c:World}(h:XS R g t cs a b)(k:XS R g t cs b c):XS R g t cs a c:=
 ⟨k.os.trans h.os,k.tape.trans h.tape,k.output.trans h.output,aK9 h.size k.size,fun i hi h1 h2=>(k.block i (aK0 hi h.size) h1 h2).trans (h.block i hi h1 h2),fun hg=>by
  rcases h.put hg with h1|h1
  ·rcases k.put (aK0 hg h.size)with k1|k1
   ·exact .inl (k1.trans h1)
   exact .inr k1
  ·exact .inr (k.blk h1)⟩
theorem XS.ofR {R g:Nat}{t:TypeId}{cs:Array Value}{w w':World}(a:g≠R)(h:ExtR R w w'):XS R g t cs w w':=
 ⟨h.os,h.tape,h.output,h.size,fun i hi h1 _=>h.block i hi (fun e=>h1 (by injection e)),fun hg=> .inl (h.block g hg (fun e=>a (by injection e)))⟩
theorem XS.ofE {R g:Nat}{t:TypeId}{cs:Array Value}{w w':World}(h:Ext w w'):XS R g t cs w w':=
 ⟨h.os,h.tape,h.output,h.size,fun i hi _ _=>h.block i hi,fun hg=> .inl (h.block g hg)⟩
theorem XS.other {R g a:Nat}{t t':TypeId}{cs b:Array Value}{w w':World}(h:XS R g t cs w.drew w')(hb:Blk w a t' b)(h1:a≠R)(h2:a≠g):Blk w' a t' b:=by have:=h.block a hb.lt h1 h2;unfold Blk at*;rw[this];exact hb
section
variable {R:Nat} {w0 w w':World} {L:List Item}
end
end
section
open Go.Proofs.Tryz
theorem zN (h:aO)(k a b:Int)(p:OA)(n c:Nat)(q:OA)(m c2:Nat)(w:World)(hi:IsHouse w h p n c q m c2):
  U 26 #[bN h p n c q m c2,kG k a b] w (xT w):=by
 cases hok:bB h with
 |true=>exact pM h (.inl hok) k a b p n c q m c2 w hi
 |false=>
  refine Z (mG h k a b p n c q m c2 w hi hok) fun w' hx=>?_
  exact⟨fW,none,0,none,0,_,_,rfl,.inr rfl,aKi _ _ _ _,aKi _ _ _ _,hx⟩
def aCf (R:Nat)(w:World)(LT:List Item)(g:aO)(p:OA)(c:Nat)(q:OA)(d:Nat):Prop:=
 ∀w',MemR R w w' LT→IsHouse w' g p g.cells.length c q g.vs.length d∧(0<g.cells.length→ ∀b off,p=some ⟨b,off,none⟩→b≠R)∧(0<g.vs.length→ ∀b off,q=some ⟨b,off,none⟩→b≠R)
theorem aBi {R:Nat}{w:World}{g:aO}{p q:OA}{c d:Nat}:aCf R w [aMe w p g.cells c,aMf w q g.vs d] g p c q d:=
 fun w' m=>⟨jP (i:=0) (j:=1) m rfl rfl,lC (i:=0) m rfl,lC (i:=1) m rfl⟩
def vV (R k:Nat)(w:World)(e:Ending)(w':World):Prop:=
 ∃(ds:List Dd3) (lq:OA) (lc:Nat),e= .returned (.slice lq ds.length lc)∧ds.length≤11∧w'.ownsRow w.heap.size TDd 3 (.slice lq ds.length lc) ds.length (ds.flatMap cE)∧Rand w' R (k+1000)∧ExtR R w w'∧ ∃gq,lq=some ⟨gq,0,none⟩
theorem pG (R k:Nat)(h:aO)(p:OA)(f:Nat)(q:OA)(c2:Nat)(w:World)(a1:Rand w R k)(hk:k≤1099511500000)(hs:h.cells.length≤13∧h.vs.length≤13)
  (hi:IsHouse w h p h.cells.length f q h.vs.length c2)(hp:0<h.cells.length→ ∀b off,p=some ⟨b,off,none⟩→b≠R)(hq:0<h.vs.length→ ∀b off,q=some ⟨b,off,none⟩→b≠R):
  U 23 #[.pointer (some ⟨R,0,none⟩),bN h p h.cells.length f q h.vs.length c2] w (vV R k w):=by
 have hR:=a1.lt;have ay:=xQ (show aCf R w [] h p f q c2 from fun w' m=>⟨⟨m.ext.sl (b0:=0) hi.cells hp,m.ext.sl (b0:=0) hi.vs hq⟩,hp,hq⟩);clear hi hp hq;go_enter func23,ntmps23;go_wp2_with fail;refine(cA R k 12 _ (a1.ext xE) (by omega)).mono ?_;rintro e w1 ⟨x,rfl,xa,xb,r1,x1⟩;have M1:=(((((MemR.start R w hR).c0 aL #[h.aA,h.aB,.slice p h.cells f,h.free,h.step,h.aE,h.aF,h.aC,h.aG,.slice q h.vs c2]).made0 TDd 3 (w.heap.size+1) (by simp)).c2 aL #[h.aA,h.aB,.slice p h.cells f,h.free,h.step,h.aE,h.aF,h.aC,h.aG,.slice q h.vs c2]).pickd x1)
 clear x1;have t:=M1.hi 0;have aq:=M1.hi 2;obtain⟨j0,rfl⟩:=aKo xa;have y:j0≤11:=by omega
 clear xa xb;obtain⟨gX,a0⟩: ∃a,a=w.heap.size+1+1:=⟨_,rfl⟩
 rw[←a0]at M1 t⊢;clear a0;have MS:=(show MemR R w w1 (aJ w TDd 3 (some ⟨w.heap.size+1,0,none⟩) (0) (0) ([])::aI w (gX) aL (aMg h p f q c2):: [])from M1.pick [1,0] (by decide) rfl)
 clear M1 t aq;go_wp2;go_loopw [5,7] (fun o i wr=> ∃(g:aO) (p3:OA) (c3:Nat) (q3:OA) (d3 j:Nat) (ds:List Dd3) (lq:OA) (lc:Nat) (LT:List Item),o= .slice lq ds lc∧i=I j∧ds.length+j≤11∧g.cells.length≤13∧g.vs.length≤13∧MemR R w wr (aJ w TDd 3 (lq) (ds.length) (lc) (ds.flatMap cE)::aI w (gX) aL (aMg g p3 c3 q3 d3)::LT)∧aCf R w LT g p3 c3 q3 d3∧Rand wr R (k+1+60*(11-j))∧ ∃gq,lq=some ⟨gq,0,none⟩) (fun _ i _=>(intOf i).toNat)
 case atStart=>exact⟨h,p,f,q,c2,j0,[],_,0,[],rfl,rfl,by simpa using y,hs.1,hs.2,MS,ay.out,r1.mono (by omega),_,rfl⟩
 case round=>
  clear MS r1 ay y;obtain⟨g,p3,c3,q3,d3,j,ds,lq,lc,LT,rfl,rfl,hj,b7,b8,hM,hT,rr,c⟩:=hrel;have d:=xQ c;have M1:=hM;have HT:=xQ hT;clear hM hT c;have b4:R<wr:=rr.lt;have ap:=M1.hi 1;by_cases y:j=0
  ·skip;subst y;go_wp2;go_ret;exact⟨ds,lq,lc,rfl,by omega,(M1.ow 0),rr.mono (by omega),M1.ext,d.out⟩
  obtain⟨j,rfl⟩: ∃i,j=i+1:=⟨j-1,by omega⟩
  have i1:decide ((0:Int)<((j+1:Nat):Int))=true:=by first|(simp;done)|(simp;omega)
  have i2:decide ((0:Int)<(j:Int)+1)=true:=by first|(simp;done)|(simp;omega)
  have b3:ds.length≤10:=by omega
  obtain⟨ab,ad,ae,af,ag,ah,ai,aj,ak,al⟩:=(M1.bk 1).ten;go_wp2_with fail;clear ab ad ae af ag ah ai aj ak al i1 i2;obtain⟨h1,h2,h3⟩:=HT _ (M1.sub (.cons _ (.cons _ (.refl _))));refine(lF R (k+1+60*(11-(j+1))) g p3 c3 q3 d3 _ rr (by omega) ⟨by omega,by omega⟩ h1 h2 h3).mono ?_;rintro e w2 ⟨da,db,dc,rfl,r2,x2⟩;clear h1 h2 h3 rr;have M2:=(M1.pickd x2)
  clear x2 M1 ap;have ar:=M2.hi 1;obtain⟨ab,ad,ae,af,ag,ah,ai,aj,ak,al⟩:=(M2.bk 1).ten;go_wp2_with fail;clear ab ad ae af ag ah ai aj ak al;refine(zN g da db dc p3 _ c3 q3 _ d3 _ (HT _ ((M2.c0 TDd #[da,db,dc]).sub (.cons _ (.cons _ (.cons _ (.refl _)))))).1).mono ?_;rintro e w3 ⟨r,p5,c5,q5,d5,nn,ok,rfl,hg,ho,hv,hx⟩;have b6:=hg.small;have r3:Rand w3 R (k+1+60*(11-(j+1))+60):=(r2.ext ((Ext.refl _).alloc _)).ext hx;clear hg r2;have M3:=((M2.c0 TDd #[da,db,dc]).own2 (hx.r R) ho hv (by decide))
  clear ho hv hx M2 ar;have v:=M3.hi 2;have au:=M3.hi 4;obtain⟨gD,az⟩: ∃a,a=w2.heap.size:=⟨_,rfl⟩
  rw[←az]at M3 v⊢;clear az;go_upto_region 8 with fail;have r4:Rand (w3.alloc (.cells #[r.aA,r.aB,.slice p5 r.cells c5,r.free,r.step,r.aE,r.aF,r.aC,r.aG,.slice q5 r.vs d5] aL)) R (k+1+60*(11-(j+1))+60):=r3.alloc _;have M4:=(M3.c0 aL (aMg r p5 c5 q5 d5))
  generalize s:(w3.alloc (.cells #[r.aA,r.aB,.slice p5 r.cells c5,r.free,r.step,r.aE,r.aF,r.aC,r.aG,.slice q5 r.vs d5] aL))=w4;rw[s]at M4 r4;clear s r3 M3 v au;have av:=M4.hi 0;have aw:=M4.hi 3;have ax:=M4.hi 5;cases ok with
  |false=>
   obtain⟨am,an,ao⟩:=(M4.bk 3).tri;go_wp2_with (at_builtin;refine kI aJx rfl _ _ rfl (M4.adv ((Ext.refl _).alloc (.cells #[da,db,dc] TDd))) 4 rfl rfl (cE (da,db,dc)) rfl (dO _ _ _ 1 3 _ (by first|rfl|simp) (by first|rfl|simp) (by simp[maxLen])) (fun u hu=>aD3 [(da,db,dc)] u (by simpa using hu)) (by omega) ?_;intro q7 c7 w7 l n;have r7:Rand w7 R (k+1+60*(11-(j+1))+60):=n _ xN);clear am an ao;have M7:=l;clear l n d;obtain⟨gq,c,_,_⟩:=M7.so 4;have d:=xQ c;clear c;go_wp2;go_roundw
   case rel=>
    have e7:(ds++ [(da,db,dc)]).length=ds.length+1:=by simp
    have e8:(ds++ [(da,db,dc)]).flatMap cE=ds.flatMap cE++cE (da,db,dc):=by simp
    refine⟨g,p3,c3,q3,d3,j,ds++ [(da,db,dc)],q7,c7,LT,by rw[e7],by go_num,by rw[e7];omega,by omega,by omega,?_,HT.out,r7.mono (by omega),_,d.out⟩;rw[e7,e8];exact M7.sub (.cons _ (.cons _ (.cons _ (.cons _ (.refl _)))))
   case measure=>first|(simp[intOf];done)|(simp[intOf];omega)
  |true=>
   obtain⟨bo,bp,bq,br,bs,bt,bu,bv,bw,bx⟩:=(M4.bk 0).ten;obtain⟨bc,a2,bd,a3,be,a4,bf,a5,bg,a6,bh,a7,bi,a8,bj,a9,bl,ba,bm,bb⟩:=(M4.bk 5).tenf;obtain⟨z,aa⟩:=M4.nq 0 5;go_upto_region 10 with fail;clear bo bp bq br bs bt bu bv bw bx bc a2 bd a3 be a4 bf a5 bg a6 bh a7 bi a8 bj a9 bl ba bm bb z aa;have b5:R<gX:=by have:=(M4.lt (i:=5) rfl rfl).1;omega
   have r5:Rand ((((((((((w4.setCell ⟨gX,0,none⟩ (I r.aA)).setCell ⟨gX,1,none⟩ (I r.aB)).setCell ⟨gX,2,none⟩ (.slice p5 r.cells c5)).setCell ⟨gX,3,none⟩ (I r.free)).setCell ⟨gX,4,none⟩ (I r.step)).setCell ⟨gX,5,none⟩ (I r.aE)).setCell ⟨gX,6,none⟩ (I r.aF)).setCell ⟨gX,7,none⟩ (I r.aC)).setCell ⟨gX,8,none⟩ (I r.aG)).setCell ⟨gX,9,none⟩ (.slice q5 r.vs d5)) R (k+1+60*(11-(j+1))+60):=xN;have M5:=(M4.put10 (i:=5) rfl (I r.aA) (I r.aB) (.slice p5 r.cells c5) (I r.free) (I r.step) (I r.aE) (I r.aF) (I r.aC) (I r.aG) (.slice q5 r.vs d5))
   generalize s:World.setCell _ _ _=w5;rw[s]at M5 r5;clear s r4 M4 av aw ax;have bz:=M5.hi 0;have b1:=M5.hi 3;have b2:=M5.hi 5;obtain⟨am,an,ao⟩:=(M5.bk 3).tri;go_wp2_with (at_builtin;refine kI aJx rfl _ _ rfl (M5.adv ((Ext.refl _).alloc (.cells #[da,db,dc] TDd))) 4 rfl rfl (cE (da,db,dc)) rfl (dO _ _ _ 1 3 _ (by first|rfl|simp) (by first|rfl|simp) (by simp[maxLen])) (fun u hu=>aD3 [(da,db,dc)] u (by simpa using hu)) (by omega) ?_;intro q7 c7 w7 l n;have r7:Rand w7 R (k+1+60*(11-(j+1))+60):=n _ xN);clear am an ao;have M7:=l;clear l n d;obtain⟨gq,c,_,_⟩:=M7.so 4;have d:=xQ c;clear c;go_wp2;go_roundw
   case rel=>
    have e7:(ds++ [(da,db,dc)]).length=ds.length+1:=by simp
    have e8:(ds++ [(da,db,dc)]).flatMap cE=ds.flatMap cE++cE (da,db,dc):=by simp
    refine⟨r,p5,c5,q5,d5,j,ds++ [(da,db,dc)],q7,c7,_,by rw[e7],by go_num,by rw[e7];omega,by omega,by omega,?_,aBi,r7.mono (by omega),_,d.out⟩;rw[e7,e8];exact M7.pick [4,5,1,2] (by decide) rfl
   case measure=>first|(simp[intOf];done)|(simp[intOf];omega)
end
end Go.Proofs.YtbgkcehffiogcaaGreatDoor
