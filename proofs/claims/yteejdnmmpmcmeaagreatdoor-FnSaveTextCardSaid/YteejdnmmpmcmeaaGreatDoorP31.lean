/-
  Texts of this proof, packed (@packed).
-/
import Derived.Test.YteejdnmmpmcmeaaGreatDoorP5
import Derived.Test.YteejdnmmpmcmeaaGreatDoorP30
namespace Go.Proofs.YteejdnmmpmcmeaaGreatDoor
open Go.RowKit
set_option linter.unusedVariables false
set_option linter.unusedSimpArgs false
set_option maxRecDepth 100000 in
set_option maxHeartbeats 64000000 in
theorem kF (R k:Nat)(n:Int)(w:World)(hr0:Rand w R k)(hk:k≤1099511500000)(hn0:0≤n)(hn1:n≤1000000):
  Calls Tryz.prog 59 #[.pointer (some ⟨R,0,none⟩),.int .i64 n] w (aGv R k w):=by
 have hR:=hr0.lt
 go_enter Tryz.func59,Tryz.ntmps59
 go_wp2_with fail
 refine(bS R k 2 _ (hr0.ext (by exact .alloc (.refl _) _)) (by omega)).mono ?_
 rintro e w1 ⟨x,rfl,xa,xb,r1,x1⟩
 have M1:=xQ ((((MemR.start R w hR).blkNew aQ #[.int .i64 0,.int .i64 0,.slice none 0 0,.int .i64 0,.int .i64 0,.int .i64 0,.int .i64 0,.int .i64 0,.int .i64 0,.slice none 0 0] (w.heap.size) (by simp))).pickd x1)
 clear x1
 have lt1_0:=M1.out.hi 0
 go_wp2_with fail
 refine(bS R (k+1) (2) _ r1 (by omega)).mono ?_
 rintro e w2 ⟨y,rfl,ya,yb,r2,yx⟩
 have M2:=xQ ((M1.out).pickd yx)
 clear yx M1
 clear lt1_0
 have lt2_0:=M2.out.hi 0
 have i1:IntKind.i64.wrap (2+x)=2+x:=IntWalk.i64_in _ (by omega)
 have i2:IntKind.i64.wrap (2+y)=2+y:=IntWalk.i64_in _ (by omega)
 go_wp2_with fail
 refine(xJ R (k+1+1) 0 _ r2 (by omega) (by omega) (by omega)).mono ?_
 rintro e w3 ⟨tf,ts,tp,tc,rfl,r3,x3⟩
 have M3:=xQ ((M2.out).pickd x3)
 clear x3 M2
 clear lt2_0
 have lt3_0:=M3.out.hi 0
 go_wp2_with fail
 refine(aKl _ _ tf ts tp tc _).mono ?_
 intro e w4 hret
 obtain⟨h0,hg0,p0,cp0,q0,cq0,rfl,ho,hv,hx⟩: ∃h0:aV,Good h0∧RetHouse h0 w3 e w4:=⟨_,xM _ _ _ _ _ _,hret⟩
 clear hret i1 i2 xa xb
 have r4:Rand w4 R (k+9):=(r3.ext hx).mono (by omega)
 have HG0:=xQ hg0
 clear hg0 r1 r2
 have M4:=xQ (show MemR R w w4 [aP w.heap.size TI 1 (p0) (h0.cells.length) (cp0) (ivs h0.cells),aP w.heap.size TV 4 (q0) (h0.vs.length) (cq0) (h0.vs.flatMap aE),aK w.heap.size (w.heap.size) aQ #[.int .i64 0,.int .i64 0,.slice none 0 0,.int .i64 0,.int .i64 0,.int .i64 0,.int .i64 0,.int .i64 0,.int .i64 0,.slice none 0 0]]from(M3.out).own2 (hx.r R) ho hv (by decide))
 clear ho hv hx r3 M3
 clear lt3_0
 have lt4_2:=M4.out.hi 2
 have hw4:w.heap.size≤w4.heap.size:=M4.out.ext.sz
 go_upto_region 2 with fail
 have r5:Rand (w4.alloc (.cells #[.int .i64 h0.aA,.int .i64 h0.aB,.slice p0 h0.cells.length cp0,.int .i64 h0.free,.int .i64 h0.step,.int .i64 h0.aD,.int .i64 h0.aH,.int .i64 h0.aC,.int .i64 h0.aI,.slice q0 h0.vs.length cq0] aQ)) R (k+9):=xN
 have M5:=xQ (((M4.out).blkNew aQ #[.int .i64 h0.aA,.int .i64 h0.aB,.slice p0 h0.cells.length cp0,.int .i64 h0.free,.int .i64 h0.step,.int .i64 h0.aD,.int .i64 h0.aH,.int .i64 h0.aC,.int .i64 h0.aI,.slice q0 h0.vs.length cq0] (w4.heap.size) (by simp)))
 generalize hwz:(w4.alloc (.cells #[.int .i64 h0.aA,.int .i64 h0.aB,.slice p0 h0.cells.length cp0,.int .i64 h0.free,.int .i64 h0.step,.int .i64 h0.aD,.int .i64 h0.aH,.int .i64 h0.aC,.int .i64 h0.aI,.slice q0 h0.vs.length cq0] aQ))=w5
 rw[hwz]at M5 r5
 clear hwz r4 M4
 clear lt4_2
 have lt5_0:=M5.out.hi 0
 have lt5_3:=M5.out.hi 3
 obtain⟨HB,hHB⟩: ∃a,a=w4.heap.size:=⟨_,rfl⟩
 have hHBR:R<w4.heap.size:=by omega
 rw[←hHB]at M5 hHBR lt5_0⊢
 clear hHB hw4
 go_wp2_with fail
 refine(bS R (k+9) (24) _ r5 (by omega)).mono ?_
 rintro e w6 ⟨x,rfl,xa,xb,r6,xx⟩
 have M6:=xQ ((M5.out).pickd xx)
 clear xx M5
 clear lt5_0 lt5_3
 have lt6_0:=M6.out.hi 0
 have lt6_3:=M6.out.hi 3
 obtain⟨j0,rfl⟩:=Int.eq_ofNat_of_zero_le xa
 have hj0:j0≤23:=by omega
 clear xa xb
 have MS:=xQ (show MemR R w w6 [aK w.heap.size (HB) aQ #[.int .i64 h0.aA,.int .i64 h0.aB,.slice p0 h0.cells.length cp0,.int .i64 h0.free,.int .i64 h0.step,.int .i64 h0.aD,.int .i64 h0.aH,.int .i64 h0.aC,.int .i64 h0.aI,.slice q0 h0.vs.length cq0],aP w.heap.size TI 1 (p0) (h0.cells.length) (cp0) (ivs h0.cells),aP w.heap.size TV 4 (q0) (h0.vs.length) (cq0) (h0.vs.flatMap aE),aK w.heap.size (w.heap.size) aQ #[.int .i64 0,.int .i64 0,.slice none 0 0,.int .i64 0,.int .i64 0,.int .i64 0,.int .i64 0,.int .i64 0,.int .i64 0,.slice none 0 0]]from M6.out)
 clear M6 lt6_0 lt6_3
 go_wp2
 go_loopw [6] (fun i wr=> ∃(h:aV) (p:Option Addr) (cap:Nat) (q:Option Addr) (c2 j:Nat),i= .int .i64 (j:Int)∧j≤23∧Good h∧MemR R w wr [aK w.heap.size (HB) aQ #[.int .i64 h.aA,.int .i64 h.aB,.slice p h.cells.length cap,.int .i64 h.free,.int .i64 h.step,.int .i64 h.aD,.int .i64 h.aH,.int .i64 h.aC,.int .i64 h.aI,.slice q h.vs.length c2],aP w.heap.size TI 1 (p) (h.cells.length) (cap) (ivs h.cells),aP w.heap.size TV 4 (q) (h.vs.length) (c2) (h.vs.flatMap aE),aK w.heap.size (w.heap.size) aQ #[.int .i64 0,.int .i64 0,.slice none 0 0,.int .i64 0,.int .i64 0,.int .i64 0,.int .i64 0,.int .i64 0,.int .i64 0,.slice none 0 0]]∧Rand wr R (k+20+800*(23-j))) (fun i _=>(intOf i).toNat)
 case atStart=>exact⟨h0,p0,cp0,q0,cq0,j0,rfl,hj0,HG0.out,MS.out,r6.mono (by omega)⟩
 case round=>
  clear MS r6 r5 HG0
  obtain⟨h,p,cap,q,c2,j,rfl,hj,hg,hM,rr⟩:=hrel
  have M1:=xQ hM
  have HG:=xQ hg
  have hsm:=hg.small
  clear hM hg
  have hRw:R<wr.heap.size:=rr.lt
  have lt1_0:=M1.out.hi 0
  have lt1_3:=M1.out.hi 3
  by_cases hj0:j=0
  ·skip
   subst hj0
   go_wp2_with fail
   refine(aF7 R (k+20+800*(23-0)) n _ rr (by omega) hn0 hn1).mono ?_
   rintro e w2 ⟨t,rfl,r2,x2⟩
   clear rr
   have M2:=xQ ((M1.out).pickd x2)
   clear x2 M1
   clear lt1_0 lt1_3
   have lt2_0:=M2.out.hi 0
   have lt2_3:=M2.out.hi 3
   cases t with
   |false=>
    obtain⟨d0,d1,d2,d3,d4,d5,d6,d7,d8,d9⟩:=(M2.out.blk (i:=0) rfl).ten
    obtain⟨f0,ff0,f1,ff1,f2,ff2,f3,ff3,f4,ff4,f5,ff5,f6,ff6,f7,ff7,f8,ff8,f9,ff9⟩:=(M2.out.blk (i:=3) rfl).tenf
    have ne0_1a: ¬(HB=w.heap.size):=M2.out.ne (i:=0) (j:=3) (by omega) rfl rfl rfl rfl
    have ne0_1b: ¬(w.heap.size=HB):=fun h=>ne0_1a h.symm
    have r9:Rand ((((((((((w2.setCell ⟨w.heap.size,0,none⟩ (.int .i64 h.aA)).setCell ⟨w.heap.size,1,none⟩ (.int .i64 h.aB)).setCell ⟨w.heap.size,2,none⟩ (.slice p h.cells.length cap)).setCell ⟨w.heap.size,3,none⟩ (.int .i64 h.free)).setCell ⟨w.heap.size,4,none⟩ (.int .i64 h.step)).setCell ⟨w.heap.size,5,none⟩ (.int .i64 h.aD)).setCell ⟨w.heap.size,6,none⟩ (.int .i64 h.aH)).setCell ⟨w.heap.size,7,none⟩ (.int .i64 h.aC)).setCell ⟨w.heap.size,8,none⟩ (.int .i64 h.aI)).setCell ⟨w.heap.size,9,none⟩ (.slice q h.vs.length c2)) R (k+20+800*(23-0)+1):=xN
    go_wp2
    clear d0 d1 d2 d3 d4 d5 d6 d7 d8 d9 f0 ff0 f1 ff1 f2 ff2 f3 ff3 f4 ff4 f5 ff5 f6 ff6 f7 ff7 f8 ff8 f9 ff9 ne0_1a ne0_1b lt2_0 lt2_3
    have M3:=xQ (((M2.out).put10 (i:=3) rfl (.int .i64 h.aA) (.int .i64 h.aB) (.slice p h.cells.length cap) (.int .i64 h.free) (.int .i64 h.step) (.int .i64 h.aD) (.int .i64 h.aH) (.int .i64 h.aC) (.int .i64 h.aI) (.slice q h.vs.length c2)))
    generalize hwz:World.setCell _ _ _=wz
    rw[hwz]at M3 r9
    clear hwz M2
    have lt3_0:=M3.out.hi 0
    have lt3_3:=M3.out.hi 3
    obtain⟨y0,y1,y2,y3,y4,y5,y6,y7,y8,y9⟩:=(M3.out.blk (i:=3) rfl).ten
    exact bodyPost_ret (v:= .agg #[.int .i64 h.aA,.int .i64 h.aB,.slice p h.cells.length cap,.int .i64 h.free,.int .i64 h.step,.int .i64 h.aD,.int .i64 h.aH,.int .i64 h.aC,.int .i64 h.aI,.slice q h.vs.length c2]) (by simp[results,Tryz.results59,go_sem, *]) rfl ⟨h,p,cap,q,c2,rfl,by(try simp only[List.length_append,List.length_singleton]);omega,by(try simp only[List.length_append,List.length_singleton]);omega,by have:=M3.out.own (i:=1) rfl;simpa using this,by have:=M3.out.own (i:=2) rfl;simpa using this,r9.mono (by omega),M3.out.ext⟩
   |true=>
    go_wp2_with fail
    refine(bS R (k+20+800*(23-0)+1) (4) _ r2 (by omega)).mono ?_
    rintro e w3 ⟨x,rfl,xa,xb,r3,xx⟩
    have M3:=xQ ((M2.out).pickd xx)
    clear xx M2
    clear lt2_0 lt2_3
    have lt3_0:=M3.out.hi 0
    have lt3_3:=M3.out.hi 3
    have hx4:x=0∨x=1∨x=2∨x=3:=by omega
    clear xa xb
    rcases hx4 with rfl|rfl|rfl|rfl
    ·skip
     go_wp2_with fail
     refine(bS R (k+20+800*(23-0)+1+1) 2 _ (r3.ext (by exact .alloc (.refl _) _)) (by omega)).mono ?_
     rintro e w4 ⟨y,rfl,ya,yb,r4,x4⟩
     have M4:=xQ ((((M3.out).lit TI 1 2 (w3.heap.size) #[.int .i64 (-1),.int .i64 10000] (by simp) (by simp) (by simp[maxLen]))).pickd x4)
     clear x4 M3
     clear lt3_0 lt3_3
     have lt4_1:=M4.out.hi 1
     have lt4_4:=M4.out.hi 4
     have hy2:y=0∨y=1:=by omega
     clear ya yb
     rcases hy2 with rfl|rfl
     ·skip
      have d7:w4.cell? ⟨HB,7,none⟩=some (.int .i64 h.aC):=(M4.out.blk (i:=1) rfl).cell 7
      have df7:w4.frozen? ⟨HB,7,none⟩=false:=(M4.out.blk (i:=1) rfl).frozen 7
      have e0:w4.cell? ⟨w3.heap.size,0,none⟩=some (.int .i64 (-1)):=by rw[((M4.out.own (i:=0) rfl)).cellAt 0 (by omega)];rfl
      have e1:w3.heap.size<w4.heap.size:=(M4.out.lt (i:=0) rfl rfl).2
      go_upto_region 17 with fail
      clear d7 df7 e0 e1
      have r5:Rand (w4.setCell ⟨HB,7,none⟩ (.int .i64 (-1))) R (k+20+800*(23-0)+1+1+1):=xN
      have M5:=xQ (show MemR R w (w4.setCell ⟨HB,7,none⟩ (.int .i64 (-1))) [aP w.heap.size TI 1 (some ⟨w3.heap.size,0,none⟩) (2) (2) ([.int .i64 (-1),.int .i64 10000]),aK w.heap.size (HB) aQ #[.int .i64 h.aA,.int .i64 h.aB,.slice p h.cells.length cap,.int .i64 h.free,.int .i64 h.step,.int .i64 h.aD,.int .i64 h.aH,.int .i64 (-1),.int .i64 h.aI,.slice q h.vs.length c2],aP w.heap.size TI 1 (p) (h.cells.length) (cap) (ivs h.cells),aP w.heap.size TV 4 (q) (h.vs.length) (c2) (h.vs.flatMap aE),aK w.heap.size (w.heap.size) aQ #[.int .i64 0,.int .i64 0,.slice none 0 0,.int .i64 0,.int .i64 0,.int .i64 0,.int .i64 0,.int .i64 0,.int .i64 0,.slice none 0 0]]from((M4.out).store (i:=1) rfl 7 (.int .i64 (-1))))
      generalize hwz:World.setCell _ _ _=w5
      rw[hwz]at M5 r5
      clear hwz r4 M4
      clear lt4_1 lt4_4
      have lt5_1:=M5.out.hi 1
      have lt5_4:=M5.out.hi 4
      obtain⟨d0,d1,d2,d3,d4,d5,d6,d7,d8,d9⟩:=(M5.out.blk (i:=1) rfl).ten
      obtain⟨f0,ff0,f1,ff1,f2,ff2,f3,ff3,f4,ff4,f5,ff5,f6,ff6,f7,ff7,f8,ff8,f9,ff9⟩:=(M5.out.blk (i:=4) rfl).tenf
      have ne0_1a: ¬(HB=w.heap.size):=M5.out.ne (i:=1) (j:=4) (by omega) rfl rfl rfl rfl
      have ne0_1b: ¬(w.heap.size=HB):=fun h=>ne0_1a h.symm
      have r9:Rand ((((((((((w5.setCell ⟨w.heap.size,0,none⟩ (.int .i64 h.aA)).setCell ⟨w.heap.size,1,none⟩ (.int .i64 h.aB)).setCell ⟨w.heap.size,2,none⟩ (.slice p h.cells.length cap)).setCell ⟨w.heap.size,3,none⟩ (.int .i64 h.free)).setCell ⟨w.heap.size,4,none⟩ (.int .i64 h.step)).setCell ⟨w.heap.size,5,none⟩ (.int .i64 h.aD)).setCell ⟨w.heap.size,6,none⟩ (.int .i64 h.aH)).setCell ⟨w.heap.size,7,none⟩ (.int .i64 (-1))).setCell ⟨w.heap.size,8,none⟩ (.int .i64 h.aI)).setCell ⟨w.heap.size,9,none⟩ (.slice q h.vs.length c2)) R (k+20+800*(23-0)+1+1+1):=xN
      go_wp2
      clear d0 d1 d2 d3 d4 d5 d6 d7 d8 d9 f0 ff0 f1 ff1 f2 ff2 f3 ff3 f4 ff4 f5 ff5 f6 ff6 f7 ff7 f8 ff8 f9 ff9 ne0_1a ne0_1b lt5_1 lt5_4
      have M6:=xQ (((M5.out).put10 (i:=4) rfl (.int .i64 h.aA) (.int .i64 h.aB) (.slice p h.cells.length cap) (.int .i64 h.free) (.int .i64 h.step) (.int .i64 h.aD) (.int .i64 h.aH) (.int .i64 (-1)) (.int .i64 h.aI) (.slice q h.vs.length c2)))
      generalize hwz:World.setCell _ _ _=wz
      rw[hwz]at M6 r9
      clear hwz M5
      have lt6_1:=M6.out.hi 1
      have lt6_4:=M6.out.hi 4
      obtain⟨y0,y1,y2,y3,y4,y5,y6,y7,y8,y9⟩:=(M6.out.blk (i:=4) rfl).ten
      exact bodyPost_ret (v:= .agg #[.int .i64 h.aA,.int .i64 h.aB,.slice p h.cells.length cap,.int .i64 h.free,.int .i64 h.step,.int .i64 h.aD,.int .i64 h.aH,.int .i64 (-1),.int .i64 h.aI,.slice q h.vs.length c2]) (by simp[results,Tryz.results59,go_sem, *]) rfl ⟨{h with aC:= -1},p,cap,q,c2,rfl,by(try simp only[List.length_append,List.length_singleton]);omega,by(try simp only[List.length_append,List.length_singleton]);omega,by have:=M6.out.own (i:=2) rfl;simpa using this,by have:=M6.out.own (i:=3) rfl;simpa using this,r9.mono (by omega),M6.out.ext⟩
     ·skip
      have d7:w4.cell? ⟨HB,7,none⟩=some (.int .i64 h.aC):=(M4.out.blk (i:=1) rfl).cell 7
      have df7:w4.frozen? ⟨HB,7,none⟩=false:=(M4.out.blk (i:=1) rfl).frozen 7
      have e0:w4.cell? ⟨w3.heap.size,1,none⟩=some (.int .i64 (10000)):=by rw[((M4.out.own (i:=0) rfl)).cellAt 1 (by omega)];rfl
      have e1:w3.heap.size<w4.heap.size:=(M4.out.lt (i:=0) rfl rfl).2
      go_upto_region 17 with fail
      clear d7 df7 e0 e1
      have r5:Rand (w4.setCell ⟨HB,7,none⟩ (.int .i64 (10000))) R (k+20+800*(23-0)+1+1+1):=xN
      have M5:=xQ (show MemR R w (w4.setCell ⟨HB,7,none⟩ (.int .i64 (10000))) [aP w.heap.size TI 1 (some ⟨w3.heap.size,0,none⟩) (2) (2) ([.int .i64 (-1),.int .i64 10000]),aK w.heap.size (HB) aQ #[.int .i64 h.aA,.int .i64 h.aB,.slice p h.cells.length cap,.int .i64 h.free,.int .i64 h.step,.int .i64 h.aD,.int .i64 h.aH,.int .i64 (10000),.int .i64 h.aI,.slice q h.vs.length c2],aP w.heap.size TI 1 (p) (h.cells.length) (cap) (ivs h.cells),aP w.heap.size TV 4 (q) (h.vs.length) (c2) (h.vs.flatMap aE),aK w.heap.size (w.heap.size) aQ #[.int .i64 0,.int .i64 0,.slice none 0 0,.int .i64 0,.int .i64 0,.int .i64 0,.int .i64 0,.int .i64 0,.int .i64 0,.slice none 0 0]]from((M4.out).store (i:=1) rfl 7 (.int .i64 (10000))))
      generalize hwz:World.setCell _ _ _=w5
      rw[hwz]at M5 r5
      clear hwz r4 M4
      clear lt4_1 lt4_4
      have lt5_1:=M5.out.hi 1
      have lt5_4:=M5.out.hi 4
      obtain⟨d0,d1,d2,d3,d4,d5,d6,d7,d8,d9⟩:=(M5.out.blk (i:=1) rfl).ten
      obtain⟨f0,ff0,f1,ff1,f2,ff2,f3,ff3,f4,ff4,f5,ff5,f6,ff6,f7,ff7,f8,ff8,f9,ff9⟩:=(M5.out.blk (i:=4) rfl).tenf
      have ne0_1a: ¬(HB=w.heap.size):=M5.out.ne (i:=1) (j:=4) (by omega) rfl rfl rfl rfl
      have ne0_1b: ¬(w.heap.size=HB):=fun h=>ne0_1a h.symm
      have r9:Rand ((((((((((w5.setCell ⟨w.heap.size,0,none⟩ (.int .i64 h.aA)).setCell ⟨w.heap.size,1,none⟩ (.int .i64 h.aB)).setCell ⟨w.heap.size,2,none⟩ (.slice p h.cells.length cap)).setCell ⟨w.heap.size,3,none⟩ (.int .i64 h.free)).setCell ⟨w.heap.size,4,none⟩ (.int .i64 h.step)).setCell ⟨w.heap.size,5,none⟩ (.int .i64 h.aD)).setCell ⟨w.heap.size,6,none⟩ (.int .i64 h.aH)).setCell ⟨w.heap.size,7,none⟩ (.int .i64 (10000))).setCell ⟨w.heap.size,8,none⟩ (.int .i64 h.aI)).setCell ⟨w.heap.size,9,none⟩ (.slice q h.vs.length c2)) R (k+20+800*(23-0)+1+1+1):=xN
      go_wp2
      clear d0 d1 d2 d3 d4 d5 d6 d7 d8 d9 f0 ff0 f1 ff1 f2 ff2 f3 ff3 f4 ff4 f5 ff5 f6 ff6 f7 ff7 f8 ff8 f9 ff9 ne0_1a ne0_1b lt5_1 lt5_4
      have M6:=xQ (((M5.out).put10 (i:=4) rfl (.int .i64 h.aA) (.int .i64 h.aB) (.slice p h.cells.length cap) (.int .i64 h.free) (.int .i64 h.step) (.int .i64 h.aD) (.int .i64 h.aH) (.int .i64 (10000)) (.int .i64 h.aI) (.slice q h.vs.length c2)))
      generalize hwz:World.setCell _ _ _=wz
      rw[hwz]at M6 r9
      clear hwz M5
      have lt6_1:=M6.out.hi 1
      have lt6_4:=M6.out.hi 4
      obtain⟨y0,y1,y2,y3,y4,y5,y6,y7,y8,y9⟩:=(M6.out.blk (i:=4) rfl).ten
      exact bodyPost_ret (v:= .agg #[.int .i64 h.aA,.int .i64 h.aB,.slice p h.cells.length cap,.int .i64 h.free,.int .i64 h.step,.int .i64 h.aD,.int .i64 h.aH,.int .i64 (10000),.int .i64 h.aI,.slice q h.vs.length c2]) (by simp[results,Tryz.results59,go_sem, *]) rfl ⟨{h with aC:=10000},p,cap,q,c2,rfl,by(try simp only[List.length_append,List.length_singleton]);omega,by(try simp only[List.length_append,List.length_singleton]);omega,by have:=M6.out.own (i:=2) rfl;simpa using this,by have:=M6.out.own (i:=3) rfl;simpa using this,r9.mono (by omega),M6.out.ext⟩
    ·skip
     have d8:w3.cell? ⟨HB,8,none⟩=some (.int .i64 h.aI):=(M3.out.blk (i:=0) rfl).cell 8
     have df8:w3.frozen? ⟨HB,8,none⟩=false:=(M3.out.blk (i:=0) rfl).frozen 8
     go_upto_region 17 with fail
     clear d8 df8
     have r5:Rand (w3.setCell ⟨HB,8,none⟩ (.int .i64 (-1))) R (k+20+800*(23-0)+1+1):=xN
     have M4:=xQ (show MemR R w (w3.setCell ⟨HB,8,none⟩ (.int .i64 (-1))) [aK w.heap.size (HB) aQ #[.int .i64 h.aA,.int .i64 h.aB,.slice p h.cells.length cap,.int .i64 h.free,.int .i64 h.step,.int .i64 h.aD,.int .i64 h.aH,.int .i64 h.aC,.int .i64 (-1),.slice q h.vs.length c2],aP w.heap.size TI 1 (p) (h.cells.length) (cap) (ivs h.cells),aP w.heap.size TV 4 (q) (h.vs.length) (c2) (h.vs.flatMap aE),aK w.heap.size (w.heap.size) aQ #[.int .i64 0,.int .i64 0,.slice none 0 0,.int .i64 0,.int .i64 0,.int .i64 0,.int .i64 0,.int .i64 0,.int .i64 0,.slice none 0 0]]from((M3.out).store (i:=0) rfl 8 (.int .i64 (-1))))
     generalize hwz:World.setCell _ _ _=w5
     rw[hwz]at M4 r5
     clear hwz r3 M3
     clear lt3_0 lt3_3
     have lt4_0:=M4.out.hi 0
     have lt4_3:=M4.out.hi 3
     obtain⟨d0,d1,d2,d3,d4,d5,d6,d7,d8,d9⟩:=(M4.out.blk (i:=0) rfl).ten
     obtain⟨f0,ff0,f1,ff1,f2,ff2,f3,ff3,f4,ff4,f5,ff5,f6,ff6,f7,ff7,f8,ff8,f9,ff9⟩:=(M4.out.blk (i:=3) rfl).tenf
     have ne0_1a: ¬(HB=w.heap.size):=M4.out.ne (i:=0) (j:=3) (by omega) rfl rfl rfl rfl
     have ne0_1b: ¬(w.heap.size=HB):=fun h=>ne0_1a h.symm
     have r9:Rand ((((((((((w5.setCell ⟨w.heap.size,0,none⟩ (.int .i64 h.aA)).setCell ⟨w.heap.size,1,none⟩ (.int .i64 h.aB)).setCell ⟨w.heap.size,2,none⟩ (.slice p h.cells.length cap)).setCell ⟨w.heap.size,3,none⟩ (.int .i64 h.free)).setCell ⟨w.heap.size,4,none⟩ (.int .i64 h.step)).setCell ⟨w.heap.size,5,none⟩ (.int .i64 h.aD)).setCell ⟨w.heap.size,6,none⟩ (.int .i64 h.aH)).setCell ⟨w.heap.size,7,none⟩ (.int .i64 h.aC)).setCell ⟨w.heap.size,8,none⟩ (.int .i64 (-1))).setCell ⟨w.heap.size,9,none⟩ (.slice q h.vs.length c2)) R (k+20+800*(23-0)+1+1):=xN
     go_wp2
     clear d0 d1 d2 d3 d4 d5 d6 d7 d8 d9 f0 ff0 f1 ff1 f2 ff2 f3 ff3 f4 ff4 f5 ff5 f6 ff6 f7 ff7 f8 ff8 f9 ff9 ne0_1a ne0_1b lt4_0 lt4_3
     have M5:=xQ (((M4.out).put10 (i:=3) rfl (.int .i64 h.aA) (.int .i64 h.aB) (.slice p h.cells.length cap) (.int .i64 h.free) (.int .i64 h.step) (.int .i64 h.aD) (.int .i64 h.aH) (.int .i64 h.aC) (.int .i64 (-1)) (.slice q h.vs.length c2)))
     generalize hwz:World.setCell _ _ _=wz
     rw[hwz]at M5 r9
     clear hwz M4
     have lt5_0:=M5.out.hi 0
     have lt5_3:=M5.out.hi 3
     obtain⟨y0,y1,y2,y3,y4,y5,y6,y7,y8,y9⟩:=(M5.out.blk (i:=3) rfl).ten
     exact bodyPost_ret (v:= .agg #[.int .i64 h.aA,.int .i64 h.aB,.slice p h.cells.length cap,.int .i64 h.free,.int .i64 h.step,.int .i64 h.aD,.int .i64 h.aH,.int .i64 h.aC,.int .i64 (-1),.slice q h.vs.length c2]) (by simp[results,Tryz.results59,go_sem, *]) rfl ⟨{h with aI:= -1},p,cap,q,c2,rfl,by(try simp only[List.length_append,List.length_singleton]);omega,by(try simp only[List.length_append,List.length_singleton]);omega,by have:=M5.out.own (i:=1) rfl;simpa using this,by have:=M5.out.own (i:=2) rfl;simpa using this,r9.mono (by omega),M5.out.ext⟩
    ·skip
     have d9:w3.cell? ⟨HB,9,none⟩=some (.slice q h.vs.length c2):=(M3.out.blk (i:=0) rfl).cell 9
     have df9:w3.frozen? ⟨HB,9,none⟩=false:=(M3.out.blk (i:=0) rfl).frozen 9
     go_upto_region 17 with(at_builtin;refine sN wL rfl _ _ rfl (M3.out.adv ((Ext.refl _).alloc (.cells #[.int .i64 98,.int .i64 0,.int .i64 0,.int .i64 0] TV))) 2 rfl rfl (aE (98,0,0,0)) rfl (iE _ _ _ 1 4 _ (by first|rfl|simp) (by first|rfl|simp) (by simp[maxLen])) (oI _) (by omega) ?_;intro q7 c7 w7 M7X hr7;have M7:=xQ (show MemR R w w7 [aK w.heap.size (HB) aQ #[.int .i64 h.aA,.int .i64 h.aB,.slice p h.cells.length cap,.int .i64 h.free,.int .i64 h.step,.int .i64 h.aD,.int .i64 h.aH,.int .i64 h.aC,.int .i64 h.aI,.slice q h.vs.length c2],aP w.heap.size TI 1 (p) (h.cells.length) (cap) (ivs h.cells),aP w.heap.size TV 4 (q7) (h.vs.length+1) (c7) (h.vs.flatMap aE++aE (98,0,0,0)),aK w.heap.size (w.heap.size) aQ #[.int .i64 0,.int .i64 0,.slice none 0 0,.int .i64 0,.int .i64 0,.int .i64 0,.int .i64 0,.int .i64 0,.int .i64 0,.slice none 0 0]]from M7X);have r7:Rand w7 R (k+20+800*(23-0)+1+1):=hr7 _ xN;have g9:w7.cell? ⟨HB,9,none⟩=some (.slice q h.vs.length c2):=(M7.out.blk (i:=0) rfl).cell 9;have gf9:w7.frozen? ⟨HB,9,none⟩=false:=(M7.out.blk (i:=0) rfl).frozen 9)
     clear d9 df9
     clear lt3_0 lt3_3
     have lt3_0:=M7.out.hi 0
     have lt3_3:=M7.out.hi 3
     have r5:Rand (w7.setCell ⟨HB,9,none⟩ (.slice q7 (h.vs.length+1) c7)) R (k+20+800*(23-0)+1+1):=xN
     have M4:=xQ (show MemR R w (w7.setCell ⟨HB,9,none⟩ (.slice q7 (h.vs.length+1) c7)) [aK w.heap.size (HB) aQ #[.int .i64 h.aA,.int .i64 h.aB,.slice p h.cells.length cap,.int .i64 h.free,.int .i64 h.step,.int .i64 h.aD,.int .i64 h.aH,.int .i64 h.aC,.int .i64 h.aI,.slice q7 (h.vs.length+1) c7],aP w.heap.size TI 1 (p) (h.cells.length) (cap) (ivs h.cells),aP w.heap.size TV 4 (q7) (h.vs.length+1) (c7) (h.vs.flatMap aE++aE (98,0,0,0)),aK w.heap.size (w.heap.size) aQ #[.int .i64 0,.int .i64 0,.slice none 0 0,.int .i64 0,.int .i64 0,.int .i64 0,.int .i64 0,.int .i64 0,.int .i64 0,.slice none 0 0]]from((M7.out).store (i:=0) rfl 9 (.slice q7 (h.vs.length+1) c7)))
     generalize hwz:World.setCell _ _ _=w5
     rw[hwz]at M4 r5
     clear hwz r7 M7
     clear lt3_0 lt3_3
     have lt4_0:=M4.out.hi 0
     have lt4_3:=M4.out.hi 3
     obtain⟨d0,d1,d2,d3,d4,d5,d6,d7,d8,d9⟩:=(M4.out.blk (i:=0) rfl).ten
     obtain⟨f0,ff0,f1,ff1,f2,ff2,f3,ff3,f4,ff4,f5,ff5,f6,ff6,f7,ff7,f8,ff8,f9,ff9⟩:=(M4.out.blk (i:=3) rfl).tenf
     have ne0_1a: ¬(HB=w.heap.size):=M4.out.ne (i:=0) (j:=3) (by omega) rfl rfl rfl rfl
     have ne0_1b: ¬(w.heap.size=HB):=fun h=>ne0_1a h.symm
     have r9:Rand ((((((((((w5.setCell ⟨w.heap.size,0,none⟩ (.int .i64 h.aA)).setCell ⟨w.heap.size,1,none⟩ (.int .i64 h.aB)).setCell ⟨w.heap.size,2,none⟩ (.slice p h.cells.length cap)).setCell ⟨w.heap.size,3,none⟩ (.int .i64 h.free)).setCell ⟨w.heap.size,4,none⟩ (.int .i64 h.step)).setCell ⟨w.heap.size,5,none⟩ (.int .i64 h.aD)).setCell ⟨w.heap.size,6,none⟩ (.int .i64 h.aH)).setCell ⟨w.heap.size,7,none⟩ (.int .i64 h.aC)).setCell ⟨w.heap.size,8,none⟩ (.int .i64 h.aI)).setCell ⟨w.heap.size,9,none⟩ (.slice q7 (h.vs.length+1) c7)) R (k+20+800*(23-0)+1+1):=xN
     go_wp2
     clear d0 d1 d2 d3 d4 d5 d6 d7 d8 d9 f0 ff0 f1 ff1 f2 ff2 f3 ff3 f4 ff4 f5 ff5 f6 ff6 f7 ff7 f8 ff8 f9 ff9 ne0_1a ne0_1b lt4_0 lt4_3
     have M5:=xQ (((M4.out).put10 (i:=3) rfl (.int .i64 h.aA) (.int .i64 h.aB) (.slice p h.cells.length cap) (.int .i64 h.free) (.int .i64 h.step) (.int .i64 h.aD) (.int .i64 h.aH) (.int .i64 h.aC) (.int .i64 h.aI) (.slice q7 (h.vs.length+1) c7)))
     generalize hwz:World.setCell _ _ _=wz
     rw[hwz]at M5 r9
     clear hwz M4
     have lt5_0:=M5.out.hi 0
     have lt5_3:=M5.out.hi 3
     obtain⟨y0,y1,y2,y3,y4,y5,y6,y7,y8,y9⟩:=(M5.out.blk (i:=3) rfl).ten
     exact bodyPost_ret (v:= .agg #[.int .i64 h.aA,.int .i64 h.aB,.slice p h.cells.length cap,.int .i64 h.free,.int .i64 h.step,.int .i64 h.aD,.int .i64 h.aH,.int .i64 h.aC,.int .i64 h.aI,.slice q7 (h.vs.length+1) c7]) (by simp[results,Tryz.results59,go_sem, *]) rfl ⟨{h with vs:=h.vs++ [(98,0,0,0)]},p,cap,q7,c7,by simp[cH],by(try simp only[List.length_append,List.length_singleton]);omega,by(try simp only[List.length_append,List.length_singleton]);omega,by have:=M5.out.own (i:=1) rfl;simpa using this,by have:=M5.out.own (i:=2) rfl;simpa using this,r9.mono (by omega),M5.out.ext⟩
    ·skip
     have d2:w3.cell? ⟨HB,2,none⟩=some (.slice p h.cells.length cap):=(M3.out.blk (i:=0) rfl).cell 2
     have df2:w3.frozen? ⟨HB,2,none⟩=false:=(M3.out.blk (i:=0) rfl).frozen 2
     go_upto_region 17 with(at_builtin;refine sN gW rfl _ _ rfl (M3.out.adv ((Ext.refl _).alloc (.cells #[.int .i64 0] TI))) 1 rfl rfl ([.int .i64 0]) rfl (iE _ _ _ 1 1 _ (by first|rfl|simp) (by first|rfl|simp) (by simp[maxLen])) (fun u hu=>by obtain rfl:=List.mem_singleton.1 hu;rfl) (by omega) ?_;intro q7 c7 w7 M7X hr7;have M7:=xQ (show MemR R w w7 [aK w.heap.size (HB) aQ #[.int .i64 h.aA,.int .i64 h.aB,.slice p h.cells.length cap,.int .i64 h.free,.int .i64 h.step,.int .i64 h.aD,.int .i64 h.aH,.int .i64 h.aC,.int .i64 h.aI,.slice q h.vs.length c2],aP w.heap.size TI 1 (q7) (h.cells.length+1) (c7) (ivs h.cells++ [.int .i64 0]),aP w.heap.size TV 4 (q) (h.vs.length) (c2) (h.vs.flatMap aE),aK w.heap.size (w.heap.size) aQ #[.int .i64 0,.int .i64 0,.slice none 0 0,.int .i64 0,.int .i64 0,.int .i64 0,.int .i64 0,.int .i64 0,.int .i64 0,.slice none 0 0]]from M7X);have r7:Rand w7 R (k+20+800*(23-0)+1+1):=hr7 _ xN;have g2:w7.cell? ⟨HB,2,none⟩=some (.slice p h.cells.length cap):=(M7.out.blk (i:=0) rfl).cell 2;have gf2:w7.frozen? ⟨HB,2,none⟩=false:=(M7.out.blk (i:=0) rfl).frozen 2)
     clear d2 df2
     clear lt3_0 lt3_3
     have lt3_0:=M7.out.hi 0
     have lt3_3:=M7.out.hi 3
     have r5:Rand (w7.setCell ⟨HB,2,none⟩ (.slice q7 (h.cells.length+1) c7)) R (k+20+800*(23-0)+1+1):=xN
     have M4:=xQ (show MemR R w (w7.setCell ⟨HB,2,none⟩ (.slice q7 (h.cells.length+1) c7)) [aK w.heap.size (HB) aQ #[.int .i64 h.aA,.int .i64 h.aB,.slice q7 (h.cells.length+1) c7,.int .i64 h.free,.int .i64 h.step,.int .i64 h.aD,.int .i64 h.aH,.int .i64 h.aC,.int .i64 h.aI,.slice q h.vs.length c2],aP w.heap.size TI 1 (q7) (h.cells.length+1) (c7) (ivs h.cells++ [.int .i64 0]),aP w.heap.size TV 4 (q) (h.vs.length) (c2) (h.vs.flatMap aE),aK w.heap.size (w.heap.size) aQ #[.int .i64 0,.int .i64 0,.slice none 0 0,.int .i64 0,.int .i64 0,.int .i64 0,.int .i64 0,.int .i64 0,.int .i64 0,.slice none 0 0]]from((M7.out).store (i:=0) rfl 2 (.slice q7 (h.cells.length+1) c7)))
     generalize hwz:World.setCell _ _ _=w5
     rw[hwz]at M4 r5
     clear hwz r7 M7
     clear lt3_0 lt3_3
     have lt4_0:=M4.out.hi 0
     have lt4_3:=M4.out.hi 3
     obtain⟨d0,d1,d2,d3,d4,d5,d6,d7,d8,d9⟩:=(M4.out.blk (i:=0) rfl).ten
     obtain⟨f0,ff0,f1,ff1,f2,ff2,f3,ff3,f4,ff4,f5,ff5,f6,ff6,f7,ff7,f8,ff8,f9,ff9⟩:=(M4.out.blk (i:=3) rfl).tenf
     have ne0_1a: ¬(HB=w.heap.size):=M4.out.ne (i:=0) (j:=3) (by omega) rfl rfl rfl rfl
     have ne0_1b: ¬(w.heap.size=HB):=fun h=>ne0_1a h.symm
     have r9:Rand ((((((((((w5.setCell ⟨w.heap.size,0,none⟩ (.int .i64 h.aA)).setCell ⟨w.heap.size,1,none⟩ (.int .i64 h.aB)).setCell ⟨w.heap.size,2,none⟩ (.slice q7 (h.cells.length+1) c7)).setCell ⟨w.heap.size,3,none⟩ (.int .i64 h.free)).setCell ⟨w.heap.size,4,none⟩ (.int .i64 h.step)).setCell ⟨w.heap.size,5,none⟩ (.int .i64 h.aD)).setCell ⟨w.heap.size,6,none⟩ (.int .i64 h.aH)).setCell ⟨w.heap.size,7,none⟩ (.int .i64 h.aC)).setCell ⟨w.heap.size,8,none⟩ (.int .i64 h.aI)).setCell ⟨w.heap.size,9,none⟩ (.slice q h.vs.length c2)) R (k+20+800*(23-0)+1+1):=xN
     go_wp2
     clear d0 d1 d2 d3 d4 d5 d6 d7 d8 d9 f0 ff0 f1 ff1 f2 ff2 f3 ff3 f4 ff4 f5 ff5 f6 ff6 f7 ff7 f8 ff8 f9 ff9 ne0_1a ne0_1b lt4_0 lt4_3
     have M5:=xQ (((M4.out).put10 (i:=3) rfl (.int .i64 h.aA) (.int .i64 h.aB) (.slice q7 (h.cells.length+1) c7) (.int .i64 h.free) (.int .i64 h.step) (.int .i64 h.aD) (.int .i64 h.aH) (.int .i64 h.aC) (.int .i64 h.aI) (.slice q h.vs.length c2)))
     generalize hwz:World.setCell _ _ _=wz
     rw[hwz]at M5 r9
     clear hwz M4
     have lt5_0:=M5.out.hi 0
     have lt5_3:=M5.out.hi 3
     obtain⟨y0,y1,y2,y3,y4,y5,y6,y7,y8,y9⟩:=(M5.out.blk (i:=3) rfl).ten
     exact bodyPost_ret (v:= .agg #[.int .i64 h.aA,.int .i64 h.aB,.slice q7 (h.cells.length+1) c7,.int .i64 h.free,.int .i64 h.step,.int .i64 h.aD,.int .i64 h.aH,.int .i64 h.aC,.int .i64 h.aI,.slice q h.vs.length c2]) (by simp[results,Tryz.results59,go_sem, *]) rfl ⟨{h with cells:=h.cells++ [0]},q7,c7,q,c2,by simp[cH],by(try simp only[List.length_append,List.length_singleton]);omega,by(try simp only[List.length_append,List.length_singleton]);omega,by have:=M5.out.own (i:=1) rfl;simpa using this,by have:=M5.out.own (i:=2) rfl;simpa using this,r9.mono (by omega),M5.out.ext⟩
  ·obtain⟨j,rfl⟩: ∃i,j=i+1:=⟨j-1,by omega⟩
   have i1:decide ((0:Int)<((j+1:Nat):Int))=true:=by first|(simp;done)|(simp;omega)
   have i2:decide ((0:Int)<(j:Int)+1)=true:=by first|(simp;done)|(simp;omega)
   have B0:=xQ (M1.out.blk (i:=0) rfl)
   obtain⟨ce0,ce1,ce2,ce3,ce4,ce5,ce6,ce7,ce8,ce9⟩:=(M1.out.blk (i:=0) rfl).ten
   have n1: ¬(HB=wr.heap.size):=by omega
   have n2: ¬(wr.heap.size=HB):=by omega
   have lHB:HB<wr.heap.size:=by omega
   have HDD:=xQ fun(w':World) (kk:Nat) (hkk:kk≤1099511600000) (hx:ExtR R wr w') (hr:Rand w' R kk)=>rX R kk h p cap q c2 w' hr hkk (by omega) (qR (i:=1) (j:=2) (M1.out.pickd hx) rfl rfl) (aCa (i:=1) M1.out rfl) (aCa (i:=2) M1.out rfl)
   have HDO:=xQ fun(w':World) (hx:ExtR R wr w') (a b c:Int)=>aAi h HG.out a b c p _ cap q _ c2 w' (qR (i:=1) (j:=2) (M1.out.pickd hx) rfl rfl)
   unfold aEz at HDD
   unfold aFh at HDO
   go_wp2
   refine aC0 (gl [gEq (.agg #[.int .i64 h.aA,.int .i64 h.aB,.slice p h.cells.length cap,.int .i64 h.free,.int .i64 h.step,.int .i64 h.aD,.int .i64 h.aH,.int .i64 h.aC,.int .i64 h.aI,.slice q h.vs.length c2]),gEq (.pointer (some ⟨R,0,none⟩)),gEq (.agg #[.int .i64 h.aA,.int .i64 h.aB,.slice p h.cells.length cap,.int .i64 h.free,.int .i64 h.step,.int .i64 h.aD,.int .i64 h.aH,.int .i64 h.aC,.int .i64 h.aI,.slice q h.vs.length c2]),(fun v _=> ∃a b c:Int,v=oB a b c),(fun v w'=> ∃(h':aV) (p':Option Addr) (cap':Nat) (q':Option Addr) (c2':Nat) (nn:Int) (ok:Bool),v= .tuple #[cH h' p' h'.cells.length cap' q' h'.vs.length c2',.int .i64 nn,.bool ok]∧Good h'∧w'.ownsRow wr.heap.size TI 1 (.slice p' h'.cells.length cap') h'.cells.length (ivs h'.cells)∧w'.ownsRow wr.heap.size TV 4 (.slice q' h'.vs.length c2') h'.vs.length (h'.vs.flatMap aE)),(fun v w'=> ∃(h':aV) (p':Option Addr) (cap':Nat) (q':Option Addr) (c2':Nat) (nn:Int) (ok:Bool),v= .tuple #[cH h' p' h'.cells.length cap' q' h'.vs.length c2',.int .i64 nn,.bool ok]∧Good h'∧w'.ownsRow wr.heap.size TI 1 (.slice p' h'.cells.length cap') h'.cells.length (ivs h'.cells)∧w'.ownsRow wr.heap.size TV 4 (.slice q' h'.vs.length c2') h'.vs.length (h'.vs.flatMap aE)),(fun v w'=> ∃(h':aV) (p':Option Addr) (cap':Nat) (q':Option Addr) (c2':Nat),v=cH h' p' h'.cells.length cap' q' h'.vs.length c2'∧Good h'∧w'.ownsRow wr.heap.size TI 1 (.slice p' h'.cells.length cap') h'.cells.length (ivs h'.cells)∧w'.ownsRow wr.heap.size TV 4 (.slice q' h'.vs.length c2') h'.vs.length (h'.vs.flatMap aE)),sD,aIo,(fun v w'=> ∃a:Nat,v= .pointer (some ⟨a,0,none⟩)∧wr.heap.size≤a∧oH wr.heap.size w' a),(fun _ _=>True),sD,aIo]) (RG R wr.heap.size) R (k+20+800*(23-(j+1))) 60 13 (by kernel_rfl) rfl (by kernel_rfl) (by kernel_rfl) (by kernel_rfl) rr (fun w=>RG.refl _ _ w) (fun _ _ _=>RG.trans hRw) (aIl (fA (sE _) (fA (sE _) (fA (sE _) (fA (fun _ _ _ h _=>h) (fA (fun v w w' ⟨h',p',cap',q',c2',nn,ok,e,g,a,b⟩ hx=>⟨h',p',cap',q',c2',nn,ok,e,g,hx.own a hRw (by decide),hx.own b hRw (by decide)⟩) (fA (fun v w w' ⟨h',p',cap',q',c2',nn,ok,e,g,a,b⟩ hx=>⟨h',p',cap',q',c2',nn,ok,e,g,hx.own a hRw (by decide),hx.own b hRw (by decide)⟩) (fA (fun v w w' ⟨h',p',cap',q',c2',e,g,a,b⟩ hx=>⟨h',p',cap',q',c2',e,g,hx.own a hRw (by decide),hx.own b hRw (by decide)⟩) (fA (wE) (fA (tF) (fA (fun v w w' ⟨a,e,l,hb⟩ hx=>⟨a,e,l,hx.house hRw l hb⟩) (fA (aEr) (fA (wE) (fA (tF) (aK2))))))))))))))) rfl (k:=13) (by kernel_rfl) (by decide) (ls:= [(0,some 26),(1,some 27),(2,some 28),(3,some 29),(4,some 30),(5,some 25),(6,some 31),(7,some 32),(8,some 33),(9,some 7),(10,none),(11,some 8),(12,some 9)]) (by kernel_rfl) (ir:= [0,1,2,3,4,5,6,7,8,9,10,11,12]) (by kernel_rfl) ?steps (tl:=#[true,true,true,true,true,true,true,true,true,true,true,true,true]) (by kernel_rfl) ?fin
   case steps=>
    refine sCx [] rfl (fun wi kk hx hr hkk=> ?_) ?_
    ·intro K hK
     obtain⟨ce0,ce1,ce2,ce3,ce4,ce5,ce6,ce7,ce8,ce9⟩:=((hx.extR.blk B0.out (by omega))).ten
     go_simp
     exact hK _ _ ⟨.agg #[.int .i64 h.aA,.int .i64 h.aB,.slice p h.cells.length cap,.int .i64 h.free,.int .i64 h.step,.int .i64 h.aD,.int .i64 h.aH,.int .i64 h.aC,.int .i64 h.aI,.slice q h.vs.length c2],rfl,rfl,⟨RG.refl _ _ _,hr.mono (by omega)⟩⟩
    refine sCx [] rfl (fun wi kk hx hr hkk=> ?_) ?_
    ·intro K hK
     go_simp
     exact hK _ _ ⟨.pointer (some ⟨R,0,none⟩),rfl,rfl,⟨RG.refl _ _ _,hr.mono (by omega)⟩⟩
    refine sCx [] rfl (fun wi kk hx hr hkk=> ?_) ?_
    ·intro K hK
     obtain⟨ce0,ce1,ce2,ce3,ce4,ce5,ce6,ce7,ce8,ce9⟩:=((hx.extR.blk B0.out (by omega))).ten
     go_simp
     exact hK _ _ ⟨.agg #[.int .i64 h.aA,.int .i64 h.aB,.slice p h.cells.length cap,.int .i64 h.free,.int .i64 h.step,.int .i64 h.aD,.int .i64 h.aH,.int .i64 h.aC,.int .i64 h.aI,.slice q h.vs.length c2],rfl,rfl,⟨RG.refl _ _ _,hr.mono (by omega)⟩⟩
    refine sCx [(1,some 27),(2,some 28)] rfl (fun wi kk hx hr hkk=> ?_) ?_
    ·intro v1 h1 v2 h2 K hK
     obtain rfl:=h1
     obtain rfl:=h2
     go_wp2_with fail
     refine(HDD.out _ kk (by omega) hx.extR hr).mono ?_
     rintro e w5 ⟨da,db,dc,rfl,r5,x5⟩
     go_simp
     exact hK _ _ ⟨oB da db dc,rfl,⟨da,db,dc,rfl⟩,⟨RG.ofR x5,r5⟩⟩
    refine sCx [(0,some 26),(3,some 29)] rfl (fun wi kk hx hr hkk=> ?_) ?_
    ·intro v0 h0 v3 h3 K hK
     obtain rfl:=h0
     obtain⟨da3,db3,dc3,rfl⟩:=h3
     go_wp2_with fail
     refine(HDO.out _ hx.extR da3 db3 dc3).mono ?_
     rintro e w6 ⟨h',p',cap',q',c2',nn,ok,rfl,hg',ho',hv',hx6⟩
     have hs6:wr.heap.size≤wi.heap.size:=hx.extR.sz
     go_simp
     exact hK _ _ ⟨_,rfl,⟨h',p',cap',q',c2',nn,ok,rfl,hg',aZ ho' hs6,aZ hv' hs6⟩,⟨RG.ofE hx6,(hr.ext hx6).mono (by omega)⟩⟩
    refine sCx [(4,some 30)] rfl (fun wi kk hx hr hkk=> ?_) ?_
    ·intro v4 h4 K hK
     obtain⟨h4,p4,cap4,q4,cc4,nn4,ok4,rfl,hg4,ho4,hv4⟩:=h4
     go_simp
     exact hK _ _ ⟨_,rfl,⟨h4,p4,cap4,q4,cc4,nn4,ok4,rfl,hg4,ho4,hv4⟩,⟨RG.refl _ _ _,hr.mono (by omega)⟩⟩
    refine sCx [(5,some 25)] rfl (fun wi kk hx hr hkk=> ?_) ?_
    ·intro v5 h5 K hK
     obtain⟨h5,p5,cap5,q5,cc5,nn5,ok5,rfl,hg5,ho5,hv5⟩:=h5
     go_simp
     exact hK _ _ ⟨_,rfl,⟨h5,p5,cap5,q5,cc5,rfl,hg5,ho5,hv5⟩,⟨RG.refl _ _ _,hr.mono (by omega)⟩⟩
    refine sCx [(5,some 25)] rfl (fun wi kk hx hr hkk=> ?_) ?_
    ·intro v5 h5 K hK
     obtain⟨h5,p5,cap5,q5,cc5,nn5,ok5,rfl,hg5,ho5,hv5⟩:=h5
     go_simp
     exact hK _ _ ⟨_,rfl,⟨_,rfl⟩,⟨RG.refl _ _ _,hr.mono (by omega)⟩⟩
    refine sCx [(5,some 25)] rfl (fun wi kk hx hr hkk=> ?_) ?_
    ·intro v5 h5 K hK
     obtain⟨h5,p5,cap5,q5,cc5,nn5,ok5,rfl,hg5,ho5,hv5⟩:=h5
     go_simp
     exact hK _ _ ⟨_,rfl,⟨_,rfl⟩,⟨RG.refl _ _ _,hr.mono (by omega)⟩⟩
    refine sCx [] rfl (fun wi kk hx hr hkk=> ?_) ?_
    ·intro K hK
     have hs6:wr.heap.size≤wi.heap.size:=hx.extR.sz
     go_simp
     exact hK _ _ ⟨.pointer (some ⟨wi.heap.size,0,none⟩),rfl,⟨wi.heap.size,rfl,hs6,aAj wi⟩,⟨RG.ofE ((Ext.refl _).alloc _),(hr.alloc _).mono (by omega)⟩⟩
    refine sCx [(6,some 31),(9,some 7)] rfl (fun wi kk hx hr hkk=> ?_) ?_
    ·intro v6 h6 v9 h9 K hK
     obtain⟨h6,p6,cap6,q6,cc6,rfl,hg6,ho6,hv6⟩:=h6
     obtain⟨a9,rfl,la9,HK9⟩:=h9
     obtain⟨hz,pz,capz,qz,cz,BZ,_⟩:=HK9
     obtain⟨z0,zf0,z1,zf1,z2,zf2,z3,zf3,z4,zf4,z5,zf5,z6,zf6,z7,zf7,z8,zf8,z9,zf9⟩:=(BZ).tenf
     go_simp
     generalize hw9:World.setCell _ _ _=w9
     obtain⟨Y9,hR9⟩:=(BZ).putr hw9
     have r9:Rand w9 R kk:=vG hr hR9 (fun g e=>by injection e with e;omega)
     exact hK _ _ ⟨undef,rfl,trivial,⟨RG.put hR9 la9 BZ Y9 hg6 ho6 hv6,r9.mono (by omega)⟩⟩
    refine sCx [(7,some 32)] rfl (fun wi kk hx hr hkk=> ?_) ?_
    ·intro v7 h7 K hK
     obtain⟨n7,rfl⟩:=h7
     go_simp
     exact hK _ _ ⟨_,rfl,⟨_,rfl⟩,⟨RG.refl _ _ _,hr.mono (by omega)⟩⟩
    refine sCx [(8,some 33)] rfl (fun wi kk hx hr hkk=> ?_) StepsLX.nil
    ·intro v8 h8 K hK
     obtain⟨b8,rfl⟩:=h8
     go_simp
     exact hK _ _ ⟨_,rfl,⟨_,rfl⟩,⟨RG.refl _ _ _,hr.mono (by omega)⟩⟩
   case fin=>
    intro wi hx hr v0 h0 v1 h1 v2 h2 v3 h3 v4 h4 v5 h5 v6 h6 v7 h7 v8 h8 v9 h9 v10 h10 v11 h11 v12 h12
    obtain rfl:=h0
    obtain rfl:=h1
    obtain rfl:=h2
    obtain⟨da3,db3,dc3,rfl⟩:=h3
    obtain⟨h4,p4,cap4,q4,cc4,nn4,ok4,rfl,hg4,ho4,hv4⟩:=h4
    obtain⟨h5,p5,cap5,q5,cc5,nn5,ok5,rfl,hg5,ho5,hv5⟩:=h5
    obtain⟨h6,p6,cap6,q6,cc6,rfl,hg6,ho6,hv6⟩:=h6
    obtain⟨n7,rfl⟩:=h7
    obtain⟨b8,rfl⟩:=h8
    obtain⟨a9,rfl,la9,HK9⟩:=h9
    clear h10
    obtain⟨n11,rfl⟩:=h11
    obtain⟨b12,rfl⟩:=h12
    have hE:=hx.extR
    obtain⟨h',p',cap',q',c2',BA,hg',ho',hv'⟩:=HK9
    have HG2:=xQ hg'
    have M2:=xQ (show MemR R w wi [aP w.heap.size TI 1 (p') (h'.cells.length) (cap') (ivs h'.cells),aP w.heap.size TV 4 (q') (h'.vs.length) (c2') (h'.vs.flatMap aE),aK w.heap.size (a9) aQ #[.int .i64 h'.aA,.int .i64 h'.aB,.slice p' h'.cells.length cap',.int .i64 h'.free,.int .i64 h'.step,.int .i64 h'.aD,.int .i64 h'.aH,.int .i64 h'.aC,.int .i64 h'.aI,.slice q' h'.vs.length c2'],aK w.heap.size (HB) aQ #[.int .i64 h.aA,.int .i64 h.aB,.slice p h.cells.length cap,.int .i64 h.free,.int .i64 h.step,.int .i64 h.aD,.int .i64 h.aH,.int .i64 h.aC,.int .i64 h.aI,.slice q h.vs.length c2],aP w.heap.size TI 1 (p) (h.cells.length) (cap) (ivs h.cells),aP w.heap.size TV 4 (q) (h.vs.length) (c2) (h.vs.flatMap aE),aK w.heap.size (w.heap.size) aQ #[.int .i64 0,.int .i64 0,.slice none 0 0,.int .i64 0,.int .i64 0,.int .i64 0,.int .i64 0,.int .i64 0,.int .i64 0,.slice none 0 0]]from M1.out.own2blk hE ho' hv' BA la9 (by decide) (by decide) (by decide))
    have r2:Rand wi R (k+20+800*(23-j)):=hr.mono (by omega)
    clear hg' ho' hv' BA hE hx hr ho4 hv4 ho5 hv5 ho6 hv6 hg4 hg5 hg6 M1 HDD HDO B0 rr n1 n2 lt1_0 lt1_3
    have lt2_2:=M2.out.hi 2
    have lt2_3:=M2.out.hi 3
    have lt2_6:=M2.out.hi 6
    refine wpAny_done (by kernel_rfl) ?_ _
    try simp only[Act.put,List.setIfInBounds_toArray,List.set_cons_zero,List.set_cons_succ]
    go_upto_region 6 with fail
    cases b12 with
    |false=>
     go_wp2_with fail
     go_roundw
     case rel=>exact⟨h,p,cap,q,c2,j,by go_num,by omega,HG.out,(M2.out).pick [3,4,5,6] (by decide) rfl,r2⟩
     case measure=>first|(simp[intOf];done)|(simp[intOf];omega)
    |true=>
     obtain⟨e0,e1,e2,e3,e4,e5,e6,e7,e8,e9⟩:=(M2.out.blk (i:=2) rfl).ten
     obtain⟨d0,df0,d1,df1,d2,df2,d3,df3,d4,df4,d5,df5,d6,df6,d7,df7,d8,df8,d9,df9⟩:=(M2.out.blk (i:=3) rfl).tenf
     have ne0_1a: ¬(a9=HB):=M2.out.ne (i:=2) (j:=3) (by omega) rfl rfl rfl rfl
     have ne0_1b: ¬(HB=a9):=fun h=>ne0_1a h.symm
     go_upto_region 4 with fail
     clear e0 e1 e2 e3 e4 e5 e6 e7 e8 e9 d0 df0 d1 df1 d2 df2 d3 df3 d4 df4 d5 df5 d6 df6 d7 df7 d8 df8 d9 df9 ne0_1a ne0_1b
     have r3:Rand ((((((((((wi.setCell ⟨HB,0,none⟩ (.int .i64 h'.aA)).setCell ⟨HB,1,none⟩ (.int .i64 h'.aB)).setCell ⟨HB,2,none⟩ (.slice p' h'.cells.length cap')).setCell ⟨HB,3,none⟩ (.int .i64 h'.free)).setCell ⟨HB,4,none⟩ (.int .i64 h'.step)).setCell ⟨HB,5,none⟩ (.int .i64 h'.aD)).setCell ⟨HB,6,none⟩ (.int .i64 h'.aH)).setCell ⟨HB,7,none⟩ (.int .i64 h'.aC)).setCell ⟨HB,8,none⟩ (.int .i64 h'.aI)).setCell ⟨HB,9,none⟩ (.slice q' h'.vs.length c2')) R (k+20+800*(23-j)):=xN
     clear lt2_2 lt2_3 lt2_6
     have M3:=xQ (((M2.out).put10 (i:=3) rfl (.int .i64 h'.aA) (.int .i64 h'.aB) (.slice p' h'.cells.length cap') (.int .i64 h'.free) (.int .i64 h'.step) (.int .i64 h'.aD) (.int .i64 h'.aH) (.int .i64 h'.aC) (.int .i64 h'.aI) (.slice q' h'.vs.length c2')))
     generalize hwz:World.setCell _ _ _=w3
     rw[hwz]at M3 r3
     clear hwz r2 M2
     have lt3_2:=M3.out.hi 2
     have lt3_3:=M3.out.hi 3
     have lt3_6:=M3.out.hi 6
     go_wp2_with fail
     go_roundw
     case rel=>exact⟨h',p',cap',q',c2',j,by go_num,by omega,HG2.out,(M3.out).pick [3,0,1,6] (by decide) rfl,r3⟩
     case measure=>first|(simp[intOf];done)|(simp[intOf];omega)
def sM (w:World)(e:Ending)(w':World):Prop:=
 ∃(h:aV) (p:Option Addr) (cap:Nat) (q:Option Addr) (c2:Nat),e= .returned (cH h p h.cells.length cap q h.vs.length c2)∧h.cells.length≤13∧h.vs.length≤13∧IsHouse w' h p h.cells.length cap q h.vs.length c2∧Ext w w'
set_option maxRecDepth 100000 in
set_option maxHeartbeats 8000000 in
theorem xV (v:Value)(w:World)(hc:Code w v):Calls Tryz.prog 45 #[v] w (sM w):=by
 go_enter Tryz.func45,Tryz.ntmps45
 go_wp2_with fail
 refine(lG v _ (hc.ext (by exact .alloc (.refl _) _))).mono ?_
 rintro e w1 ⟨R,rfl,hR,r1,x1⟩
 have M1:=xQ ((((Mem.start w).blkNew aQ #[.int .i64 0,.int .i64 0,.slice none 0 0,.int .i64 0,.int .i64 0,.int .i64 0,.int .i64 0,.int .i64 0,.int .i64 0,.slice none 0 0] (w.heap.size) (by simp))).adv x1)
 have lt1_0:=M1.out.hi 0
 clear x1
 go_wp2_with fail
 refine(kF R 0 6 _ r1 (by omega) (by omega) (by omega)).mono ?_
 rintro e w2 ⟨h,p,cap,q,c2,rfl,hs1,hs2,ho,hv,r2,x2⟩
 have hRw:w.heap.size<R:=by have:=hR;simp at this;omega
 have X2:Ext w w2:=ExtR.new M1.out.ext x2 (by omega)
 have B2:Blk w2 w.heap.size aQ #[.int .i64 0,.int .i64 0,.slice none 0 0,.int .i64 0,.int .i64 0,.int .i64 0,.int .i64 0,.int .i64 0,.int .i64 0,.slice none 0 0]:=x2.blk (M1.out.blk (i:=0) rfl) (by omega)
 have l2:=B2.lt
 obtain⟨z0,zf0,z1,zf1,z2,zf2,z3,zf3,z4,zf4,z5,zf5,z6,zf6,z7,zf7,z8,zf8,z9,zf9⟩:=(B2).tenf
 go_wp2
 generalize hw9:World.setCell _ _ _=w9
 obtain⟨Y9,hR9⟩:=(B2).putr hw9
 have X9:Ext w w9:=ExtR.new X2 hR9 (Nat.le_refl _)
 have o9:w9.ownsRow w1.heap.size TI 1 (.slice p h.cells.length cap) h.cells.length (ivs h.cells):=ho.kept hR9 (.inr (oO ho B2 (by decide)))
 have v9:w9.ownsRow w1.heap.size TV 4 (.slice q h.vs.length c2) h.vs.length (h.vs.flatMap aE):=hv.kept hR9 (.inr (oO hv B2 (by decide)))
 clear hw9 hR9 z0 zf0 z1 zf1 z2 zf2 z3 zf3 z4 zf4 z5 zf5 z6 zf6 z7 zf7 z8 zf8 z9 zf9
 obtain⟨y0,y1,y2,y3,y4,y5,y6,y7,y8,y9⟩:=(Y9).ten
 exact bodyPost_ret (v:= .agg #[.int .i64 h.aA,.int .i64 h.aB,.slice p h.cells.length cap,.int .i64 h.free,.int .i64 h.step,.int .i64 h.aD,.int .i64 h.aH,.int .i64 h.aC,.int .i64 h.aI,.slice q h.vs.length c2]) (by simp[results,Tryz.results45,go_sem, *]) rfl ⟨h,p,cap,q,c2,rfl,hs1,hs2,⟨Sl.own o9,Sl.own v9⟩,X9⟩
end Go.Proofs.YteejdnmmpmcmeaaGreatDoor
