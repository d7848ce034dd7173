/-
  Texts of this proof, packed (@packed).
-/
import Derived.Test.YtgnkoffndhmhpaaGreatDoorP1
import Derived.Test.YtgnkoffndhmhpaaGreatDoorP3
import Derived.Test.YtgnkoffndhmhpaaGreatDoorP5
import Derived.Test.YtgnkoffndhmhpaaGreatDoorP19
import Derived.Test.YtgnkoffndhmhpaaGreatDoorP26
namespace Go.Proofs.YtgnkoffndhmhpaaGreatDoor
open Go.RowKit
set_option linter.unusedVariables false
set_option linter.unusedSimpArgs false
set_option maxHeartbeats 64000000
set_option maxRecDepth 100000
theorem mQ (R k:Nat)(n:Int)(w:World)(hr0:Rand w R k)(hk:k≤1099511500000)(hn0:0≤n)(hn1:n≤1000000):
  Calls Tryz.prog 65 #[.pointer (some ⟨R,0,none⟩),n] w (aH0 R k w):=by
 have hR:=hr0.lt
 go_enter Tryz.func65,Tryz.ntmps65
 go_wp2_with fail
 refine(cN R k 2 _ (hr0.ext (by exact .alloc (.refl _) _)) (by omega)).mono ?_
 rintro e w1 ⟨x,rfl,xa,xb,r1,x1⟩
 have M1:=(((MemR.start R w hR).bn aL #[(),(),((),()),(),(),(),(),(),(),((),())] (w.heap.size)).pickd x1)
 clear x1
 have an:=M1.hi 0
 go_wp2_with fail
 refine(cN R (k+1) (2) _ r1 (by omega)).mono ?_
 rintro e w2 ⟨y,rfl,ya,yb,r2,yx⟩
 have M2:=(M1.pickd yx)
 clear yx M1 an
 have ao:=M2.hi 0
 have i1:IntKind.i64.wrap (2+x)=2+x:=IntWalk.i64_in _ (by omega)
 have i2:IntKind.i64.wrap (2+y)=2+y:=IntWalk.i64_in _ (by omega)
 go_wp2_with fail
 refine(vK R (k+1+1) 0 _ r2 (by omega) (by omega) (by omega)).mono ?_
 rintro e w3 ⟨tf,ts,tp,tc,rfl,r3,x3⟩
 have M3:=(M2.pickd x3)
 clear x3 M2 ao
 have o:=M3.hi 0
 go_wp2_with fail
 refine(aLf _ _ tf ts tp tc _).mono ?_
 intro e w4 bc
 obtain⟨h0,cf,p0,av,q0,ax,rfl,ho,hv,hx⟩: ∃h0:aO,Good h0∧fM h0 w3 e w4:=⟨_,vN _ _ _ _ _ _,bc⟩
 clear bc i1 i2 xa xb
 have r4:Rand w4 R (k+9):=(r3.ext hx).mono (by omega)
 have ct:=xQ cf
 clear cf r1 r2
 have M4:=(show MemR R w w4 [aJ w.heap.size TI 1 (p0) (h0.cells.length) (av) (ivs h0.cells),aJ w.heap.size TV 4 (q0) (h0.vs.length) (ax) (h0.vs.flatMap aE),aI w.heap.size (w.heap.size) aL #[(),(),((),()),(),(),(),(),(),(),((),())]]from M3.own2 (hx.r R) ho hv (by decide))
 clear ho hv hx r3 M3 o
 have bq:=M4.hi 2
 have c9:w.heap.size≤w4.heap.size:=M4.ext.sz
 go_upto_region 2 with fail
 have r5:Rand (w4.alloc (.cells #[h0.aA,h0.aB,.slice p0 h0.cells.length av,h0.free,h0.step,h0.aD,h0.aG,h0.aC,h0.aF,.slice q0 h0.vs.length ax] aL)) R (k+9):=xN
 have M5:=(M4.bn aL #[h0.aA,h0.aB,.slice p0 h0.cells.length av,h0.free,h0.step,h0.aD,h0.aG,h0.aC,h0.aF,.slice q0 h0.vs.length ax] (w4.heap.size))
 generalize d:(w4.alloc (.cells #[h0.aA,h0.aB,.slice p0 h0.cells.length av,h0.free,h0.step,h0.aD,h0.aG,h0.aC,h0.aF,.slice q0 h0.vs.length ax] aL))=w5
 rw[d]at M5 r5
 clear d r4 M4 bq
 have ab:=M5.hi 0
 have ap:=M5.hi 3
 obtain⟨HB,cu⟩: ∃a,a=w4.heap.size:=⟨_,rfl⟩
 have ce:R<w4.heap.size:=by omega
 rw[←cu]at M5 ce ab⊢
 clear cu c9
 go_wp2_with fail
 refine(cN R (k+9) (24) _ r5 (by omega)).mono ?_
 rintro e w6 ⟨x,rfl,xa,xb,r6,xx⟩
 have M6:=(M5.pickd xx)
 clear xx M5 ab ap
 have bw:=M6.hi 0
 have bt:=M6.hi 3
 obtain⟨j0,rfl⟩:=Int.eq_ofNat_of_zero_le xa
 have bi:j0≤23:=by omega
 clear xa xb
 have MS:=(show MemR R w w6 [aI w.heap.size (HB) aL #[h0.aA,h0.aB,.slice p0 h0.cells.length av,h0.free,h0.step,h0.aD,h0.aG,h0.aC,h0.aF,.slice q0 h0.vs.length ax],aJ w.heap.size TI 1 (p0) (h0.cells.length) (av) (ivs h0.cells),aJ w.heap.size TV 4 (q0) (h0.vs.length) (ax) (h0.vs.flatMap aE),aI w.heap.size (w.heap.size) aL #[(),(),((),()),(),(),(),(),(),(),((),())]]from M6)
 clear M6 bw bt
 go_wp2
 go_loopw [6] (fun i wr=> ∃(h:aO) (p:OA) (cap:Nat) (q:OA) (c2 j:Nat),i= .int .i64 (j:Int)∧j≤23∧Good h∧MemR R w wr [aI w.heap.size (HB) aL #[h.aA,h.aB,.slice p h.cells.length cap,h.free,h.step,h.aD,h.aG,h.aC,h.aF,.slice q h.vs.length c2],aJ w.heap.size TI 1 (p) (h.cells.length) (cap) (ivs h.cells),aJ w.heap.size TV 4 (q) (h.vs.length) (c2) (h.vs.flatMap aE),aI w.heap.size (w.heap.size) aL #[(),(),((),()),(),(),(),(),(),(),((),())]]∧Rand wr R (k+20+800*(23-j))) (fun i _=>(intOf i).toNat)
 case atStart=>exact⟨h0,p0,av,q0,ax,j0,rfl,bi,ct.out,MS,r6.mono (by omega)⟩
 case round=>
  clear MS r6 r5 ct
  obtain⟨h,p,cap,q,c2,j,rfl,hj,hg,hM,rr⟩:=hrel
  have M1:=hM
  have HG:=xQ hg
  have dt:=hg.small
  clear hM hg
  have ar:R<wr.heap.size:=rr.lt
  have an:=M1.hi 0
  have a0:=M1.hi 3
  by_cases bi:j=0
  ·skip
   subst bi
   go_wp2_with fail
   refine(aEk R (k+20+800*(23-0)) n _ rr (by omega) hn0 hn1).mono ?_
   rintro e w2 ⟨t,rfl,r2,x2⟩
   clear rr
   have M2:=(M1.pickd x2)
   clear x2 M1 an a0
   have ao:=M2.hi 0
   have aq:=M2.hi 3
   cases t with
   |false=>
    obtain⟨d0,d1,d2,d3,d4,d5,d6,d7,d8,d9⟩:=(M2.bk 0).ten
    obtain⟨f0,am,f1,aj,f2,al,f3,aa,f4,ae,f5,ad,f6,ak,f7,ag,f8,ah,f9,z⟩:=(M2.bk 3).tenf
    obtain⟨f,m⟩:=M2.nq 0 3
    have r9:Rand ((((((((((w2.setCell ⟨w.heap.size,0,none⟩ (.int .i64 h.aA)).setCell ⟨w.heap.size,1,none⟩ (.int .i64 h.aB)).setCell ⟨w.heap.size,2,none⟩ (.slice p h.cells.length cap)).setCell ⟨w.heap.size,3,none⟩ (.int .i64 h.free)).setCell ⟨w.heap.size,4,none⟩ (.int .i64 h.step)).setCell ⟨w.heap.size,5,none⟩ (.int .i64 h.aD)).setCell ⟨w.heap.size,6,none⟩ (.int .i64 h.aG)).setCell ⟨w.heap.size,7,none⟩ (.int .i64 h.aC)).setCell ⟨w.heap.size,8,none⟩ (.int .i64 h.aF)).setCell ⟨w.heap.size,9,none⟩ (.slice q h.vs.length c2)) R (k+20+800*(23-0)+1):=xN
    go_wp2
    clear d0 d1 d2 d3 d4 d5 d6 d7 d8 d9 f0 am f1 aj f2 al f3 aa f4 ae f5 ad f6 ak f7 ag f8 ah f9 z f m ao aq
    have M3:=(M2.put10 (i:=3) rfl (.int .i64 h.aA) (.int .i64 h.aB) (.slice p h.cells.length cap) (.int .i64 h.free) (.int .i64 h.step) (.int .i64 h.aD) (.int .i64 h.aG) (.int .i64 h.aC) (.int .i64 h.aF) (.slice q h.vs.length c2))
    generalize d:World.setCell _ _ _=wz
    rw[d]at M3 r9
    clear d M2
    have o:=M3.hi 0
    have s:=M3.hi 3
    obtain⟨y0,y1,y2,y3,y4,y5,y6,y7,y8,y9⟩:=(M3.bk 3).ten
    exact bodyPost_ret (v:= .agg #[h.aA,h.aB,.slice p h.cells.length cap,h.free,h.step,h.aD,h.aG,h.aC,h.aF,.slice q h.vs.length c2]) (by simp[results,Tryz.results65,go_sem, *]) rfl ⟨h,p,cap,q,c2,rfl,by(try simp only[List.length_append,List.length_singleton]);omega,by(try simp only[List.length_append,List.length_singleton]);omega,by have:=M3.ow 1;simpa using this,by have:=M3.ow 2;simpa using this,r9.mono (by omega),M3.ext⟩
   |true=>
    go_wp2_with fail
    refine(cN R (k+20+800*(23-0)+1) (4) _ r2 (by omega)).mono ?_
    rintro e w3 ⟨x,rfl,xa,xb,r3,xx⟩
    have M3:=(M2.pickd xx)
    clear xx M2 ao aq
    have o:=M3.hi 0
    have s:=M3.hi 3
    have c5:x=0∨x=1∨x=2∨x=3:=by omega
    clear xa xb
    rcases c5 with rfl|rfl|rfl|rfl
    ·skip
     go_wp2_with fail
     refine(cN R (k+20+800*(23-0)+1+1) 2 _ (r3.ext (by exact .alloc (.refl _) _)) (by omega)).mono ?_
     rintro e w4 ⟨y,rfl,ya,yb,r4,x4⟩
     have M4:=((M3.lit TI 1 2 (w3.heap.size) #[(-1:Int),.int .i64 10000] (by simp) (by simp) (by simp[maxLen])).pickd x4)
     clear x4 M3 o s
     have a4:=M4.hi 1
     have a1:=M4.hi 4
     have cv:y=0∨y=1:=by omega
     clear ya yb
     rcases cv with rfl|rfl
     ·skip
      have d7:=(M4.bk 1).cl 7
      have a2:=(M4.bk 1).frozen 7
      have e0:w4.cell? ⟨w3.heap.size,0,none⟩=some (.int .i64 (-1)):=by rw[(M4.ow 0).cellAt 0 (by omega)];rfl
      have e1:w3.heap.size<w4.heap.size:=(M4.hi 0)
      go_upto_region 17 with fail
      clear d7 a2 e0 e1
      have r5:Rand (w4.setCell ⟨HB,7,none⟩ (.int .i64 (-1))) R (k+20+800*(23-0)+1+1+1):=xN
      have M5:=(show MemR R w (w4.setCell ⟨HB,7,none⟩ (.int .i64 (-1))) [aJ w.heap.size TI 1 (some ⟨w3.heap.size,0,none⟩) (2) (2) ([.int .i64 (-1),.int .i64 10000]),aI w.heap.size (HB) aL #[h.aA,h.aB,.slice p h.cells.length cap,h.free,h.step,h.aD,h.aG,(-1:Int),h.aF,.slice q h.vs.length c2],aJ w.heap.size TI 1 (p) (h.cells.length) (cap) (ivs h.cells),aJ w.heap.size TV 4 (q) (h.vs.length) (c2) (h.vs.flatMap aE),aI w.heap.size (w.heap.size) aL #[(),(),((),()),(),(),(),(),(),(),((),())]]from(M4.store (i:=1) rfl 7 (.int .i64 (-1))))
      generalize d:World.setCell _ _ _=w5
      rw[d]at M5 r5
      clear d r4 M4 a4 a1
      have aw:=M5.hi 1
      have au:=M5.hi 4
      obtain⟨d0,d1,d2,d3,d4,d5,d6,d7,d8,d9⟩:=(M5.bk 1).ten
      obtain⟨f0,am,f1,aj,f2,al,f3,aa,f4,ae,f5,ad,f6,ak,f7,ag,f8,ah,f9,z⟩:=(M5.bk 4).tenf
      obtain⟨f,m⟩:=M5.nq 1 4
      have r9:Rand ((((((((((w5.setCell ⟨w.heap.size,0,none⟩ (.int .i64 h.aA)).setCell ⟨w.heap.size,1,none⟩ (.int .i64 h.aB)).setCell ⟨w.heap.size,2,none⟩ (.slice p h.cells.length cap)).setCell ⟨w.heap.size,3,none⟩ (.int .i64 h.free)).setCell ⟨w.heap.size,4,none⟩ (.int .i64 h.step)).setCell ⟨w.heap.size,5,none⟩ (.int .i64 h.aD)).setCell ⟨w.heap.size,6,none⟩ (.int .i64 h.aG)).setCell ⟨w.heap.size,7,none⟩ (.int .i64 (-1))).setCell ⟨w.heap.size,8,none⟩ (.int .i64 h.aF)).setCell ⟨w.heap.size,9,none⟩ (.slice q h.vs.length c2)) R (k+20+800*(23-0)+1+1+1):=xN
      go_wp2
      clear d0 d1 d2 d3 d4 d5 d6 d7 d8 d9 f0 am f1 aj f2 al f3 aa f4 ae f5 ad f6 ak f7 ag f8 ah f9 z f m aw au
      have M6:=(M5.put10 (i:=4) rfl (.int .i64 h.aA) (.int .i64 h.aB) (.slice p h.cells.length cap) (.int .i64 h.free) (.int .i64 h.step) (.int .i64 h.aD) (.int .i64 h.aG) (.int .i64 (-1)) (.int .i64 h.aF) (.slice q h.vs.length c2))
      generalize d:World.setCell _ _ _=wz
      rw[d]at M6 r9
      clear d M5
      have b2:=M6.hi 1
      have bm:=M6.hi 4
      obtain⟨y0,y1,y2,y3,y4,y5,y6,y7,y8,y9⟩:=(M6.bk 4).ten
      exact bodyPost_ret (v:= .agg #[h.aA,h.aB,.slice p h.cells.length cap,h.free,h.step,h.aD,h.aG,(-1:Int),h.aF,.slice q h.vs.length c2]) (by simp[results,Tryz.results65,go_sem, *]) rfl ⟨{h with aC:= -1},p,cap,q,c2,rfl,by(try simp only[List.length_append,List.length_singleton]);omega,by(try simp only[List.length_append,List.length_singleton]);omega,by have:=M6.ow 2;simpa using this,by have:=M6.ow 3;simpa using this,r9.mono (by omega),M6.ext⟩
     ·skip
      have d7:=(M4.bk 1).cl 7
      have a2:=(M4.bk 1).frozen 7
      have e0:w4.cell? ⟨w3.heap.size,1,none⟩=some (.int .i64 (10000)):=by rw[(M4.ow 0).cellAt 1 (by omega)];rfl
      have e1:w3.heap.size<w4.heap.size:=(M4.hi 0)
      go_upto_region 17 with fail
      clear d7 a2 e0 e1
      have r5:Rand (w4.setCell ⟨HB,7,none⟩ (.int .i64 (10000))) R (k+20+800*(23-0)+1+1+1):=xN
      have M5:=(show MemR R w (w4.setCell ⟨HB,7,none⟩ (.int .i64 (10000))) [aJ w.heap.size TI 1 (some ⟨w3.heap.size,0,none⟩) (2) (2) ([.int .i64 (-1),.int .i64 10000]),aI w.heap.size (HB) aL #[h.aA,h.aB,.slice p h.cells.length cap,h.free,h.step,h.aD,h.aG,(10000:Int),h.aF,.slice q h.vs.length c2],aJ w.heap.size TI 1 (p) (h.cells.length) (cap) (ivs h.cells),aJ w.heap.size TV 4 (q) (h.vs.length) (c2) (h.vs.flatMap aE),aI w.heap.size (w.heap.size) aL #[(),(),((),()),(),(),(),(),(),(),((),())]]from(M4.store (i:=1) rfl 7 (.int .i64 (10000))))
      generalize d:World.setCell _ _ _=w5
      rw[d]at M5 r5
      clear d r4 M4 a4 a1
      have aw:=M5.hi 1
      have au:=M5.hi 4
      obtain⟨d0,d1,d2,d3,d4,d5,d6,d7,d8,d9⟩:=(M5.bk 1).ten
      obtain⟨f0,am,f1,aj,f2,al,f3,aa,f4,ae,f5,ad,f6,ak,f7,ag,f8,ah,f9,z⟩:=(M5.bk 4).tenf
      obtain⟨f,m⟩:=M5.nq 1 4
      have r9:Rand ((((((((((w5.setCell ⟨w.heap.size,0,none⟩ (.int .i64 h.aA)).setCell ⟨w.heap.size,1,none⟩ (.int .i64 h.aB)).setCell ⟨w.heap.size,2,none⟩ (.slice p h.cells.length cap)).setCell ⟨w.heap.size,3,none⟩ (.int .i64 h.free)).setCell ⟨w.heap.size,4,none⟩ (.int .i64 h.step)).setCell ⟨w.heap.size,5,none⟩ (.int .i64 h.aD)).setCell ⟨w.heap.size,6,none⟩ (.int .i64 h.aG)).setCell ⟨w.heap.size,7,none⟩ (.int .i64 (10000))).setCell ⟨w.heap.size,8,none⟩ (.int .i64 h.aF)).setCell ⟨w.heap.size,9,none⟩ (.slice q h.vs.length c2)) R (k+20+800*(23-0)+1+1+1):=xN
      go_wp2
      clear d0 d1 d2 d3 d4 d5 d6 d7 d8 d9 f0 am f1 aj f2 al f3 aa f4 ae f5 ad f6 ak f7 ag f8 ah f9 z f m aw au
      have M6:=(M5.put10 (i:=4) rfl (.int .i64 h.aA) (.int .i64 h.aB) (.slice p h.cells.length cap) (.int .i64 h.free) (.int .i64 h.step) (.int .i64 h.aD) (.int .i64 h.aG) (.int .i64 (10000)) (.int .i64 h.aF) (.slice q h.vs.length c2))
      generalize d:World.setCell _ _ _=wz
      rw[d]at M6 r9
      clear d M5
      have b2:=M6.hi 1
      have bm:=M6.hi 4
      obtain⟨y0,y1,y2,y3,y4,y5,y6,y7,y8,y9⟩:=(M6.bk 4).ten
      exact bodyPost_ret (v:= .agg #[h.aA,h.aB,.slice p h.cells.length cap,h.free,h.step,h.aD,h.aG,(10000:Int),h.aF,.slice q h.vs.length c2]) (by simp[results,Tryz.results65,go_sem, *]) rfl ⟨{h with aC:=10000},p,cap,q,c2,rfl,by(try simp only[List.length_append,List.length_singleton]);omega,by(try simp only[List.length_append,List.length_singleton]);omega,by have:=M6.ow 2;simpa using this,by have:=M6.ow 3;simpa using this,r9.mono (by omega),M6.ext⟩
    ·skip
     have d8:=(M3.bk 0).cl 8
     have bx:=(M3.bk 0).frozen 8
     go_upto_region 17 with fail
     clear d8 bx
     have r5:Rand (w3.setCell ⟨HB,8,none⟩ (.int .i64 (-1))) R (k+20+800*(23-0)+1+1):=xN
     have M4:=(show MemR R w (w3.setCell ⟨HB,8,none⟩ (.int .i64 (-1))) [aI w.heap.size (HB) aL #[h.aA,h.aB,.slice p h.cells.length cap,h.free,h.step,h.aD,h.aG,h.aC,(-1:Int),.slice q h.vs.length c2],aJ w.heap.size TI 1 (p) (h.cells.length) (cap) (ivs h.cells),aJ w.heap.size TV 4 (q) (h.vs.length) (c2) (h.vs.flatMap aE),aI w.heap.size (w.heap.size) aL #[(),(),((),()),(),(),(),(),(),(),((),())]]from(M3.store (i:=0) rfl 8 (.int .i64 (-1))))
     generalize d:World.setCell _ _ _=w5
     rw[d]at M4 r5
     clear d r3 M3 o s
     have af:=M4.hi 0
     have ai:=M4.hi 3
     obtain⟨d0,d1,d2,d3,d4,d5,d6,d7,d8,d9⟩:=(M4.bk 0).ten
     obtain⟨f0,am,f1,aj,f2,al,f3,aa,f4,ae,f5,ad,f6,ak,f7,ag,f8,ah,f9,z⟩:=(M4.bk 3).tenf
     obtain⟨f,m⟩:=M4.nq 0 3
     have r9:Rand ((((((((((w5.setCell ⟨w.heap.size,0,none⟩ (.int .i64 h.aA)).setCell ⟨w.heap.size,1,none⟩ (.int .i64 h.aB)).setCell ⟨w.heap.size,2,none⟩ (.slice p h.cells.length cap)).setCell ⟨w.heap.size,3,none⟩ (.int .i64 h.free)).setCell ⟨w.heap.size,4,none⟩ (.int .i64 h.step)).setCell ⟨w.heap.size,5,none⟩ (.int .i64 h.aD)).setCell ⟨w.heap.size,6,none⟩ (.int .i64 h.aG)).setCell ⟨w.heap.size,7,none⟩ (.int .i64 h.aC)).setCell ⟨w.heap.size,8,none⟩ (.int .i64 (-1))).setCell ⟨w.heap.size,9,none⟩ (.slice q h.vs.length c2)) R (k+20+800*(23-0)+1+1):=xN
     go_wp2
     clear d0 d1 d2 d3 d4 d5 d6 d7 d8 d9 f0 am f1 aj f2 al f3 aa f4 ae f5 ad f6 ak f7 ag f8 ah f9 z f m af ai
     have M5:=(M4.put10 (i:=3) rfl (.int .i64 h.aA) (.int .i64 h.aB) (.slice p h.cells.length cap) (.int .i64 h.free) (.int .i64 h.step) (.int .i64 h.aD) (.int .i64 h.aG) (.int .i64 h.aC) (.int .i64 (-1)) (.slice q h.vs.length c2))
     generalize d:World.setCell _ _ _=wz
     rw[d]at M5 r9
     clear d M4
     have ab:=M5.hi 0
     have ap:=M5.hi 3
     obtain⟨y0,y1,y2,y3,y4,y5,y6,y7,y8,y9⟩:=(M5.bk 3).ten
     exact bodyPost_ret (v:= .agg #[h.aA,h.aB,.slice p h.cells.length cap,h.free,h.step,h.aD,h.aG,h.aC,(-1:Int),.slice q h.vs.length c2]) (by simp[results,Tryz.results65,go_sem, *]) rfl ⟨{h with aF:= -1},p,cap,q,c2,rfl,by(try simp only[List.length_append,List.length_singleton]);omega,by(try simp only[List.length_append,List.length_singleton]);omega,by have:=M5.ow 1;simpa using this,by have:=M5.ow 2;simpa using this,r9.mono (by omega),M5.ext⟩
    ·skip
     have d9:=(M3.bk 0).cl 9
     have bg:=(M3.bk 0).frozen 9
     go_upto_region 17 with(at_builtin;refine rY rR rfl _ _ rfl (M3.adv ((Ext.refl _).alloc (.cells #[.int .i64 98,(),(),()] TV))) 2 rfl rfl (aE (98,0,0,0)) rfl (dY _ _ _ 1 4 _ (by first|rfl|simp) (by first|rfl|simp) (by simp[maxLen])) (oB _) (by omega) ?_;intro q7 c7 w7 bj bu;have M7:=xQ (show MemR R w w7 [aI w.heap.size (HB) aL #[h.aA,h.aB,.slice p h.cells.length cap,h.free,h.step,h.aD,h.aG,h.aC,h.aF,.slice q h.vs.length c2],aJ w.heap.size TI 1 (p) (h.cells.length) (cap) (ivs h.cells),aJ w.heap.size TV 4 (q7) (h.vs.length+1) (c7) (h.vs.flatMap aE++aE (98,0,0,0)),aI w.heap.size (w.heap.size) aL #[(),(),((),()),(),(),(),(),(),(),((),())]]from bj);have r7:Rand w7 R (k+20+800*(23-0)+1+1):=bu _ xN;have g9:w7.cell? ⟨HB,9,none⟩=some (.slice q h.vs.length c2):=(M7.out.bk 0).cell 9;have dl:w7.frozen? ⟨HB,9,none⟩=false:=(M7.out.bk 0).frozen 9)
     clear d9 bg o s
     have o:=M7.out.hi 0
     have s:=M7.out.hi 3
     have r5:Rand (w7.setCell ⟨HB,9,none⟩ (.slice q7 (h.vs.length+1) c7)) R (k+20+800*(23-0)+1+1):=xN
     have M4:=(show MemR R w (w7.setCell ⟨HB,9,none⟩ (.slice q7 (h.vs.length+1) c7)) [aI w.heap.size (HB) aL #[h.aA,h.aB,.slice p h.cells.length cap,h.free,h.step,h.aD,h.aG,h.aC,h.aF,.slice q7 (h.vs.length+1) c7],aJ w.heap.size TI 1 (p) (h.cells.length) (cap) (ivs h.cells),aJ w.heap.size TV 4 (q7) (h.vs.length+1) (c7) (h.vs.flatMap aE++aE (98,0,0,0)),aI w.heap.size (w.heap.size) aL #[(),(),((),()),(),(),(),(),(),(),((),())]]from(M7.out.store (i:=0) rfl 9 (.slice q7 (h.vs.length+1) c7)))
     generalize d:World.setCell _ _ _=w5
     rw[d]at M4 r5
     clear d r7 M7 o s
     have af:=M4.hi 0
     have ai:=M4.hi 3
     obtain⟨d0,d1,d2,d3,d4,d5,d6,d7,d8,d9⟩:=(M4.bk 0).ten
     obtain⟨f0,am,f1,aj,f2,al,f3,aa,f4,ae,f5,ad,f6,ak,f7,ag,f8,ah,f9,z⟩:=(M4.bk 3).tenf
     obtain⟨f,m⟩:=M4.nq 0 3
     have r9:Rand ((((((((((w5.setCell ⟨w.heap.size,0,none⟩ (.int .i64 h.aA)).setCell ⟨w.heap.size,1,none⟩ (.int .i64 h.aB)).setCell ⟨w.heap.size,2,none⟩ (.slice p h.cells.length cap)).setCell ⟨w.heap.size,3,none⟩ (.int .i64 h.free)).setCell ⟨w.heap.size,4,none⟩ (.int .i64 h.step)).setCell ⟨w.heap.size,5,none⟩ (.int .i64 h.aD)).setCell ⟨w.heap.size,6,none⟩ (.int .i64 h.aG)).setCell ⟨w.heap.size,7,none⟩ (.int .i64 h.aC)).setCell ⟨w.heap.size,8,none⟩ (.int .i64 h.aF)).setCell ⟨w.heap.size,9,none⟩ (.slice q7 (h.vs.length+1) c7)) R (k+20+800*(23-0)+1+1):=xN
     go_wp2
     clear d0 d1 d2 d3 d4 d5 d6 d7 d8 d9 f0 am f1 aj f2 al f3 aa f4 ae f5 ad f6 ak f7 ag f8 ah f9 z f m af ai
     have M5:=(M4.put10 (i:=3) rfl (.int .i64 h.aA) (.int .i64 h.aB) (.slice p h.cells.length cap) (.int .i64 h.free) (.int .i64 h.step) (.int .i64 h.aD) (.int .i64 h.aG) (.int .i64 h.aC) (.int .i64 h.aF) (.slice q7 (h.vs.length+1) c7))
     generalize d:World.setCell _ _ _=wz
     rw[d]at M5 r9
     clear d M4
     have ab:=M5.hi 0
     have ap:=M5.hi 3
     obtain⟨y0,y1,y2,y3,y4,y5,y6,y7,y8,y9⟩:=(M5.bk 3).ten
     exact bodyPost_ret (v:= .agg #[h.aA,h.aB,.slice p h.cells.length cap,h.free,h.step,h.aD,h.aG,h.aC,h.aF,.slice q7 (h.vs.length+1) c7]) (by simp[results,Tryz.results65,go_sem, *]) rfl ⟨{h with vs:=h.vs++ [(98,0,0,0)]},p,cap,q7,c7,by simp[bK],by(try simp only[List.length_append,List.length_singleton]);omega,by(try simp only[List.length_append,List.length_singleton]);omega,by have:=M5.ow 1;simpa using this,by have:=M5.ow 2;simpa using this,r9.mono (by omega),M5.ext⟩
    ·skip
     have d2:=(M3.bk 0).cl 2
     have bf:=(M3.bk 0).frozen 2
     go_upto_region 17 with(at_builtin;refine rY eS rfl _ _ rfl (M3.adv ((Ext.refl _).alloc (.cells #[()] TI))) 1 rfl rfl ([.int .i64 0]) rfl (dY _ _ _ 1 1 _ (by first|rfl|simp) (by first|rfl|simp) (by simp[maxLen])) (fun u hu=>by obtain rfl:=List.mem_singleton.1 hu;rfl) (by omega) ?_;intro q7 c7 w7 bj bu;have M7:=xQ (show MemR R w w7 [aI w.heap.size (HB) aL #[h.aA,h.aB,.slice p h.cells.length cap,h.free,h.step,h.aD,h.aG,h.aC,h.aF,.slice q h.vs.length c2],aJ w.heap.size TI 1 (q7) (h.cells.length+1) (c7) (ivs h.cells++ [.int .i64 0]),aJ w.heap.size TV 4 (q) (h.vs.length) (c2) (h.vs.flatMap aE),aI w.heap.size (w.heap.size) aL #[(),(),((),()),(),(),(),(),(),(),((),())]]from bj);have r7:Rand w7 R (k+20+800*(23-0)+1+1):=bu _ xN;have g2:w7.cell? ⟨HB,2,none⟩=some (.slice p h.cells.length cap):=(M7.out.bk 0).cell 2;have dq:w7.frozen? ⟨HB,2,none⟩=false:=(M7.out.bk 0).frozen 2)
     clear d2 bf o s
     have o:=M7.out.hi 0
     have s:=M7.out.hi 3
     have r5:Rand (w7.setCell ⟨HB,2,none⟩ (.slice q7 (h.cells.length+1) c7)) R (k+20+800*(23-0)+1+1):=xN
     have M4:=(show MemR R w (w7.setCell ⟨HB,2,none⟩ (.slice q7 (h.cells.length+1) c7)) [aI w.heap.size (HB) aL #[h.aA,h.aB,.slice q7 (h.cells.length+1) c7,h.free,h.step,h.aD,h.aG,h.aC,h.aF,.slice q h.vs.length c2],aJ w.heap.size TI 1 (q7) (h.cells.length+1) (c7) (ivs h.cells++ [.int .i64 0]),aJ w.heap.size TV 4 (q) (h.vs.length) (c2) (h.vs.flatMap aE),aI w.heap.size (w.heap.size) aL #[(),(),((),()),(),(),(),(),(),(),((),())]]from(M7.out.store (i:=0) rfl 2 (.slice q7 (h.cells.length+1) c7)))
     generalize d:World.setCell _ _ _=w5
     rw[d]at M4 r5
     clear d r7 M7 o s
     have af:=M4.hi 0
     have ai:=M4.hi 3
     obtain⟨d0,d1,d2,d3,d4,d5,d6,d7,d8,d9⟩:=(M4.bk 0).ten
     obtain⟨f0,am,f1,aj,f2,al,f3,aa,f4,ae,f5,ad,f6,ak,f7,ag,f8,ah,f9,z⟩:=(M4.bk 3).tenf
     obtain⟨f,m⟩:=M4.nq 0 3
     have r9:Rand ((((((((((w5.setCell ⟨w.heap.size,0,none⟩ (.int .i64 h.aA)).setCell ⟨w.heap.size,1,none⟩ (.int .i64 h.aB)).setCell ⟨w.heap.size,2,none⟩ (.slice q7 (h.cells.length+1) c7)).setCell ⟨w.heap.size,3,none⟩ (.int .i64 h.free)).setCell ⟨w.heap.size,4,none⟩ (.int .i64 h.step)).setCell ⟨w.heap.size,5,none⟩ (.int .i64 h.aD)).setCell ⟨w.heap.size,6,none⟩ (.int .i64 h.aG)).setCell ⟨w.heap.size,7,none⟩ (.int .i64 h.aC)).setCell ⟨w.heap.size,8,none⟩ (.int .i64 h.aF)).setCell ⟨w.heap.size,9,none⟩ (.slice q h.vs.length c2)) R (k+20+800*(23-0)+1+1):=xN
     go_wp2
     clear d0 d1 d2 d3 d4 d5 d6 d7 d8 d9 f0 am f1 aj f2 al f3 aa f4 ae f5 ad f6 ak f7 ag f8 ah f9 z f m af ai
     have M5:=(M4.put10 (i:=3) rfl (.int .i64 h.aA) (.int .i64 h.aB) (.slice q7 (h.cells.length+1) c7) (.int .i64 h.free) (.int .i64 h.step) (.int .i64 h.aD) (.int .i64 h.aG) (.int .i64 h.aC) (.int .i64 h.aF) (.slice q h.vs.length c2))
     generalize d:World.setCell _ _ _=wz
     rw[d]at M5 r9
     clear d M4
     have ab:=M5.hi 0
     have ap:=M5.hi 3
     obtain⟨y0,y1,y2,y3,y4,y5,y6,y7,y8,y9⟩:=(M5.bk 3).ten
     exact bodyPost_ret (v:= .agg #[h.aA,h.aB,.slice q7 (h.cells.length+1) c7,h.free,h.step,h.aD,h.aG,h.aC,h.aF,.slice q h.vs.length c2]) (by simp[results,Tryz.results65,go_sem, *]) rfl ⟨{h with cells:=h.cells++ [0]},q7,c7,q,c2,by simp[bK],by(try simp only[List.length_append,List.length_singleton]);omega,by(try simp only[List.length_append,List.length_singleton]);omega,by have:=M5.ow 1;simpa using this,by have:=M5.ow 2;simpa using this,r9.mono (by omega),M5.ext⟩
  ·obtain⟨j,rfl⟩: ∃i,j=i+1:=⟨j-1,by omega⟩
   have i1:decide ((0:Int)<((j+1:Nat):Int))=true:=by first|(simp;done)|(simp;omega)
   have i2:decide ((0:Int)<(j:Int)+1)=true:=by first|(simp;done)|(simp;omega)
   have B0:=xQ (M1.bk 0)
   obtain⟨cs,ck,cg,b6,cq,co,b7,ca,cd,cp⟩:=(M1.bk 0).ten
   have n1: ¬(HB=wr.heap.size):=by omega
   have n2: ¬(wr.heap.size=HB):=by omega
   have dk:HB<wr.heap.size:=by omega
   have b5:=xQ fun(w':World) (kk:Nat) (hkk:kk≤1099511600000) (hx:ExtR R wr w') (hr:Rand w' R kk)=>lY R kk h p cap q c2 w' hr hkk (by omega) (mO (i:=1) (j:=2) (M1.pickd hx) rfl rfl) (qA (i:=1) M1 rfl) (qA (i:=2) M1 rfl)
   have bo:=xQ fun(w':World) (hx:ExtR R wr w') (a b c:Int)=>yS h HG a b c p _ cap q _ c2 w' (mO (i:=1) (j:=2) (M1.pickd hx) rfl rfl)
   unfold zJ at b5
   unfold aF5 at bo
   go_wp2
   refine sI (gl [gEq (.agg #[h.aA,h.aB,.slice p h.cells.length cap,h.free,h.step,h.aD,h.aG,h.aC,h.aF,.slice q h.vs.length c2]),gEq (.pointer (some ⟨R,0,none⟩)),gEq (.agg #[h.aA,h.aB,.slice p h.cells.length cap,h.free,h.step,h.aD,h.aG,h.aC,h.aF,.slice q h.vs.length c2]),(fun v _=> ∃a b c:Int,v=jC a b c),(fun v w'=> ∃(h':aO) (p':OA) (cap':Nat) (q':OA) (c2':Nat) (nn:Int) (ok:Bool),v= .tuple #[bK h' p' h'.cells.length cap' q' h'.vs.length c2',nn,.bool ok]∧Good h'∧w'.ownsRow wr.heap.size TI 1 (.slice p' h'.cells.length cap') h'.cells.length (ivs h'.cells)∧w'.ownsRow wr.heap.size TV 4 (.slice q' h'.vs.length c2') h'.vs.length (h'.vs.flatMap aE)),(fun v w'=> ∃(h':aO) (p':OA) (cap':Nat) (q':OA) (c2':Nat) (nn:Int) (ok:Bool),v= .tuple #[bK h' p' h'.cells.length cap' q' h'.vs.length c2',nn,.bool ok]∧Good h'∧w'.ownsRow wr.heap.size TI 1 (.slice p' h'.cells.length cap') h'.cells.length (ivs h'.cells)∧w'.ownsRow wr.heap.size TV 4 (.slice q' h'.vs.length c2') h'.vs.length (h'.vs.flatMap aE)),(fun v w'=> ∃(h':aO) (p':OA) (cap':Nat) (q':OA) (c2':Nat),v=bK h' p' h'.cells.length cap' q' h'.vs.length c2'∧Good h'∧w'.ownsRow wr.heap.size TI 1 (.slice p' h'.cells.length cap') h'.cells.length (ivs h'.cells)∧w'.ownsRow wr.heap.size TV 4 (.slice q' h'.vs.length c2') h'.vs.length (h'.vs.flatMap aE)),rN,aJ5,(fun v w'=> ∃a:Nat,v= .pointer (some ⟨a,0,none⟩)∧wr.heap.size≤a∧oA wr.heap.size w' a),(fun _ _=>True),rN,aJ5]) (RG R wr.heap.size) R (k+20+800*(23-(j+1))) 60 13 (by kernel_rfl) rfl (by kernel_rfl) (by kernel_rfl) (by kernel_rfl) rr (fun w=>RG.refl _ _ w) (fun _ _ _=>RG.trans ar) (aBh (eQ (oN _) (eQ (oN _) (eQ (oN _) (eQ (fun _ _ _ h _=>h) (eQ (fun v w w' ⟨h',p',cap',q',c2',nn,ok,e,g,a,b⟩ hx=>⟨h',p',cap',q',c2',nn,ok,e,g,hx.own a ar (by decide),hx.own b ar (by decide)⟩) (eQ (fun v w w' ⟨h',p',cap',q',c2',nn,ok,e,g,a,b⟩ hx=>⟨h',p',cap',q',c2',nn,ok,e,g,hx.own a ar (by decide),hx.own b ar (by decide)⟩) (eQ (fun v w w' ⟨h',p',cap',q',c2',e,g,a,b⟩ hx=>⟨h',p',cap',q',c2',e,g,hx.own a ar (by decide),hx.own b ar (by decide)⟩) (eQ (pM) (eQ (sQ) (eQ (fun v w w' ⟨a,e,l,hb⟩ hx=>⟨a,e,l,hx.house ar l hb⟩) (eQ (aE2) (eQ (pM) (eQ (sQ) (aEo))))))))))))))) rfl (k:=13) (by kernel_rfl) (by decide) (ls:= [(0,some 26),(1,some 27),(2,some 28),(3,some 29),(4,some 30),(5,some 25),(6,some 31),(7,some 32),(8,some 33),(9,some 7),(10,none),(11,some 8),(12,some 9)]) (by kernel_rfl) (ir:= [0,1,2,3,4,5,6,7,8,9,10,11,12]) (by kernel_rfl) ?steps (tl:=#[true,true,true,true,true,true,true,true,true,true,true,true,true]) (by kernel_rfl) ?fin
   case steps=>
    refine sCx [] rfl (fun wi kk hx hr hkk=> ?_) ?_
    ·intro K hK
     obtain⟨cs,ck,cg,b6,cq,co,b7,ca,cd,cp⟩:=(hx.extR.blk B0 (by omega)).ten
     go_simp
     exact hK _ _ ⟨.agg #[h.aA,h.aB,.slice p h.cells.length cap,h.free,h.step,h.aD,h.aG,h.aC,h.aF,.slice q h.vs.length c2],rfl,rfl,⟨RG.refl _ _ _,hr.mono (by omega)⟩⟩
    refine sCx [] rfl (fun wi kk hx hr hkk=> ?_) ?_
    ·intro K hK
     go_simp
     exact hK _ _ ⟨.pointer (some ⟨R,0,none⟩),rfl,rfl,⟨RG.refl _ _ _,hr.mono (by omega)⟩⟩
    refine sCx [] rfl (fun wi kk hx hr hkk=> ?_) ?_
    ·intro K hK
     obtain⟨cs,ck,cg,b6,cq,co,b7,ca,cd,cp⟩:=(hx.extR.blk B0 (by omega)).ten
     go_simp
     exact hK _ _ ⟨.agg #[h.aA,h.aB,.slice p h.cells.length cap,h.free,h.step,h.aD,h.aG,h.aC,h.aF,.slice q h.vs.length c2],rfl,rfl,⟨RG.refl _ _ _,hr.mono (by omega)⟩⟩
    refine sCx [(1,some 27),(2,some 28)] rfl (fun wi kk hx hr hkk=> ?_) ?_
    ·intro v1 h1 v2 h2 K hK
     obtain rfl:=h1
     obtain rfl:=h2
     go_wp2_with fail
     refine(b5 _ kk (by omega) hx.extR hr).mono ?_
     rintro e w5 ⟨da,db,dc,rfl,r5,x5⟩
     go_simp
     exact hK _ _ ⟨jC da db dc,rfl,⟨da,db,dc,rfl⟩,⟨RG.ofR x5,r5⟩⟩
    refine sCx [(0,some 26),(3,some 29)] rfl (fun wi kk hx hr hkk=> ?_) ?_
    ·intro v0 h0 v3 h3 K hK
     obtain rfl:=h0
     obtain⟨ci,b9,cj,rfl⟩:=h3
     go_wp2_with fail
     refine(bo _ hx.extR ci b9 cj).mono ?_
     rintro e w6 ⟨h',p',cap',q',c2',nn,ok,rfl,a7,a6,ba,ch⟩
     have bb:wr.heap.size≤wi.heap.size:=hx.extR.sz
     go_simp
     exact hK _ _ ⟨_,rfl,⟨h',p',cap',q',c2',nn,ok,rfl,a7,bH a6 bb,bH ba bb⟩,⟨RG.ofE ch,(hr.ext ch).mono (by omega)⟩⟩
    refine sCx [(4,some 30)] rfl (fun wi kk hx hr hkk=> ?_) ?_
    ·intro v4 h4 K hK
     obtain⟨h4,p4,bd,q4,cc,cr,cb,rfl,bh,b0,bp⟩:=h4
     go_simp
     exact hK _ _ ⟨_,rfl,⟨h4,p4,bd,q4,cc,cr,cb,rfl,bh,b0,bp⟩,⟨RG.refl _ _ _,hr.mono (by omega)⟩⟩
    refine sCx [(5,some 25)] rfl (fun wi kk hx hr hkk=> ?_) ?_
    ·intro v5 h5 K hK
     obtain⟨h5,p5,ay,q5,a8,be,b4,rfl,az,a5,a3⟩:=h5
     go_simp
     exact hK _ _ ⟨_,rfl,⟨h5,p5,ay,q5,a8,rfl,az,a5,a3⟩,⟨RG.refl _ _ _,hr.mono (by omega)⟩⟩
    refine sCx [(5,some 25)] rfl (fun wi kk hx hr hkk=> ?_) ?_
    ·intro v5 h5 K hK
     obtain⟨h5,p5,ay,q5,a8,be,b4,rfl,az,a5,a3⟩:=h5
     go_simp
     exact hK _ _ ⟨_,rfl,⟨_,rfl⟩,⟨RG.refl _ _ _,hr.mono (by omega)⟩⟩
    refine sCx [(5,some 25)] rfl (fun wi kk hx hr hkk=> ?_) ?_
    ·intro v5 h5 K hK
     obtain⟨h5,p5,ay,q5,a8,be,b4,rfl,az,a5,a3⟩:=h5
     go_simp
     exact hK _ _ ⟨_,rfl,⟨_,rfl⟩,⟨RG.refl _ _ _,hr.mono (by omega)⟩⟩
    refine sCx [] rfl (fun wi kk hx hr hkk=> ?_) ?_
    ·intro K hK
     have bb:wr.heap.size≤wi.heap.size:=hx.extR.sz
     go_simp
     exact hK _ _ ⟨.pointer (some ⟨wi.heap.size,0,none⟩),rfl,⟨wi.heap.size,rfl,bb,yT wi⟩,⟨RG.ofE ((Ext.refl _).alloc _),(hr.alloc _).mono (by omega)⟩⟩
    refine sCx [(6,some 31),(9,some 7)] rfl (fun wi kk hx hr hkk=> ?_) ?_
    ·intro v6 h6 v9 h9 K hK
     obtain⟨h6,p6,cm,q6,cw,rfl,bz,br,b1⟩:=h6
     obtain⟨a9,rfl,bl,b3⟩:=h9
     obtain⟨hz,pz,dj,qz,cz,BZ,_⟩:=b3
     obtain⟨z0,eb,z1,dn,z2,dw,z3,ec,z4,ds,z5,dx,z6,du,z7,dr,z8,ea,z9,dy⟩:=BZ.tenf
     go_simp
     generalize c6:World.setCell _ _ _=w9
     obtain⟨Y9,cn⟩:=BZ.putr c6
     have r9:Rand w9 R kk:=tY hr cn (fun g e=>by injection e with e;omega)
     exact hK _ _ ⟨undef,rfl,trivial,⟨RG.put cn bl BZ Y9 bz br b1,r9.mono (by omega)⟩⟩
    refine sCx [(7,some 32)] rfl (fun wi kk hx hr hkk=> ?_) ?_
    ·intro v7 h7 K hK
     obtain⟨n7,rfl⟩:=h7
     go_simp
     exact hK _ _ ⟨_,rfl,⟨_,rfl⟩,⟨RG.refl _ _ _,hr.mono (by omega)⟩⟩
    refine sCx [(8,some 33)] rfl (fun wi kk hx hr hkk=> ?_) StepsLX.nil
    ·intro v8 h8 K hK
     obtain⟨b8,rfl⟩:=h8
     go_simp
     exact hK _ _ ⟨_,rfl,⟨_,rfl⟩,⟨RG.refl _ _ _,hr.mono (by omega)⟩⟩
   case fin=>
    intro wi hx hr v0 h0 v1 h1 v2 h2 v3 h3 v4 h4 v5 h5 v6 h6 v7 h7 v8 h8 v9 h9 dv c8 dz dg dm dd
    obtain rfl:=h0
    obtain rfl:=h1
    obtain rfl:=h2
    obtain⟨ci,b9,cj,rfl⟩:=h3
    obtain⟨h4,p4,bd,q4,cc,cr,cb,rfl,bh,b0,bp⟩:=h4
    obtain⟨h5,p5,ay,q5,a8,be,b4,rfl,az,a5,a3⟩:=h5
    obtain⟨h6,p6,cm,q6,cw,rfl,bz,br,b1⟩:=h6
    obtain⟨n7,rfl⟩:=h7
    obtain⟨b8,rfl⟩:=h8
    obtain⟨a9,rfl,bl,b3⟩:=h9
    clear c8
    obtain⟨dp,rfl⟩:=dg
    obtain⟨c1,rfl⟩:=dd
    have hE:=hx.extR
    obtain⟨h',p',cap',q',c2',BA,a7,a6,ba⟩:=b3
    have c0:=xQ a7
    have M2:=(show MemR R w wi [aJ w.heap.size TI 1 (p') (h'.cells.length) (cap') (ivs h'.cells),aJ w.heap.size TV 4 (q') (h'.vs.length) (c2') (h'.vs.flatMap aE),aI w.heap.size (a9) aL #[h'.aA,h'.aB,.slice p' h'.cells.length cap',h'.free,h'.step,h'.aD,h'.aG,h'.aC,h'.aF,.slice q' h'.vs.length c2'],aI w.heap.size (HB) aL #[h.aA,h.aB,.slice p h.cells.length cap,h.free,h.step,h.aD,h.aG,h.aC,h.aF,.slice q h.vs.length c2],aJ w.heap.size TI 1 (p) (h.cells.length) (cap) (ivs h.cells),aJ w.heap.size TV 4 (q) (h.vs.length) (c2) (h.vs.flatMap aE),aI w.heap.size (w.heap.size) aL #[(),(),((),()),(),(),(),(),(),(),((),())]]from M1.own2blk hE a6 ba BA bl (by decide) (by decide) (by decide))
    have r2:Rand wi R (k+20+800*(23-j)):=hr.mono (by omega)
    clear a7 a6 ba BA hE hx hr b0 bp a5 a3 br b1 bh az bz M1 b5 bo B0 rr n1 n2 an a0
    have bs:=M2.hi 2
    have aq:=M2.hi 3
    have bv:=M2.hi 6
    refine wpAny_done (by kernel_rfl) ?_ _
    try simp only[Act.put,List.setIfInBounds_toArray,List.set_cons_zero,List.set_cons_succ]
    go_upto_region 6 with fail
    cases c1 with
    |false=>
     go_wp2_with fail
     go_roundw
     case rel=>exact⟨h,p,cap,q,c2,j,by go_num,by omega,HG.out,M2.pick [3,4,5,6] (by decide) rfl,r2⟩
     case measure=>first|(simp[intOf];done)|(simp[intOf];omega)
    |true=>
     obtain⟨e0,e1,e2,e3,e4,e5,e6,e7,e8,e9⟩:=(M2.bk 2).ten
     obtain⟨d0,dh,d1,cy,d2,bf,d3,cx,d4,df,d5,de,d6,c3,d7,a2,d8,bx,d9,bg⟩:=(M2.bk 3).tenf
     obtain⟨f,m⟩:=M2.nq 2 3
     go_upto_region 4 with fail
     clear e0 e1 e2 e3 e4 e5 e6 e7 e8 e9 d0 dh d1 cy d2 bf d3 cx d4 df d5 de d6 c3 d7 a2 d8 bx d9 bg f m
     have r3:Rand ((((((((((wi.setCell ⟨HB,0,none⟩ (.int .i64 h'.aA)).setCell ⟨HB,1,none⟩ (.int .i64 h'.aB)).setCell ⟨HB,2,none⟩ (.slice p' h'.cells.length cap')).setCell ⟨HB,3,none⟩ (.int .i64 h'.free)).setCell ⟨HB,4,none⟩ (.int .i64 h'.step)).setCell ⟨HB,5,none⟩ (.int .i64 h'.aD)).setCell ⟨HB,6,none⟩ (.int .i64 h'.aG)).setCell ⟨HB,7,none⟩ (.int .i64 h'.aC)).setCell ⟨HB,8,none⟩ (.int .i64 h'.aF)).setCell ⟨HB,9,none⟩ (.slice q' h'.vs.length c2')) R (k+20+800*(23-j)):=xN
     clear bs aq bv
     have M3:=(M2.put10 (i:=3) rfl (.int .i64 h'.aA) (.int .i64 h'.aB) (.slice p' h'.cells.length cap') (.int .i64 h'.free) (.int .i64 h'.step) (.int .i64 h'.aD) (.int .i64 h'.aG) (.int .i64 h'.aC) (.int .i64 h'.aF) (.slice q' h'.vs.length c2'))
     generalize d:World.setCell _ _ _=w3
     rw[d]at M3 r3
     clear d r2 M2
     have c4:=M3.hi 2
     have s:=M3.hi 3
     have di:=M3.hi 6
     go_wp2_with fail
     go_roundw
     case rel=>exact⟨h',p',cap',q',c2',j,by go_num,by omega,c0.out,M3.pick [3,0,1,6] (by decide) rfl,r3⟩
     case measure=>first|(simp[intOf];done)|(simp[intOf];omega)
end Go.Proofs.YtgnkoffndhmhpaaGreatDoor
namespace Go.Proofs.YtgnkoffndhmhpaaGreatDoor
open Go.RowKit
set_option linter.unusedVariables false
set_option linter.unusedSimpArgs false
set_option maxHeartbeats 8000000
set_option maxRecDepth 100000
def kM (w:World)(e:Ending)(w':World):Prop:=
 ∃(h:aO) (p:OA) (cap:Nat) (q:OA) (c2:Nat),e= .returned (bK h p h.cells.length cap q h.vs.length c2)∧h.cells.length≤13∧h.vs.length≤13∧IsHouse w' h p h.cells.length cap q h.vs.length c2∧Ext w w'
theorem vU (v:Value)(w:World)(hc:Code w v):Calls Tryz.prog 33 #[v] w (kM w):=by
 go_enter Tryz.func33,Tryz.ntmps33
 go_wp2_with fail
 refine(nM v _ (hc.ext xE)).mono ?_
 rintro e w1 ⟨R,rfl,hR,r1,x1⟩
 have M1:=(((Mem.start w).bn aL #[(),(),((),()),(),(),(),(),(),(),((),())] (w.heap.size)).adv x1)
 have f:=M1.hi 0
 clear x1
 go_wp2_with fail
 refine(mQ R 0 9 _ r1 (by omega) (by omega) (by omega)).mono ?_
 rintro e w2 ⟨h,p,b,q,c2,rfl,n,i,ho,hv,r2,x2⟩
 have u:w.heap.size<R:=by have:=hR;simp at this;omega
 have X2:Ext w w2:=ExtR.new M1.ext x2 (by omega)
 have B2:Blk w2 w.heap.size aL #[(),(),((),()),(),(),(),(),(),(),((),())]:=x2.blk (M1.bk 0) (by omega)
 have l2:=B2.lt
 obtain⟨z0,s,z1,j,z2,m,z3,t,z4,g,z5,d,z6,l,z7,r,z8,o,z9,k⟩:=B2.tenf
 go_wp2
 generalize c:World.setCell _ _ _=w9
 obtain⟨Y9,a⟩:=B2.putr c
 have X9:Ext w w9:=ExtR.new X2 a (Nat.le_refl _)
 have o9:w9.ownsRow w1.heap.size TI 1 (.slice p h.cells.length b) h.cells.length (ivs h.cells):=ho.kept a (.inr (oG ho B2 (by decide)))
 have v9:w9.ownsRow w1.heap.size TV 4 (.slice q h.vs.length c2) h.vs.length (h.vs.flatMap aE):=hv.kept a (.inr (oG hv B2 (by decide)))
 clear c a z0 s z1 j z2 m z3 t z4 g z5 d z6 l z7 r z8 o z9 k
 obtain⟨y0,y1,y2,y3,y4,y5,y6,y7,y8,y9⟩:=Y9.ten
 exact bodyPost_ret (v:= .agg #[h.aA,h.aB,.slice p h.cells.length b,h.free,h.step,h.aD,h.aG,h.aC,h.aF,.slice q h.vs.length c2]) (by simp[results,Tryz.results33,go_sem, *]) rfl ⟨h,p,b,q,c2,rfl,n,i,⟨Sl.own o9,Sl.own v9⟩,X9⟩
theorem zD (v:Value)(w:World)(hc:Code w v):Calls Tryz.prog 36 #[v] w (kM w):=by
 go_enter Tryz.func36,Tryz.ntmps36
 go_wp2_with fail
 refine(nM v _ (hc.ext xE)).mono ?_
 rintro e w1 ⟨R,rfl,hR,r1,x1⟩
 have M1:=(((Mem.start w).bn aL #[(),(),((),()),(),(),(),(),(),(),((),())] (w.heap.size)).adv x1)
 have f:=M1.hi 0
 clear x1
 go_wp2_with fail
 refine(mQ R 0 9 _ r1 (by omega) (by omega) (by omega)).mono ?_
 rintro e w2 ⟨h,p,b,q,c2,rfl,n,i,ho,hv,r2,x2⟩
 have u:w.heap.size<R:=by have:=hR;simp at this;omega
 have X2:Ext w w2:=ExtR.new M1.ext x2 (by omega)
 have B2:Blk w2 w.heap.size aL #[(),(),((),()),(),(),(),(),(),(),((),())]:=x2.blk (M1.bk 0) (by omega)
 have l2:=B2.lt
 obtain⟨z0,s,z1,j,z2,m,z3,t,z4,g,z5,d,z6,l,z7,r,z8,o,z9,k⟩:=B2.tenf
 go_wp2
 generalize c:World.setCell _ _ _=w9
 obtain⟨Y9,a⟩:=B2.putr c
 have X9:Ext w w9:=ExtR.new X2 a (Nat.le_refl _)
 have o9:w9.ownsRow w1.heap.size TI 1 (.slice p h.cells.length b) h.cells.length (ivs h.cells):=ho.kept a (.inr (oG ho B2 (by decide)))
 have v9:w9.ownsRow w1.heap.size TV 4 (.slice q h.vs.length c2) h.vs.length (h.vs.flatMap aE):=hv.kept a (.inr (oG hv B2 (by decide)))
 clear c a z0 s z1 j z2 m z3 t z4 g z5 d z6 l z7 r z8 o z9 k
 obtain⟨y0,y1,y2,y3,y4,y5,y6,y7,y8,y9⟩:=Y9.ten
 exact bodyPost_ret (v:= .agg #[h.aA,h.aB,.slice p h.cells.length b,h.free,h.step,h.aD,h.aG,h.aC,h.aF,.slice q h.vs.length c2]) (by simp[results,Tryz.results36,go_sem, *]) rfl ⟨h,p,b,q,c2,rfl,n,i,⟨Sl.own o9,Sl.own v9⟩,X9⟩
end Go.Proofs.YtgnkoffndhmhpaaGreatDoor
namespace Go.Proofs.YtgnkoffndhmhpaaGreatDoor
open Go.RowKit
set_option linter.unusedVariables false
set_option linter.unusedSimpArgs false
def ChgE (e:TypeId)(B T:Nat)(w w':World):Prop:= ∃row,w.grownBy w' row∧ ∀g,row=some g→B≤g∧g<T∧ ∃cur,w.heap[g]? =some (.cells cur e (0,0))
theorem ChgE.chg {e:TypeId}{B T:Nat}{w w':World}(h:ChgE e B T w w'):Chg B T w w':=by
 obtain⟨a,hg,hr⟩:=h
 exact Chg.of_grown hg (fun g e=>⟨(hr g e).1,(hr g e).2.1⟩)
theorem Blk.chg {w w':World}{g B T:Nat}{t:TypeId}{cs:Array Value}(h:Blk w g t cs)(hc:Chg B T w w')(hd:g<B∨T≤g):Blk w' g t cs:=(hc.block g h.lt hd).trans h
theorem ChgE.pre {e:TypeId}{B T:Nat}{w a w':World}(h:ChgE e B T a w')(hx:Ext w a)(hT:T≤w.heap.size):ChgE e B T w w':=by
 obtain⟨b,hg,hr⟩:=h
 refine⟨b,⟨hg.os.trans hx.os,hg.tape.trans hx.tape,hg.output.trans hx.output,Nat.le_trans hx.size hg.size,fun i hi hne=>(hg.block i (Nat.lt_of_lt_of_le hi hx.size) hne).trans (hx.block i hi)⟩,fun g e=> ?_⟩
 obtain⟨h1,h2,c,h3⟩:=hr g e
 exact⟨h1,h2,c,by rw[←hx.block g (by omega)];exact h3⟩
end Go.Proofs.YtgnkoffndhmhpaaGreatDoor
