/-
  Texts of this proof, packed (@packed).
-/
import Derived.Test.YteejdnmmpmcmeaaGreatDoorK4
import Derived.Test.YteejdnmmpmcmeaaGreatDoorK31
import Derived.Test.YteejdnmmpmcmeaaGreatDoorK32
namespace Go.Proofs.YteejdnmmpmcmeaaGreatDoor
open Go.RowKit
set_option linter.unusedVariables false
set_option linter.unusedSimpArgs false
def RandCar (R k:Nat)(w:World)(e:Ending)(w':World):Prop:=
 ∃(h:HouseD) (p:Option Addr) (cap:Nat) (q:Option Addr) (c2:Nat) (id:Int),e= .returned (.tuple #[houseV h p h.cells.length cap q h.vs.length c2,.int .i64 id])∧h.cells.length≤13∧h.vs.length≤13∧
  w'.ownsRow w.heap.size TI 1 (.slice p h.cells.length cap) h.cells.length (ivs h.cells)∧w'.ownsRow w.heap.size TV 4 (.slice q h.vs.length c2) h.vs.length (h.vs.flatMap visitCells)∧Rand w' R (k+30000)∧ExtR R w w'
set_option maxRecDepth 100000 in
set_option maxHeartbeats 8000000 in
theorem l20HouseCar_any (R k:Nat)(w:World)(hr0:Rand w R k)(hk:k≤1099511400000):
  Calls Tryz.prog 71 #[.pointer (some ⟨R,0,none⟩)] w (RandCar R k w):=by
 have hR:=hr0.lt
 go_enter Tryz.func71,Tryz.ntmps71
 go_wp2_with fail
 refine(l20House_any R k 9 _ (hr0.ext (by exact .alloc (.refl _) _)) (by omega) (by omega) (by omega)).mono ?_
 rintro e w1 ⟨h,p,cap,q,c2,rfl,hs1,hs2,ho,hv,r1,x1⟩
 have M1:=Lib.hid (show MemR R w w1 [ownI w.heap.size TI 1 (p) (h.cells.length) (cap) (ivs h.cells),ownI w.heap.size TV 4 (q) (h.vs.length) (c2) (h.vs.flatMap visitCells),blkI w.heap.size (w.heap.size) TH10 #[.int .i64 0,.int .i64 0,.slice none 0 0,.int .i64 0,.int .i64 0,.int .i64 0,.int .i64 0,.int .i64 0,.int .i64 0,.slice none 0 0]]from(((MemR.start R w hR).blkNew TH10 #[.int .i64 0,.int .i64 0,.slice none 0 0,.int .i64 0,.int .i64 0,.int .i64 0,.int .i64 0,.int .i64 0,.int .i64 0,.slice none 0 0] (w.heap.size) (by simp))).own2 x1 ho hv (by decide))
 clear ho hv x1 hr0
 have lt1_2:w.heap.size<w1.heap.size:=(M1.out.lt (i:=2) rfl rfl).2
 have hw1:w.heap.size≤w1.heap.size:=M1.out.ext.sz
 have lw1:w.heap.size<w1.heap.size:=lt1_2
 go_upto_region 2 with fail
 have r2:Rand (w1.alloc (.cells #[.int .i64 h.wide,.int .i64 h.deep,.slice p h.cells.length cap,.int .i64 h.free,.int .i64 h.step,.int .i64 h.price,.int .i64 h.capp,.int .i64 h.clock,.int .i64 h.bank,.slice q h.vs.length c2] TH10)) R (k+20000):=by(repeat' (first|(with_reducible assumption)|(with_reducible refine Rand.alloc ?_ _)|(with_reducible refine Rand.setCell ?_ (by first|exact Nat.le_refl _|(dsimp only;omega)|(simp;done)|(simp;omega)) _)|(with_reducible refine Rand.drew ?_)|(with_reducible refine Rand.drewN ?_ _)|(refine Rand.ext ?_ (by with_reducible assumption))))
 have M2:=Lib.hid (((M1.out).blkNew TH10 #[.int .i64 h.wide,.int .i64 h.deep,.slice p h.cells.length cap,.int .i64 h.free,.int .i64 h.step,.int .i64 h.price,.int .i64 h.capp,.int .i64 h.clock,.int .i64 h.bank,.slice q h.vs.length c2] (w1.heap.size) (by simp)))
 generalize hwz:(w1.alloc (.cells #[.int .i64 h.wide,.int .i64 h.deep,.slice p h.cells.length cap,.int .i64 h.free,.int .i64 h.step,.int .i64 h.price,.int .i64 h.capp,.int .i64 h.clock,.int .i64 h.bank,.slice q h.vs.length c2] TH10))=w2
 rw[hwz]at M2 r2
 clear hwz r1 M1
 clear lt1_2
 have lt2_0:w1.heap.size<w2.heap.size:=(M2.out.lt (i:=0) rfl rfl).2
 have lt2_3:w.heap.size<w2.heap.size:=(M2.out.lt (i:=3) rfl rfl).2
 obtain⟨HB,hHB⟩: ∃a,a=w1.heap.size:=⟨_,rfl⟩
 have hHBR:R<w1.heap.size:=by omega
 have nHB: ¬w1.heap.size=w.heap.size:=by omega
 have nHB2: ¬w.heap.size=w1.heap.size:=by omega
 rw[←hHB]at M2 hHBR nHB nHB2 lt2_0⊢
 clear hHB hw1 lw1
 go_cut [15] (fun s15 wx=> ∃c:Bool,s15= .bool c∧(c=true→0<h.vs.length)∧MemR R w wx [blkI w.heap.size (HB) TH10 #[.int .i64 h.wide,.int .i64 h.deep,.slice p h.cells.length cap,.int .i64 h.free,.int .i64 h.step,.int .i64 h.price,.int .i64 h.capp,.int .i64 h.clock,.int .i64 h.bank,.slice q h.vs.length c2],ownI w.heap.size TI 1 (p) (h.cells.length) (cap) (ivs h.cells),ownI w.heap.size TV 4 (q) (h.vs.length) (c2) (h.vs.flatMap visitCells),blkI w.heap.size (w.heap.size) TH10 #[.int .i64 0,.int .i64 0,.slice none 0 0,.int .i64 0,.int .i64 0,.int .i64 0,.int .i64 0,.int .i64 0,.int .i64 0,.slice none 0 0]]∧Rand wx R (k+20001))
 case first=>
  have d9:w2.cell? ⟨HB,9,none⟩=some (.slice q h.vs.length c2):=(M2.out.blk (i:=0) rfl).cell 9
  by_cases hm0:h.vs.length=0
  ·skip
   have dk0:decide ((0:Int)<(h.vs.length:Int))=false:=by simp[hm0]
   have dk1:decide (0<h.vs.length)=false:=by simp[hm0]
   go_wp2_with fail
   go_meet
   exact⟨false,rfl,fun hc=>by simp at hc,M2.out,r2.mono (by omega)⟩
  ·skip
   have dk0:decide ((0:Int)<(h.vs.length:Int))=true:=by simp;omega
   have dk1:decide (0<h.vs.length)=true:=by simp;omega
   go_wp2_with fail
   refine(pick_any R (k+20000) (5) _ r2 (by omega)).mono ?_
   rintro e w3 ⟨x,rfl,xa,xb,r3,xx⟩
   have M3:=Lib.hid ((M2.out).pickd xx)
   clear xx M2
   clear lt2_0 lt2_3
   have lt3_0:HB<w3.heap.size:=(M3.out.lt (i:=0) rfl rfl).2
   have lt3_3:w.heap.size<w3.heap.size:=(M3.out.lt (i:=3) rfl rfl).2
   by_cases x0:0<x
   ·have dk2:decide (0<x)=true:=by simp[x0]
    go_wp2_with fail
    go_meet
    exact⟨true,rfl,fun _=>by omega,M3.out,r3.mono (by omega)⟩
   ·have dk2:decide (0<x)=false:=by simp;omega
    go_wp2_with fail
    go_meet
    exact⟨false,rfl,fun hc=>by simp at hc,M3.out,r3.mono (by omega)⟩
 case rest=>
  clear M2 r2 lt2_0 lt2_3
  obtain⟨c,rfl,hcm,MC,r3⟩:=hcut
  have M3:=Lib.hid MC
  clear MC
  have hR3:R<wc.heap.size:=r3.lt
  have lt3_0:HB<wc.heap.size:=(M3.out.lt (i:=0) rfl rfl).2
  have lt3_3:w.heap.size<wc.heap.size:=(M3.out.lt (i:=3) rfl rfl).2
  have B0:=Lib.hid (M3.out.blk (i:=0) rfl)
  have BH:=Lib.hid (M3.out.blk (i:=3) rfl)
  have HX3:=Lib.hid M3.out.ext
  have HS:=Lib.hid (M3.out.sl (i:=2) rfl)
  go_upto_if 15 with fail
  cases c with
  |false=>
   go_wp2_with fail
   refine region_linX (gl [gEq (.agg #[.int .i64 h.wide,.int .i64 h.deep,.slice p h.cells.length cap,.int .i64 h.free,.int .i64 h.step,.int .i64 h.price,.int .i64 h.capp,.int .i64 h.clock,.int .i64 h.bank,.slice q h.vs.length c2]),gEq (.pointer (some ⟨R,0,none⟩)),gNum (20),(fun _ w'=>Blk w' w.heap.size TH10 #[.int .i64 h.wide,.int .i64 h.deep,.slice p h.cells.length cap,.int .i64 h.free,.int .i64 h.step,.int .i64 h.price,.int .i64 h.capp,.int .i64 h.clock,.int .i64 h.bank,.slice q h.vs.length c2]),gInt]) (XS R w.heap.size TH10 #[.int .i64 h.wide,.int .i64 h.deep,.slice p h.cells.length cap,.int .i64 h.free,.int .i64 h.step,.int .i64 h.price,.int .i64 h.capp,.int .i64 h.clock,.int .i64 h.bank,.slice q h.vs.length c2]) R (k+20001) 1 5 (by kernel_rfl) rfl (by kernel_rfl) (by kernel_rfl) (by kernel_rfl) r3 (fun w=>XS.refl _ _ _ _ w) (fun _ _ _=>XS.trans) (glX_mono (glX_cons (gEqX_mono _) (glX_cons (gEqX_mono _) (glX_cons (fun _ _ _ h _=>h) (glX_cons (fun _ _ _ h hx=>hx.blk h) (glX_cons (gIntX_mono) (glX_nil))))))) rfl (k:=5) (by kernel_rfl) (by decide) (ls:= [(0,some 27),(1,some 28),(2,some 29),(3,none),(4,some 3)]) (by kernel_rfl) (ir:= [0,1,2,3,4]) (by kernel_rfl) ?steps (tl:=#[true,true,true,true,true]) (by kernel_rfl) ?fin
   case steps=>
    refine StepsLX.cons (ps:= []) rfl (by kernel_rfl) (fun wi kk hx hr hkk=> ?_) ?_
    ·intro K hK
     obtain⟨ce0,ce1,ce2,ce3,ce4,ce5,ce6,ce7,ce8,ce9⟩:=((hx.other B0.out (by omega) (by omega))).ten
     go_simp
     exact hK _ _ ⟨.agg #[.int .i64 h.wide,.int .i64 h.deep,.slice p h.cells.length cap,.int .i64 h.free,.int .i64 h.step,.int .i64 h.price,.int .i64 h.capp,.int .i64 h.clock,.int .i64 h.bank,.slice q h.vs.length c2],rfl,rfl,⟨XS.refl _ _ _ _ _,hr.mono (by omega)⟩⟩
    refine StepsLX.cons (ps:= []) rfl (by kernel_rfl) (fun wi kk hx hr hkk=> ?_) ?_
    ·intro K hK
     go_simp
     exact hK _ _ ⟨.pointer (some ⟨R,0,none⟩),rfl,rfl,⟨XS.refl _ _ _ _ _,hr.mono (by omega)⟩⟩
    refine StepsLX.cons (ps:= [(1,some 28)]) rfl (by kernel_rfl) (fun wi kk hx hr hkk=> ?_) ?_
    ·intro v1 h1 K hK
     obtain rfl:=h1
     go_wp2_with fail
     refine(pick_any R kk (20) _ hr (by omega)).mono ?_
     rintro e w5 ⟨x,rfl,xa,xb,r5,x5⟩
     go_simp
     exact hK _ _ ⟨.int .i64 x,rfl,⟨x,rfl,xa,by have hp:(0:Int)<20:=(by omega);omega⟩,⟨XS.ofR (by omega) x5,r5⟩⟩
    refine StepsLX.cons (ps:= [(0,some 27)]) rfl (by kernel_rfl) (fun wi kk hx hr hkk=> ?_) ?_
    ·intro v0 h0 K hK
     obtain rfl:=h0
     rcases hx.either BH.out with BZ|BZ
     ·skip
      obtain⟨z0,zf0,z1,zf1,z2,zf2,z3,zf3,z4,zf4,z5,zf5,z6,zf6,z7,zf7,z8,zf8,z9,zf9⟩:=(BZ).tenf
      go_simp
      generalize hw9:World.setCell _ _ _=w9
      have hR9:ExtR w.heap.size wi w9:=by rw[←hw9];exact((((((((((ExtR.refl w.heap.size wi).setCell (p:=⟨w.heap.size,0,none⟩) (.inl rfl) (.int .i64 h.wide)).setCell (p:=⟨w.heap.size,1,none⟩) (.inl rfl) (.int .i64 h.deep)).setCell (p:=⟨w.heap.size,2,none⟩) (.inl rfl) (.slice p h.cells.length cap)).setCell (p:=⟨w.heap.size,3,none⟩) (.inl rfl) (.int .i64 h.free)).setCell (p:=⟨w.heap.size,4,none⟩) (.inl rfl) (.int .i64 h.step)).setCell (p:=⟨w.heap.size,5,none⟩) (.inl rfl) (.int .i64 h.price)).setCell (p:=⟨w.heap.size,6,none⟩) (.inl rfl) (.int .i64 h.capp)).setCell (p:=⟨w.heap.size,7,none⟩) (.inl rfl) (.int .i64 h.clock)).setCell (p:=⟨w.heap.size,8,none⟩) (.inl rfl) (.int .i64 h.bank)).setCell (p:=⟨w.heap.size,9,none⟩) (.inl rfl) (.slice q h.vs.length c2)
      have Y9:=((((((((((BZ).set 0 (.int .i64 h.wide)).set 1 (.int .i64 h.deep)).set 2 (.slice p h.cells.length cap)).set 3 (.int .i64 h.free)).set 4 (.int .i64 h.step)).set 5 (.int .i64 h.price)).set 6 (.int .i64 h.capp)).set 7 (.int .i64 h.clock)).set 8 (.int .i64 h.bank)).set 9 (.slice q h.vs.length c2)
      simp only[List.setIfInBounds_toArray,List.set_cons_zero,List.set_cons_succ]at Y9
      rw[hw9]at Y9
      have r9:Rand w9 R kk:=rand_grown hr hR9 (fun g e=>by injection e with e;omega)
      exact hK _ _ ⟨undef,rfl,Y9,⟨XS.ofPut hR9 Y9,r9.mono (by omega)⟩⟩
     ·skip
      obtain⟨z0,zf0,z1,zf1,z2,zf2,z3,zf3,z4,zf4,z5,zf5,z6,zf6,z7,zf7,z8,zf8,z9,zf9⟩:=(BZ).tenf
      go_simp
      generalize hw9:World.setCell _ _ _=w9
      have hR9:ExtR w.heap.size wi w9:=by rw[←hw9];exact((((((((((ExtR.refl w.heap.size wi).setCell (p:=⟨w.heap.size,0,none⟩) (.inl rfl) (.int .i64 h.wide)).setCell (p:=⟨w.heap.size,1,none⟩) (.inl rfl) (.int .i64 h.deep)).setCell (p:=⟨w.heap.size,2,none⟩) (.inl rfl) (.slice p h.cells.length cap)).setCell (p:=⟨w.heap.size,3,none⟩) (.inl rfl) (.int .i64 h.free)).setCell (p:=⟨w.heap.size,4,none⟩) (.inl rfl) (.int .i64 h.step)).setCell (p:=⟨w.heap.size,5,none⟩) (.inl rfl) (.int .i64 h.price)).setCell (p:=⟨w.heap.size,6,none⟩) (.inl rfl) (.int .i64 h.capp)).setCell (p:=⟨w.heap.size,7,none⟩) (.inl rfl) (.int .i64 h.clock)).setCell (p:=⟨w.heap.size,8,none⟩) (.inl rfl) (.int .i64 h.bank)).setCell (p:=⟨w.heap.size,9,none⟩) (.inl rfl) (.slice q h.vs.length c2)
      have Y9:=((((((((((BZ).set 0 (.int .i64 h.wide)).set 1 (.int .i64 h.deep)).set 2 (.slice p h.cells.length cap)).set 3 (.int .i64 h.free)).set 4 (.int .i64 h.step)).set 5 (.int .i64 h.price)).set 6 (.int .i64 h.capp)).set 7 (.int .i64 h.clock)).set 8 (.int .i64 h.bank)).set 9 (.slice q h.vs.length c2)
      simp only[List.setIfInBounds_toArray,List.set_cons_zero,List.set_cons_succ]at Y9
      rw[hw9]at Y9
      have r9:Rand w9 R kk:=rand_grown hr hR9 (fun g e=>by injection e with e;omega)
      exact hK _ _ ⟨undef,rfl,Y9,⟨XS.ofPut hR9 Y9,r9.mono (by omega)⟩⟩
    refine StepsLX.cons (ps:= [(2,some 29)]) rfl (by kernel_rfl) (fun wi kk hx hr hkk=> ?_) StepsLX.nil
    ·intro v2 h2 K hK
     obtain⟨x2,rfl,xa2,xb2⟩:=h2
     go_simp
     exact hK _ _ ⟨_,rfl,⟨_,rfl⟩,⟨XS.refl _ _ _ _ _,hr.mono (by omega)⟩⟩
   case fin=>
    intro wi hx hr v0 h0 v1 h1 v2 h2 v3 h3 v4 h4
    obtain rfl:=h0
    obtain rfl:=h1
    obtain⟨x2,rfl,xa2,xb2⟩:=h2
    have BB3:=h3
    obtain⟨n4,rfl⟩:=h4
    have M4:=Lib.hid (show MemR R w wi [blkI w.heap.size (HB) TH10 #[.int .i64 h.wide,.int .i64 h.deep,.slice p h.cells.length cap,.int .i64 h.free,.int .i64 h.step,.int .i64 h.price,.int .i64 h.capp,.int .i64 h.clock,.int .i64 h.bank,.slice q h.vs.length c2],ownI w.heap.size TI 1 (p) (h.cells.length) (cap) (ivs h.cells),ownI w.heap.size TV 4 (q) (h.vs.length) (c2) (h.vs.flatMap visitCells),blkI w.heap.size (w.heap.size) TH10 #[.int .i64 h.wide,.int .i64 h.deep,.slice p h.cells.length cap,.int .i64 h.free,.int .i64 h.step,.int .i64 h.price,.int .i64 h.capp,.int .i64 h.clock,.int .i64 h.bank,.slice q h.vs.length c2]]from memR_told (i:=3) M3.out rfl hx BB3)
    clear BB3 hx M3 B0 BH HX3 HS lt3_0 lt3_3
    have lt4_0:HB<wi.heap.size:=(M4.out.lt (i:=0) rfl rfl).2
    have lt4_3:w.heap.size<wi.heap.size:=(M4.out.lt (i:=3) rfl rfl).2
    refine wpAny_done (by kernel_rfl) ?_ _
    try simp only[Act.put,List.setIfInBounds_toArray,List.set_cons_zero,List.set_cons_succ]
    go_wp2
    obtain⟨y0,y1,y2,y3,y4,y5,y6,y7,y8,y9⟩:=(M4.out.blk (i:=3) rfl).ten
    exact bodyPost_ret (v:= .tuple #[.agg #[.int .i64 h.wide,.int .i64 h.deep,.slice p h.cells.length cap,.int .i64 h.free,.int .i64 h.step,.int .i64 h.price,.int .i64 h.capp,.int .i64 h.clock,.int .i64 h.bank,.slice q h.vs.length c2],.int .i64 (n4)]) (by simp[results,Tryz.results71,go_sem, *]) rfl ⟨h,p,cap,_,c2,_,rfl,hs1,hs2,(M4.out.own (i:=1) rfl),(M4.out.own (i:=2) rfl),hr.mono (by omega),M4.out.ext⟩
  |true=>
   have hm0:=hcm rfl
   go_wp2_with fail
   obtain⟨gq,rfl,hq1,hq2⟩:=M3.out.some (i:=2) rfl hm0
   have hgne:gq≠w.heap.size:=M3.out.ne (i:=2) (j:=3) (by omega) rfl rfl rfl rfl
   refine region_linX (gl [gEq (.agg #[.int .i64 h.wide,.int .i64 h.deep,.slice p h.cells.length cap,.int .i64 h.free,.int .i64 h.step,.int .i64 h.price,.int .i64 h.capp,.int .i64 h.clock,.int .i64 h.bank,.slice (some ⟨gq,0,none⟩) h.vs.length c2]),gEq (.pointer (some ⟨HB,9,none⟩)),gEq (.slice (some ⟨gq,0,none⟩) h.vs.length c2),gEq (.pointer (some ⟨R,0,none⟩)),gEq (.pointer (some ⟨HB,9,none⟩)),gEq (.slice (some ⟨gq,0,none⟩) h.vs.length c2),gEq (.int .i64 (h.vs.length:Int)),gNum ((h.vs.length:Int)),(fun v _=> ∃x:Nat,v= .pointer (some ⟨gq,x*4,none⟩)∧x<h.vs.length),(fun v _=> ∃x:Nat,v= .pointer (some ⟨gq,x*4,none⟩)∧x<h.vs.length),gInt,(fun _ w'=>Blk w' w.heap.size TH10 #[.int .i64 h.wide,.int .i64 h.deep,.slice p h.cells.length cap,.int .i64 h.free,.int .i64 h.step,.int .i64 h.price,.int .i64 h.capp,.int .i64 h.clock,.int .i64 h.bank,.slice (some ⟨gq,0,none⟩) h.vs.length c2]),gInt]) (XS R w.heap.size TH10 #[.int .i64 h.wide,.int .i64 h.deep,.slice p h.cells.length cap,.int .i64 h.free,.int .i64 h.step,.int .i64 h.price,.int .i64 h.capp,.int .i64 h.clock,.int .i64 h.bank,.slice (some ⟨gq,0,none⟩) h.vs.length c2]) R (k+20001) 1 13 (by kernel_rfl) rfl (by kernel_rfl) (by kernel_rfl) (by kernel_rfl) r3 (fun w=>XS.refl _ _ _ _ w) (fun _ _ _=>XS.trans) (glX_mono (glX_cons (gEqX_mono _) (glX_cons (gEqX_mono _) (glX_cons (gEqX_mono _) (glX_cons (gEqX_mono _) (glX_cons (gEqX_mono _) (glX_cons (gEqX_mono _) (glX_cons (gEqX_mono _) (glX_cons (fun _ _ _ h _=>h) (glX_cons (fun _ _ _ h _=>h) (glX_cons (fun _ _ _ h _=>h) (glX_cons (gIntX_mono) (glX_cons (fun _ _ _ h hx=>hx.blk h) (glX_cons (gIntX_mono) (glX_nil))))))))))))))) rfl (k:=13) (by kernel_rfl) (by decide) (ls:= [(0,some 16),(1,some 17),(2,some 18),(3,some 19),(4,some 20),(5,some 21),(6,some 22),(7,some 23),(8,some 24),(9,some 25),(10,some 26),(11,none),(12,some 3)]) (by kernel_rfl) (ir:= [0,1,2,3,4,5,6,7,8,9,10,11,12]) (by kernel_rfl) ?steps (tl:=#[true,true,true,true,true,true,true,true,true,true,true,true,true]) (by kernel_rfl) ?fin
   case steps=>
    refine StepsLX.cons (ps:= []) rfl (by kernel_rfl) (fun wi kk hx hr hkk=> ?_) ?_
    ·intro K hK
     obtain⟨ce0,ce1,ce2,ce3,ce4,ce5,ce6,ce7,ce8,ce9⟩:=((hx.other B0.out (by omega) (by omega))).ten
     go_simp
     exact hK _ _ ⟨.agg #[.int .i64 h.wide,.int .i64 h.deep,.slice p h.cells.length cap,.int .i64 h.free,.int .i64 h.step,.int .i64 h.price,.int .i64 h.capp,.int .i64 h.clock,.int .i64 h.bank,.slice (some ⟨gq,0,none⟩) h.vs.length c2],rfl,rfl,⟨XS.refl _ _ _ _ _,hr.mono (by omega)⟩⟩
    refine StepsLX.cons (ps:= []) rfl (by kernel_rfl) (fun wi kk hx hr hkk=> ?_) ?_
    ·intro K hK
     go_simp
     exact hK _ _ ⟨.pointer (some ⟨HB,9,none⟩),rfl,rfl,⟨XS.refl _ _ _ _ _,hr.mono (by omega)⟩⟩
    refine StepsLX.cons (ps:= [(1,some 17)]) rfl (by kernel_rfl) (fun wi kk hx hr hkk=> ?_) ?_
    ·intro v1 h1 K hK
     obtain rfl:=h1
     have ce9:wi.cell? ⟨HB,9,none⟩=some (.slice (some ⟨gq,0,none⟩) h.vs.length c2):=(hx.other B0.out (by omega) (by omega)).cell 9
     go_simp
     exact hK _ _ ⟨.slice (some ⟨gq,0,none⟩) h.vs.length c2,rfl,rfl,⟨XS.refl _ _ _ _ _,hr.mono (by omega)⟩⟩
    refine StepsLX.cons (ps:= []) rfl (by kernel_rfl) (fun wi kk hx hr hkk=> ?_) ?_
    ·intro K hK
     go_simp
     exact hK _ _ ⟨.pointer (some ⟨R,0,none⟩),rfl,rfl,⟨XS.refl _ _ _ _ _,hr.mono (by omega)⟩⟩
    refine StepsLX.cons (ps:= []) rfl (by kernel_rfl) (fun wi kk hx hr hkk=> ?_) ?_
    ·intro K hK
     go_simp
     exact hK _ _ ⟨.pointer (some ⟨HB,9,none⟩),rfl,rfl,⟨XS.refl _ _ _ _ _,hr.mono (by omega)⟩⟩
    refine StepsLX.cons (ps:= [(4,some 20)]) rfl (by kernel_rfl) (fun wi kk hx hr hkk=> ?_) ?_
    ·intro v4 h4 K hK
     obtain rfl:=h4
     have ce9:wi.cell? ⟨HB,9,none⟩=some (.slice (some ⟨gq,0,none⟩) h.vs.length c2):=(hx.other B0.out (by omega) (by omega)).cell 9
     go_simp
     exact hK _ _ ⟨.slice (some ⟨gq,0,none⟩) h.vs.length c2,rfl,rfl,⟨XS.refl _ _ _ _ _,hr.mono (by omega)⟩⟩
    refine StepsLX.cons (ps:= [(5,some 21)]) rfl (by kernel_rfl) (fun wi kk hx hr hkk=> ?_) ?_
    ·intro v5 h5 K hK
     obtain rfl:=h5
     go_simp
     exact hK _ _ ⟨.int .i64 (h.vs.length:Int),rfl,rfl,⟨XS.refl _ _ _ _ _,hr.mono (by omega)⟩⟩
    refine StepsLX.cons (ps:= [(3,some 19),(6,some 22)]) rfl (by kernel_rfl) (fun wi kk hx hr hkk=> ?_) ?_
    ·intro v3 h3 v6 h6 K hK
     obtain rfl:=h3
     obtain rfl:=h6
     go_wp2_with fail
     refine(pick_any R kk ((h.vs.length:Int)) _ hr (by omega)).mono ?_
     rintro e w5 ⟨x,rfl,xa,xb,r5,x5⟩
     go_simp
     exact hK _ _ ⟨.int .i64 x,rfl,⟨x,rfl,xa,by have hp:(0:Int)<(h.vs.length:Int):=(by omega);omega⟩,⟨XS.ofR (by omega) x5,r5⟩⟩
    refine StepsLX.cons (ps:= [(2,some 18),(7,some 23)]) rfl (by kernel_rfl) (fun wi kk hx hr hkk=> ?_) ?_
    ·intro v2 h2 v7 h7 K hK
     obtain rfl:=h2
     obtain⟨x7,rfl,xa7,xb7⟩:=h7
     obtain⟨xn,rfl⟩:=Int.eq_ofNat_of_zero_le xa7
     have i1:(xn:Int)<(h.vs.length:Int):=xb7
     have i0:(0:Int)≤(xn:Int):=by omega
     go_simp
     exact hK _ _ ⟨_,rfl,⟨xn,rfl,by omega⟩,⟨XS.refl _ _ _ _ _,hr.mono (by omega)⟩⟩
    refine StepsLX.cons (ps:= [(8,some 24)]) rfl (by kernel_rfl) (fun wi kk hx hr hkk=> ?_) ?_
    ·intro v8 h8 K hK
     obtain⟨x8,rfl,xb8⟩:=h8
     go_simp
     exact hK _ _ ⟨_,rfl,⟨x8,rfl,xb8⟩,⟨XS.refl _ _ _ _ _,hr.mono (by omega)⟩⟩
    refine StepsLX.cons (ps:= [(9,some 25)]) rfl (by kernel_rfl) (fun wi kk hx hr hkk=> ?_) ?_
    ·intro v9 h9 K hK
     obtain⟨x9,rfl,xb9⟩:=h9
     obtain⟨y,hy⟩:=visit_cell0 (vs:=h.vs) (x:=x9) xb9
     have c:=(((hx.block gq hq2 (by omega) (by omega))))
     have c1:wi.cell? ⟨gq,x9*4,none⟩=some (.int .i64 y):=by rw[World.cell?_of_block (a:=⟨gq,x9*4,none⟩) c];have hcc:=(M3.out.own (i:=2) rfl).cellAt (x9*4) (by omega);exact hcc.trans hy
     go_simp
     exact hK _ _ ⟨_,rfl,⟨_,rfl⟩,⟨XS.refl _ _ _ _ _,hr.mono (by omega)⟩⟩
    refine StepsLX.cons (ps:= [(0,some 16)]) rfl (by kernel_rfl) (fun wi kk hx hr hkk=> ?_) ?_
    ·intro v0 h0 K hK
     obtain rfl:=h0
     rcases hx.either BH.out with BZ|BZ
     ·skip
      obtain⟨z0,zf0,z1,zf1,z2,zf2,z3,zf3,z4,zf4,z5,zf5,z6,zf6,z7,zf7,z8,zf8,z9,zf9⟩:=(BZ).tenf
      go_simp
      generalize hw9:World.setCell _ _ _=w9
      have hR9:ExtR w.heap.size wi w9:=by rw[←hw9];exact((((((((((ExtR.refl w.heap.size wi).setCell (p:=⟨w.heap.size,0,none⟩) (.inl rfl) (.int .i64 h.wide)).setCell (p:=⟨w.heap.size,1,none⟩) (.inl rfl) (.int .i64 h.deep)).setCell (p:=⟨w.heap.size,2,none⟩) (.inl rfl) (.slice p h.cells.length cap)).setCell (p:=⟨w.heap.size,3,none⟩) (.inl rfl) (.int .i64 h.free)).setCell (p:=⟨w.heap.size,4,none⟩) (.inl rfl) (.int .i64 h.step)).setCell (p:=⟨w.heap.size,5,none⟩) (.inl rfl) (.int .i64 h.price)).setCell (p:=⟨w.heap.size,6,none⟩) (.inl rfl) (.int .i64 h.capp)).setCell (p:=⟨w.heap.size,7,none⟩) (.inl rfl) (.int .i64 h.clock)).setCell (p:=⟨w.heap.size,8,none⟩) (.inl rfl) (.int .i64 h.bank)).setCell (p:=⟨w.heap.size,9,none⟩) (.inl rfl) (.slice (some ⟨gq,0,none⟩) h.vs.length c2)
      have Y9:=((((((((((BZ).set 0 (.int .i64 h.wide)).set 1 (.int .i64 h.deep)).set 2 (.slice p h.cells.length cap)).set 3 (.int .i64 h.free)).set 4 (.int .i64 h.step)).set 5 (.int .i64 h.price)).set 6 (.int .i64 h.capp)).set 7 (.int .i64 h.clock)).set 8 (.int .i64 h.bank)).set 9 (.slice (some ⟨gq,0,none⟩) h.vs.length c2)
      simp only[List.setIfInBounds_toArray,List.set_cons_zero,List.set_cons_succ]at Y9
      rw[hw9]at Y9
      have r9:Rand w9 R kk:=rand_grown hr hR9 (fun g e=>by injection e with e;omega)
      exact hK _ _ ⟨undef,rfl,Y9,⟨XS.ofPut hR9 Y9,r9.mono (by omega)⟩⟩
     ·skip
      obtain⟨z0,zf0,z1,zf1,z2,zf2,z3,zf3,z4,zf4,z5,zf5,z6,zf6,z7,zf7,z8,zf8,z9,zf9⟩:=(BZ).tenf
      go_simp
      generalize hw9:World.setCell _ _ _=w9
      have hR9:ExtR w.heap.size wi w9:=by rw[←hw9];exact((((((((((ExtR.refl w.heap.size wi).setCell (p:=⟨w.heap.size,0,none⟩) (.inl rfl) (.int .i64 h.wide)).setCell (p:=⟨w.heap.size,1,none⟩) (.inl rfl) (.int .i64 h.deep)).setCell (p:=⟨w.heap.size,2,none⟩) (.inl rfl) (.slice p h.cells.length cap)).setCell (p:=⟨w.heap.size,3,none⟩) (.inl rfl) (.int .i64 h.free)).setCell (p:=⟨w.heap.size,4,none⟩) (.inl rfl) (.int .i64 h.step)).setCell (p:=⟨w.heap.size,5,none⟩) (.inl rfl) (.int .i64 h.price)).setCell (p:=⟨w.heap.size,6,none⟩) (.inl rfl) (.int .i64 h.capp)).setCell (p:=⟨w.heap.size,7,none⟩) (.inl rfl) (.int .i64 h.clock)).setCell (p:=⟨w.heap.size,8,none⟩) (.inl rfl) (.int .i64 h.bank)).setCell (p:=⟨w.heap.size,9,none⟩) (.inl rfl) (.slice (some ⟨gq,0,none⟩) h.vs.length c2)
      have Y9:=((((((((((BZ).set 0 (.int .i64 h.wide)).set 1 (.int .i64 h.deep)).set 2 (.slice p h.cells.length cap)).set 3 (.int .i64 h.free)).set 4 (.int .i64 h.step)).set 5 (.int .i64 h.price)).set 6 (.int .i64 h.capp)).set 7 (.int .i64 h.clock)).set 8 (.int .i64 h.bank)).set 9 (.slice (some ⟨gq,0,none⟩) h.vs.length c2)
      simp only[List.setIfInBounds_toArray,List.set_cons_zero,List.set_cons_succ]at Y9
      rw[hw9]at Y9
      have r9:Rand w9 R kk:=rand_grown hr hR9 (fun g e=>by injection e with e;omega)
      exact hK _ _ ⟨undef,rfl,Y9,⟨XS.ofPut hR9 Y9,r9.mono (by omega)⟩⟩
    refine StepsLX.cons (ps:= [(10,some 26)]) rfl (by kernel_rfl) (fun wi kk hx hr hkk=> ?_) StepsLX.nil
    ·intro v10 h10 K hK
     obtain⟨n10,rfl⟩:=h10
     go_simp
     exact hK _ _ ⟨_,rfl,⟨_,rfl⟩,⟨XS.refl _ _ _ _ _,hr.mono (by omega)⟩⟩
   case fin=>
    intro wi hx hr v0 h0 v1 h1 v2 h2 v3 h3 v4 h4 v5 h5 v6 h6 v7 h7 v8 h8 v9 h9 v10 h10 v11 h11 v12 h12
    obtain rfl:=h0
    obtain rfl:=h1
    obtain rfl:=h2
    obtain rfl:=h3
    obtain rfl:=h4
    obtain rfl:=h5
    obtain rfl:=h6
    obtain⟨x7,rfl,xa7,xb7⟩:=h7
    obtain⟨x8,rfl,xb8⟩:=h8
    obtain⟨x9,rfl,xb9⟩:=h9
    obtain⟨n10,rfl⟩:=h10
    have BB11:=h11
    obtain⟨n12,rfl⟩:=h12
    have M4:=Lib.hid (show MemR R w wi [blkI w.heap.size (HB) TH10 #[.int .i64 h.wide,.int .i64 h.deep,.slice p h.cells.length cap,.int .i64 h.free,.int .i64 h.step,.int .i64 h.price,.int .i64 h.capp,.int .i64 h.clock,.int .i64 h.bank,.slice (some ⟨gq,0,none⟩) h.vs.length c2],ownI w.heap.size TI 1 (p) (h.cells.length) (cap) (ivs h.cells),ownI w.heap.size TV 4 (some ⟨gq,0,none⟩) (h.vs.length) (c2) (h.vs.flatMap visitCells),blkI w.heap.size (w.heap.size) TH10 #[.int .i64 h.wide,.int .i64 h.deep,.slice p h.cells.length cap,.int .i64 h.free,.int .i64 h.step,.int .i64 h.price,.int .i64 h.capp,.int .i64 h.clock,.int .i64 h.bank,.slice (some ⟨gq,0,none⟩) h.vs.length c2]]from memR_told (i:=3) M3.out rfl hx BB11)
    clear BB11 hx M3 B0 BH HX3 HS lt3_0 lt3_3
    have lt4_0:HB<wi.heap.size:=(M4.out.lt (i:=0) rfl rfl).2
    have lt4_3:w.heap.size<wi.heap.size:=(M4.out.lt (i:=3) rfl rfl).2
    refine wpAny_done (by kernel_rfl) ?_ _
    try simp only[Act.put,List.setIfInBounds_toArray,List.set_cons_zero,List.set_cons_succ]
    go_wp2
    obtain⟨y0,y1,y2,y3,y4,y5,y6,y7,y8,y9⟩:=(M4.out.blk (i:=3) rfl).ten
    exact bodyPost_ret (v:= .tuple #[.agg #[.int .i64 h.wide,.int .i64 h.deep,.slice p h.cells.length cap,.int .i64 h.free,.int .i64 h.step,.int .i64 h.price,.int .i64 h.capp,.int .i64 h.clock,.int .i64 h.bank,.slice (some ⟨gq,0,none⟩) h.vs.length c2],.int .i64 (n12)]) (by simp[results,Tryz.results71,go_sem, *]) rfl ⟨h,p,cap,_,c2,_,rfl,hs1,hs2,(M4.out.own (i:=1) rfl),(M4.out.own (i:=2) rfl),hr.mono (by omega),M4.out.ext⟩
def DrewHouse (w:World)(e:Ending)(w':World):Prop:=
 ∃(h:HouseD) (p:Option Addr) (cap:Nat) (q:Option Addr) (c2:Nat),e= .returned (houseV h p h.cells.length cap q h.vs.length c2)∧h.cells.length≤13∧h.vs.length≤13∧IsHouse w' h p h.cells.length cap q h.vs.length c2∧Ext w w'
def DrewCar (w:World)(e:Ending)(w':World):Prop:=
 ∃(h:HouseD) (p:Option Addr) (cap:Nat) (q:Option Addr) (c2:Nat) (id:Int),e= .returned (.tuple #[houseV h p h.cells.length cap q h.vs.length c2,.int .i64 id])∧h.cells.length≤13∧h.vs.length≤13∧IsHouse w' h p h.cells.length cap q h.vs.length c2∧Ext w w'
set_option maxRecDepth 100000 in
set_option maxHeartbeats 8000000 in
theorem drawHouseValid (v:Value)(w:World)(hc:Code w v):Calls Tryz.prog 15 #[v] w (DrewHouse w):=by
 go_enter Tryz.func15,Tryz.ntmps15
 go_wp2_with fail
 refine(l20Open_any v _ (hc.ext (by exact .alloc (.refl _) _))).mono ?_
 rintro e w1 ⟨R,rfl,hR,r1,x1⟩
 have M1:=Lib.hid ((((Mem.start w).blkNew TH10 #[.int .i64 0,.int .i64 0,.slice none 0 0,.int .i64 0,.int .i64 0,.int .i64 0,.int .i64 0,.int .i64 0,.int .i64 0,.slice none 0 0] (w.heap.size) (by simp))).adv x1)
 have lt1_0:w.heap.size<w1.heap.size:=(M1.out.lt (i:=0) rfl rfl).2
 clear x1
 go_wp2_with fail
 refine(l20House_any R 0 2 _ r1 (by omega) (by omega) (by omega)).mono ?_
 rintro e w2 ⟨h,p,cap,q,c2,rfl,hs1,hs2,ho,hv,r2,x2⟩
 have hRw:w.heap.size<R:=by have:=hR;simp at this;omega
 have X2:Ext w w2:=ExtR.new M1.out.ext x2 (by omega)
 have B2:Blk w2 w.heap.size TH10 #[.int .i64 0,.int .i64 0,.slice none 0 0,.int .i64 0,.int .i64 0,.int .i64 0,.int .i64 0,.int .i64 0,.int .i64 0,.slice none 0 0]:=x2.blk (M1.out.blk (i:=0) rfl) (by omega)
 have l2:=B2.lt
 obtain⟨z0,zf0,z1,zf1,z2,zf2,z3,zf3,z4,zf4,z5,zf5,z6,zf6,z7,zf7,z8,zf8,z9,zf9⟩:=(B2).tenf
 go_wp2
 generalize hw9:World.setCell _ _ _=w9
 have hR9:ExtR w.heap.size w2 w9:=by rw[←hw9];exact((((((((((ExtR.refl w.heap.size w2).setCell (p:=⟨w.heap.size,0,none⟩) (.inl rfl) (.int .i64 h.wide)).setCell (p:=⟨w.heap.size,1,none⟩) (.inl rfl) (.int .i64 h.deep)).setCell (p:=⟨w.heap.size,2,none⟩) (.inl rfl) (.slice p h.cells.length cap)).setCell (p:=⟨w.heap.size,3,none⟩) (.inl rfl) (.int .i64 h.free)).setCell (p:=⟨w.heap.size,4,none⟩) (.inl rfl) (.int .i64 h.step)).setCell (p:=⟨w.heap.size,5,none⟩) (.inl rfl) (.int .i64 h.price)).setCell (p:=⟨w.heap.size,6,none⟩) (.inl rfl) (.int .i64 h.capp)).setCell (p:=⟨w.heap.size,7,none⟩) (.inl rfl) (.int .i64 h.clock)).setCell (p:=⟨w.heap.size,8,none⟩) (.inl rfl) (.int .i64 h.bank)).setCell (p:=⟨w.heap.size,9,none⟩) (.inl rfl) (.slice q h.vs.length c2)
 have Y9:=((((((((((B2).set 0 (.int .i64 h.wide)).set 1 (.int .i64 h.deep)).set 2 (.slice p h.cells.length cap)).set 3 (.int .i64 h.free)).set 4 (.int .i64 h.step)).set 5 (.int .i64 h.price)).set 6 (.int .i64 h.capp)).set 7 (.int .i64 h.clock)).set 8 (.int .i64 h.bank)).set 9 (.slice q h.vs.length c2)
 simp only[List.setIfInBounds_toArray,List.set_cons_zero,List.set_cons_succ]at Y9
 rw[hw9]at Y9
 have X9:Ext w w9:=ExtR.new X2 hR9 (Nat.le_refl _)
 have o9:w9.ownsRow w1.heap.size TI 1 (.slice p h.cells.length cap) h.cells.length (ivs h.cells):=ho.kept hR9 (.inr (own_tyB ho B2 (by decide)))
 have v9:w9.ownsRow w1.heap.size TV 4 (.slice q h.vs.length c2) h.vs.length (h.vs.flatMap visitCells):=hv.kept hR9 (.inr (own_tyB hv B2 (by decide)))
 clear hw9 hR9 z0 zf0 z1 zf1 z2 zf2 z3 zf3 z4 zf4 z5 zf5 z6 zf6 z7 zf7 z8 zf8 z9 zf9
 obtain⟨y0,y1,y2,y3,y4,y5,y6,y7,y8,y9⟩:=(Y9).ten
 exact bodyPost_ret (v:= .agg #[.int .i64 h.wide,.int .i64 h.deep,.slice p h.cells.length cap,.int .i64 h.free,.int .i64 h.step,.int .i64 h.price,.int .i64 h.capp,.int .i64 h.clock,.int .i64 h.bank,.slice q h.vs.length c2]) (by simp[results,Tryz.results15,go_sem, *]) rfl ⟨h,p,cap,q,c2,rfl,hs1,hs2,⟨Sl.own o9,Sl.own v9⟩,X9⟩
set_option maxRecDepth 100000 in
set_option maxHeartbeats 8000000 in
theorem drawEndOrder (v:Value)(w:World)(hc:Code w v):Calls Tryz.prog 32 #[v] w (DrewHouse w):=by
 go_enter Tryz.func32,Tryz.ntmps32
 go_wp2_with fail
 refine(l20Open_any v _ (hc.ext (by exact .alloc (.refl _) _))).mono ?_
 rintro e w1 ⟨R,rfl,hR,r1,x1⟩
 have M1:=Lib.hid ((((Mem.start w).blkNew TH10 #[.int .i64 0,.int .i64 0,.slice none 0 0,.int .i64 0,.int .i64 0,.int .i64 0,.int .i64 0,.int .i64 0,.int .i64 0,.slice none 0 0] (w.heap.size) (by simp))).adv x1)
 have lt1_0:w.heap.size<w1.heap.size:=(M1.out.lt (i:=0) rfl rfl).2
 clear x1
 go_wp2_with fail
 refine(l20House_any R 0 9 _ r1 (by omega) (by omega) (by omega)).mono ?_
 rintro e w2 ⟨h,p,cap,q,c2,rfl,hs1,hs2,ho,hv,r2,x2⟩
 have hRw:w.heap.size<R:=by have:=hR;simp at this;omega
 have X2:Ext w w2:=ExtR.new M1.out.ext x2 (by omega)
 have B2:Blk w2 w.heap.size TH10 #[.int .i64 0,.int .i64 0,.slice none 0 0,.int .i64 0,.int .i64 0,.int .i64 0,.int .i64 0,.int .i64 0,.int .i64 0,.slice none 0 0]:=x2.blk (M1.out.blk (i:=0) rfl) (by omega)
 have l2:=B2.lt
 obtain⟨z0,zf0,z1,zf1,z2,zf2,z3,zf3,z4,zf4,z5,zf5,z6,zf6,z7,zf7,z8,zf8,z9,zf9⟩:=(B2).tenf
 go_wp2
 generalize hw9:World.setCell _ _ _=w9
 have hR9:ExtR w.heap.size w2 w9:=by rw[←hw9];exact((((((((((ExtR.refl w.heap.size w2).setCell (p:=⟨w.heap.size,0,none⟩) (.inl rfl) (.int .i64 h.wide)).setCell (p:=⟨w.heap.size,1,none⟩) (.inl rfl) (.int .i64 h.deep)).setCell (p:=⟨w.heap.size,2,none⟩) (.inl rfl) (.slice p h.cells.length cap)).setCell (p:=⟨w.heap.size,3,none⟩) (.inl rfl) (.int .i64 h.free)).setCell (p:=⟨w.heap.size,4,none⟩) (.inl rfl) (.int .i64 h.step)).setCell (p:=⟨w.heap.size,5,none⟩) (.inl rfl) (.int .i64 h.price)).setCell (p:=⟨w.heap.size,6,none⟩) (.inl rfl) (.int .i64 h.capp)).setCell (p:=⟨w.heap.size,7,none⟩) (.inl rfl) (.int .i64 h.clock)).setCell (p:=⟨w.heap.size,8,none⟩) (.inl rfl) (.int .i64 h.bank)).setCell (p:=⟨w.heap.size,9,none⟩) (.inl rfl) (.slice q h.vs.length c2)
 have Y9:=((((((((((B2).set 0 (.int .i64 h.wide)).set 1 (.int .i64 h.deep)).set 2 (.slice p h.cells.length cap)).set 3 (.int .i64 h.free)).set 4 (.int .i64 h.step)).set 5 (.int .i64 h.price)).set 6 (.int .i64 h.capp)).set 7 (.int .i64 h.clock)).set 8 (.int .i64 h.bank)).set 9 (.slice q h.vs.length c2)
 simp only[List.setIfInBounds_toArray,List.set_cons_zero,List.set_cons_succ]at Y9
 rw[hw9]at Y9
 have X9:Ext w w9:=ExtR.new X2 hR9 (Nat.le_refl _)
 have o9:w9.ownsRow w1.heap.size TI 1 (.slice p h.cells.length cap) h.cells.length (ivs h.cells):=ho.kept hR9 (.inr (own_tyB ho B2 (by decide)))
 have v9:w9.ownsRow w1.heap.size TV 4 (.slice q h.vs.length c2) h.vs.length (h.vs.flatMap visitCells):=hv.kept hR9 (.inr (own_tyB hv B2 (by decide)))
 clear hw9 hR9 z0 zf0 z1 zf1 z2 zf2 z3 zf3 z4 zf4 z5 zf5 z6 zf6 z7 zf7 z8 zf8 z9 zf9
 obtain⟨y0,y1,y2,y3,y4,y5,y6,y7,y8,y9⟩:=(Y9).ten
 exact bodyPost_ret (v:= .agg #[.int .i64 h.wide,.int .i64 h.deep,.slice p h.cells.length cap,.int .i64 h.free,.int .i64 h.step,.int .i64 h.price,.int .i64 h.capp,.int .i64 h.clock,.int .i64 h.bank,.slice q h.vs.length c2]) (by simp[results,Tryz.results32,go_sem, *]) rfl ⟨h,p,cap,q,c2,rfl,hs1,hs2,⟨Sl.own o9,Sl.own v9⟩,X9⟩
set_option maxRecDepth 100000 in
set_option maxHeartbeats 8000000 in
theorem drawHouseStay (v:Value)(w:World)(hc:Code w v):Calls Tryz.prog 21 #[v] w (DrewCar w):=by
 go_enter Tryz.func21,Tryz.ntmps21
 go_wp2_with fail
 refine(l20Open_any v _ (hc.ext (by exact .alloc (.refl _) _))).mono ?_
 rintro e w1 ⟨R,rfl,hR,r1,x1⟩
 have M1:=Lib.hid ((((Mem.start w).blkNew TH10 #[.int .i64 0,.int .i64 0,.slice none 0 0,.int .i64 0,.int .i64 0,.int .i64 0,.int .i64 0,.int .i64 0,.int .i64 0,.slice none 0 0] (w.heap.size) (by simp))).adv x1)
 have lt1_0:w.heap.size<w1.heap.size:=(M1.out.lt (i:=0) rfl rfl).2
 clear x1
 go_wp2_with fail
 refine(l20HouseCar_any R 0 _ r1 (by omega)).mono ?_
 rintro e w2 ⟨h,p,cap,q,c2,id,rfl,hs1,hs2,ho,hv,r2,x2⟩
 have hRw:w.heap.size<R:=by have:=hR;simp at this;omega
 have X2:Ext w w2:=ExtR.new M1.out.ext x2 (by omega)
 have B2:Blk w2 w.heap.size TH10 #[.int .i64 0,.int .i64 0,.slice none 0 0,.int .i64 0,.int .i64 0,.int .i64 0,.int .i64 0,.int .i64 0,.int .i64 0,.slice none 0 0]:=x2.blk (M1.out.blk (i:=0) rfl) (by omega)
 have l2:=B2.lt
 obtain⟨z0,zf0,z1,zf1,z2,zf2,z3,zf3,z4,zf4,z5,zf5,z6,zf6,z7,zf7,z8,zf8,z9,zf9⟩:=(B2).tenf
 go_wp2
 generalize hw9:World.setCell _ _ _=w9
 have hR9:ExtR w.heap.size w2 w9:=by rw[←hw9];exact((((((((((ExtR.refl w.heap.size w2).setCell (p:=⟨w.heap.size,0,none⟩) (.inl rfl) (.int .i64 h.wide)).setCell (p:=⟨w.heap.size,1,none⟩) (.inl rfl) (.int .i64 h.deep)).setCell (p:=⟨w.heap.size,2,none⟩) (.inl rfl) (.slice p h.cells.length cap)).setCell (p:=⟨w.heap.size,3,none⟩) (.inl rfl) (.int .i64 h.free)).setCell (p:=⟨w.heap.size,4,none⟩) (.inl rfl) (.int .i64 h.step)).setCell (p:=⟨w.heap.size,5,none⟩) (.inl rfl) (.int .i64 h.price)).setCell (p:=⟨w.heap.size,6,none⟩) (.inl rfl) (.int .i64 h.capp)).setCell (p:=⟨w.heap.size,7,none⟩) (.inl rfl) (.int .i64 h.clock)).setCell (p:=⟨w.heap.size,8,none⟩) (.inl rfl) (.int .i64 h.bank)).setCell (p:=⟨w.heap.size,9,none⟩) (.inl rfl) (.slice q h.vs.length c2)
 have Y9:=((((((((((B2).set 0 (.int .i64 h.wide)).set 1 (.int .i64 h.deep)).set 2 (.slice p h.cells.length cap)).set 3 (.int .i64 h.free)).set 4 (.int .i64 h.step)).set 5 (.int .i64 h.price)).set 6 (.int .i64 h.capp)).set 7 (.int .i64 h.clock)).set 8 (.int .i64 h.bank)).set 9 (.slice q h.vs.length c2)
 simp only[List.setIfInBounds_toArray,List.set_cons_zero,List.set_cons_succ]at Y9
 rw[hw9]at Y9
 have X9:Ext w w9:=ExtR.new X2 hR9 (Nat.le_refl _)
 have o9:w9.ownsRow w1.heap.size TI 1 (.slice p h.cells.length cap) h.cells.length (ivs h.cells):=ho.kept hR9 (.inr (own_tyB ho B2 (by decide)))
 have v9:w9.ownsRow w1.heap.size TV 4 (.slice q h.vs.length c2) h.vs.length (h.vs.flatMap visitCells):=hv.kept hR9 (.inr (own_tyB hv B2 (by decide)))
 clear hw9 hR9 z0 zf0 z1 zf1 z2 zf2 z3 zf3 z4 zf4 z5 zf5 z6 zf6 z7 zf7 z8 zf8 z9 zf9
 obtain⟨y0,y1,y2,y3,y4,y5,y6,y7,y8,y9⟩:=(Y9).ten
 exact bodyPost_ret (v:= .tuple #[.agg #[.int .i64 h.wide,.int .i64 h.deep,.slice p h.cells.length cap,.int .i64 h.free,.int .i64 h.step,.int .i64 h.price,.int .i64 h.capp,.int .i64 h.clock,.int .i64 h.bank,.slice q h.vs.length c2],.int .i64 id]) (by simp[results,Tryz.results21,go_sem, *]) rfl ⟨h,p,cap,q,c2,id,rfl,hs1,hs2,⟨Sl.own o9,Sl.own v9⟩,X9⟩
set_option maxRecDepth 100000 in
set_option maxHeartbeats 8000000 in
theorem drawHouseDue (v:Value)(w:World)(hc:Code w v):Calls Tryz.prog 25 #[v] w (DrewCar w):=by
 go_enter Tryz.func25,Tryz.ntmps25
 go_wp2_with fail
 refine(l20Open_any v _ (hc.ext (by exact .alloc (.refl _) _))).mono ?_
 rintro e w1 ⟨R,rfl,hR,r1,x1⟩
 have M1:=Lib.hid ((((Mem.start w).blkNew TH10 #[.int .i64 0,.int .i64 0,.slice none 0 0,.int .i64 0,.int .i64 0,.int .i64 0,.int .i64 0,.int .i64 0,.int .i64 0,.slice none 0 0] (w.heap.size) (by simp))).adv x1)
 have lt1_0:w.heap.size<w1.heap.size:=(M1.out.lt (i:=0) rfl rfl).2
 clear x1
 go_wp2_with fail
 refine(l20HouseCar_any R 0 _ r1 (by omega)).mono ?_
 rintro e w2 ⟨h,p,cap,q,c2,id,rfl,hs1,hs2,ho,hv,r2,x2⟩
 have hRw:w.heap.size<R:=by have:=hR;simp at this;omega
 have X2:Ext w w2:=ExtR.new M1.out.ext x2 (by omega)
 have B2:Blk w2 w.heap.size TH10 #[.int .i64 0,.int .i64 0,.slice none 0 0,.int .i64 0,.int .i64 0,.int .i64 0,.int .i64 0,.int .i64 0,.int .i64 0,.slice none 0 0]:=x2.blk (M1.out.blk (i:=0) rfl) (by omega)
 have l2:=B2.lt
 obtain⟨z0,zf0,z1,zf1,z2,zf2,z3,zf3,z4,zf4,z5,zf5,z6,zf6,z7,zf7,z8,zf8,z9,zf9⟩:=(B2).tenf
 go_wp2
 generalize hw9:World.setCell _ _ _=w9
 have hR9:ExtR w.heap.size w2 w9:=by rw[←hw9];exact((((((((((ExtR.refl w.heap.size w2).setCell (p:=⟨w.heap.size,0,none⟩) (.inl rfl) (.int .i64 h.wide)).setCell (p:=⟨w.heap.size,1,none⟩) (.inl rfl) (.int .i64 h.deep)).setCell (p:=⟨w.heap.size,2,none⟩) (.inl rfl) (.slice p h.cells.length cap)).setCell (p:=⟨w.heap.size,3,none⟩) (.inl rfl) (.int .i64 h.free)).setCell (p:=⟨w.heap.size,4,none⟩) (.inl rfl) (.int .i64 h.step)).setCell (p:=⟨w.heap.size,5,none⟩) (.inl rfl) (.int .i64 h.price)).setCell (p:=⟨w.heap.size,6,none⟩) (.inl rfl) (.int .i64 h.capp)).setCell (p:=⟨w.heap.size,7,none⟩) (.inl rfl) (.int .i64 h.clock)).setCell (p:=⟨w.heap.size,8,none⟩) (.inl rfl) (.int .i64 h.bank)).setCell (p:=⟨w.heap.size,9,none⟩) (.inl rfl) (.slice q h.vs.length c2)
 have Y9:=((((((((((B2).set 0 (.int .i64 h.wide)).set 1 (.int .i64 h.deep)).set 2 (.slice p h.cells.length cap)).set 3 (.int .i64 h.free)).set 4 (.int .i64 h.step)).set 5 (.int .i64 h.price)).set 6 (.int .i64 h.capp)).set 7 (.int .i64 h.clock)).set 8 (.int .i64 h.bank)).set 9 (.slice q h.vs.length c2)
 simp only[List.setIfInBounds_toArray,List.set_cons_zero,List.set_cons_succ]at Y9
 rw[hw9]at Y9
 have X9:Ext w w9:=ExtR.new X2 hR9 (Nat.le_refl _)
 have o9:w9.ownsRow w1.heap.size TI 1 (.slice p h.cells.length cap) h.cells.length (ivs h.cells):=ho.kept hR9 (.inr (own_tyB ho B2 (by decide)))
 have v9:w9.ownsRow w1.heap.size TV 4 (.slice q h.vs.length c2) h.vs.length (h.vs.flatMap visitCells):=hv.kept hR9 (.inr (own_tyB hv B2 (by decide)))
 clear hw9 hR9 z0 zf0 z1 zf1 z2 zf2 z3 zf3 z4 zf4 z5 zf5 z6 zf6 z7 zf7 z8 zf8 z9 zf9
 obtain⟨y0,y1,y2,y3,y4,y5,y6,y7,y8,y9⟩:=(Y9).ten
 exact bodyPost_ret (v:= .tuple #[.agg #[.int .i64 h.wide,.int .i64 h.deep,.slice p h.cells.length cap,.int .i64 h.free,.int .i64 h.step,.int .i64 h.price,.int .i64 h.capp,.int .i64 h.clock,.int .i64 h.bank,.slice q h.vs.length c2],.int .i64 id]) (by simp[results,Tryz.results25,go_sem, *]) rfl ⟨h,p,cap,q,c2,id,rfl,hs1,hs2,⟨Sl.own o9,Sl.own v9⟩,X9⟩
set_option maxRecDepth 100000 in
set_option maxHeartbeats 8000000 in
theorem drawHouseMay (v:Value)(w:World)(hc:Code w v):Calls Tryz.prog 29 #[v] w (DrewCar w):=by
 go_enter Tryz.func29,Tryz.ntmps29
 go_wp2_with fail
 refine(l20Open_any v _ (hc.ext (by exact .alloc (.refl _) _))).mono ?_
 rintro e w1 ⟨R,rfl,hR,r1,x1⟩
 have M1:=Lib.hid ((((Mem.start w).blkNew TH10 #[.int .i64 0,.int .i64 0,.slice none 0 0,.int .i64 0,.int .i64 0,.int .i64 0,.int .i64 0,.int .i64 0,.int .i64 0,.slice none 0 0] (w.heap.size) (by simp))).adv x1)
 have lt1_0:w.heap.size<w1.heap.size:=(M1.out.lt (i:=0) rfl rfl).2
 clear x1
 go_wp2_with fail
 refine(l20HouseCar_any R 0 _ r1 (by omega)).mono ?_
 rintro e w2 ⟨h,p,cap,q,c2,id,rfl,hs1,hs2,ho,hv,r2,x2⟩
 have hRw:w.heap.size<R:=by have:=hR;simp at this;omega
 have X2:Ext w w2:=ExtR.new M1.out.ext x2 (by omega)
 have B2:Blk w2 w.heap.size TH10 #[.int .i64 0,.int .i64 0,.slice none 0 0,.int .i64 0,.int .i64 0,.int .i64 0,.int .i64 0,.int .i64 0,.int .i64 0,.slice none 0 0]:=x2.blk (M1.out.blk (i:=0) rfl) (by omega)
 have l2:=B2.lt
 obtain⟨z0,zf0,z1,zf1,z2,zf2,z3,zf3,z4,zf4,z5,zf5,z6,zf6,z7,zf7,z8,zf8,z9,zf9⟩:=(B2).tenf
 go_wp2
 generalize hw9:World.setCell _ _ _=w9
 have hR9:ExtR w.heap.size w2 w9:=by rw[←hw9];exact((((((((((ExtR.refl w.heap.size w2).setCell (p:=⟨w.heap.size,0,none⟩) (.inl rfl) (.int .i64 h.wide)).setCell (p:=⟨w.heap.size,1,none⟩) (.inl rfl) (.int .i64 h.deep)).setCell (p:=⟨w.heap.size,2,none⟩) (.inl rfl) (.slice p h.cells.length cap)).setCell (p:=⟨w.heap.size,3,none⟩) (.inl rfl) (.int .i64 h.free)).setCell (p:=⟨w.heap.size,4,none⟩) (.inl rfl) (.int .i64 h.step)).setCell (p:=⟨w.heap.size,5,none⟩) (.inl rfl) (.int .i64 h.price)).setCell (p:=⟨w.heap.size,6,none⟩) (.inl rfl) (.int .i64 h.capp)).setCell (p:=⟨w.heap.size,7,none⟩) (.inl rfl) (.int .i64 h.clock)).setCell (p:=⟨w.heap.size,8,none⟩) (.inl rfl) (.int .i64 h.bank)).setCell (p:=⟨w.heap.size,9,none⟩) (.inl rfl) (.slice q h.vs.length c2)
 have Y9:=((((((((((B2).set 0 (.int .i64 h.wide)).set 1 (.int .i64 h.deep)).set 2 (.slice p h.cells.length cap)).set 3 (.int .i64 h.free)).set 4 (.int .i64 h.step)).set 5 (.int .i64 h.price)).set 6 (.int .i64 h.capp)).set 7 (.int .i64 h.clock)).set 8 (.int .i64 h.bank)).set 9 (.slice q h.vs.length c2)
 simp only[List.setIfInBounds_toArray,List.set_cons_zero,List.set_cons_succ]at Y9
 rw[hw9]at Y9
 have X9:Ext w w9:=ExtR.new X2 hR9 (Nat.le_refl _)
 have o9:w9.ownsRow w1.heap.size TI 1 (.slice p h.cells.length cap) h.cells.length (ivs h.cells):=ho.kept hR9 (.inr (own_tyB ho B2 (by decide)))
 have v9:w9.ownsRow w1.heap.size TV 4 (.slice q h.vs.length c2) h.vs.length (h.vs.flatMap visitCells):=hv.kept hR9 (.inr (own_tyB hv B2 (by decide)))
 clear hw9 hR9 z0 zf0 z1 zf1 z2 zf2 z3 zf3 z4 zf4 z5 zf5 z6 zf6 z7 zf7 z8 zf8 z9 zf9
 obtain⟨y0,y1,y2,y3,y4,y5,y6,y7,y8,y9⟩:=(Y9).ten
 exact bodyPost_ret (v:= .tuple #[.agg #[.int .i64 h.wide,.int .i64 h.deep,.slice p h.cells.length cap,.int .i64 h.free,.int .i64 h.step,.int .i64 h.price,.int .i64 h.capp,.int .i64 h.clock,.int .i64 h.bank,.slice q h.vs.length c2],.int .i64 id]) (by simp[results,Tryz.results29,go_sem, *]) rfl ⟨h,p,cap,q,c2,id,rfl,hs1,hs2,⟨Sl.own o9,Sl.own v9⟩,X9⟩
end Go.Proofs.YteejdnmmpmcmeaaGreatDoor

