/-
  Texts of this proof, packed (@packed).
-/
import Derived.Test.YtndcnflchkfaeaaDoorK4
import Derived.Test.YtndcnflchkfaeaaDoorK9
import Derived.Test.YtndcnflchkfaeaaDoorK22
import Derived.Test.YtndcnflchkfaeaaDoorK23
namespace Go.Proofs.YtndcnflchkfaeaaDoor
open Go.RowKit
set_option linter.unusedVariables false
set_option linter.unusedSimpArgs false
def RandBook (R k:Nat)(w:World)(e:Ending)(w':World):Prop:= ∃a b c d:Int,e= .returned (bookV a b c d)∧Rand w' R (k+40)∧ExtR R w w'
theorem ExtR.of_drew {R:Nat}{a b:World}(h:ExtR R a.drew b):ExtR R a b:=⟨h.os,h.tape,h.output,h.size,h.block⟩
theorem two_at: ∀(a b:Int) (x:Nat),x<2→ ∃y:Int,(#[.int .i64 a,.int .i64 b]:Array Value)[x]? =some (.int .i64 y)
 |a,b,0,_=>⟨a,rfl⟩|a,b,1,_=>⟨b,rfl⟩|a,b,n+2,h=>absurd h (by omega)
set_option maxRecDepth 100000 in
set_option maxHeartbeats 8000000 in
theorem l20Book_any (R k:Nat)(id n:Int)(w:World)(hr0:Rand w R k)(hk:k≤1099511600000)(hn0:0≤n)(hn1:n≤1000000):
  Calls Tryd.prog 51 #[.pointer (some ⟨R,0,none⟩),.int .i64 id,.int .i64 n] w (RandBook R k w):=by
 have hR:=hr0.lt
 go_enter Tryd.func51,Tryd.ntmps51
 go_wp2_with fail
 refine(pick_any R k 14 _ (hr0.ext (by(repeat' (first|exact Ext.refl _|(with_reducible assumption)|(with_reducible refine Ext.alloc ?_ _)|(with_reducible refine Ext.setCell ?_ (by first|exact Nat.le_refl _|(dsimp only;omega)|(simp;done)|(simp;omega)) _)|(with_reducible refine Ext.drew ?_)|(with_reducible refine Ext.drewN ?_ _)|(refine Ext.trans ?_ (by with_reducible assumption)))))) (by omega)).mono ?_
 rintro e w1 ⟨x,rfl,xa,xb,r1,x1⟩
 have M1:=Lib.hid ((((MemR.start R w hR).blkNew TBk #[.int .i64 0,.int .i64 0,.int .i64 0,.int .i64 0] (w.heap.size) (by simp))).pickd x1)
 clear x1
 have lt1_0:w.heap.size<w1.heap.size:=(M1.out.lt (i:=0) rfl rfl).2
 go_wp2_with fail
 refine(pick_any R (k+1) (20) _ r1 (by omega)).mono ?_
 rintro e w2 ⟨y,rfl,ya,yb,r2,yx⟩
 have M2:=Lib.hid ((M1.out).pickd yx)
 clear yx M1
 clear lt1_0
 have lt2_0:w.heap.size<w2.heap.size:=(M2.out.lt (i:=0) rfl rfl).2
 go_wp2
 have r3:Rand (w2.alloc (.cells #[.int .i64 id,.int .i64 x,.int .i64 0,.int .i64 y] TBk)) R (k+2):=by(repeat' (first|(with_reducible assumption)|(with_reducible refine Rand.alloc ?_ _)|(with_reducible refine Rand.setCell ?_ (by first|exact Nat.le_refl _|(dsimp only;omega)|(simp;done)|(simp;omega)) _)|(with_reducible refine Rand.drew ?_)|(with_reducible refine Rand.drewN ?_ _)|(refine Rand.ext ?_ (by with_reducible assumption))))
 have M3:=Lib.hid (((M2.out).blkNew TBk #[.int .i64 id,.int .i64 x,.int .i64 0,.int .i64 y] (w2.heap.size) (by simp)))
 generalize hwz:(w2.alloc (.cells #[.int .i64 id,.int .i64 x,.int .i64 0,.int .i64 y] TBk))=w3
 rw[hwz]at M3 r3
 clear hwz r2 r1 hr0 M2
 clear lt2_0
 have lt3_0:w2.heap.size<w3.heap.size:=(M3.out.lt (i:=0) rfl rfl).2
 have lt3_1:w.heap.size<w3.heap.size:=(M3.out.lt (i:=1) rfl rfl).2
 have hBR:R<w2.heap.size:=Nat.lt_of_lt_of_le hR (M3.out.lt (i:=0) rfl rfl).1
 obtain⟨B,hB⟩: ∃a,a=w2.heap.size:=⟨_,rfl⟩
 rw[←hB]at M3 hBR lt3_0⊢
 clear hB
 have B0:=Lib.hid (M3.out.blk (i:=0) rfl)
 have hR3:R<w3.heap.size:=r3.lt
 refine region_linR (gl [gEq (.pointer (some ⟨B,1,none⟩)),gEq (.int .i64 x),gInt,gEq (.pointer (some ⟨R,0,none⟩)),gNum (8),gInt,gEq (.pointer (some ⟨B,2,none⟩))]) R (k+2) 1 7 (by kernel_rfl) rfl (by kernel_rfl) (by kernel_rfl) (by kernel_rfl) r3 (glR_mono (glR_cons (gEqR_mono _) (glR_cons (gEqR_mono _) (glR_cons (gIntR_mono) (glR_cons (gEqR_mono _) (glR_cons (gNumR_mono _) (glR_cons (gIntR_mono) (glR_cons (gEqR_mono _) (glR_nil))))))))) rfl (k:=8) (by kernel_rfl) (by decide) (ls:= [(0,some 14),(1,some 15),(2,some 16),(3,some 17),(4,some 18),(5,some 19),(6,some 20)]) (by kernel_rfl) (ir:= [0,1,2,3,4,5,6]) (by kernel_rfl) ?steps (tl:=#[true,true,true,true,true,true,true,false]) (by kernel_rfl) ?fin
 case steps=>
  refine StepsLR.cons (ps:= []) rfl (by kernel_rfl) (fun wi kk hx hr hkk=> ?_) ?_
  ·intro K hK
   go_simp
   exact hK _ _ ⟨.pointer (some ⟨B,1,none⟩),rfl,rfl,(randE hr (Ext.refl _))⟩
  refine StepsLR.cons (ps:= [(0,some 14)]) rfl (by kernel_rfl) (fun wi kk hx hr hkk=> ?_) ?_
  ·intro v0 h0 K hK
   obtain rfl:=h0
   have cl:=(hx.of_drew.blk B0.out (by omega)).cell 1
   go_simp
   exact hK _ _ ⟨.int .i64 x,rfl,rfl,(randE hr (Ext.refl _))⟩
  refine StepsLR.cons (ps:= [(1,some 15)]) rfl (by kernel_rfl) (fun wi kk hx hr hkk=> ?_) ?_
  ·intro v1 h1 K hK
   obtain rfl:=h1
   go_simp
   exact hK _ _ ⟨_,rfl,⟨_,rfl⟩,(randE hr (Ext.refl _))⟩
  refine StepsLR.cons (ps:= []) rfl (by kernel_rfl) (fun wi kk hx hr hkk=> ?_) ?_
  ·intro K hK
   go_simp
   exact hK _ _ ⟨.pointer (some ⟨R,0,none⟩),rfl,rfl,(randE hr (Ext.refl _))⟩
  refine StepsLR.cons (ps:= [(3,some 17)]) rfl (by kernel_rfl) (fun wi kk hx hr hkk=> ?_) ?_
  ·intro v3 h3 K hK
   obtain rfl:=h3
   go_wp2_with fail
   refine(pick_any R kk (8) _ hr (by omega)).mono ?_
   rintro e w5 ⟨x,rfl,xa,xb,r5,x5⟩
   go_simp
   exact hK _ _ ⟨.int .i64 x,rfl,⟨x,rfl,xa,by have hp:(0:Int)<8:=(by omega);omega⟩,⟨x5,r5⟩⟩
  refine StepsLR.cons (ps:= [(2,some 16),(4,some 18)]) rfl (by kernel_rfl) (fun wi kk hx hr hkk=> ?_) ?_
  ·intro v2 h2 v4 h4 K hK
   obtain⟨n2,rfl⟩:=h2
   obtain⟨x4,rfl,xa4,xb4⟩:=h4
   go_simp
   exact hK _ _ ⟨_,rfl,⟨_,rfl⟩,(randE hr (Ext.refl _))⟩
  refine StepsLR.cons (ps:= []) rfl (by kernel_rfl) (fun wi kk hx hr hkk=> ?_) StepsLR.nil
  ·intro K hK
   go_simp
   exact hK _ _ ⟨.pointer (some ⟨B,2,none⟩),rfl,rfl,(randE hr (Ext.refl _))⟩
 case fin=>
  intro wi hx hr v0 h0 v1 h1 v2 h2 v3 h3 v4 h4 v5 h5 v6 h6
  obtain rfl:=h0
  obtain rfl:=h1
  obtain⟨n2,rfl⟩:=h2
  obtain rfl:=h3
  obtain⟨x4,rfl,xa4,xb4⟩:=h4
  obtain⟨n5,rfl⟩:=h5
  obtain rfl:=h6
  have hx1:ExtR R w3 wi:=hx.of_drew
  have hRi:R<wi.heap.size:=hr.lt
  have M4:=Lib.hid ((M3.out).pickd hx1)
  clear hx1 M3
  clear lt3_0 lt3_1
  have lt4_0:B<wi.heap.size:=(M4.out.lt (i:=0) rfl rfl).2
  have lt4_1:w.heap.size<wi.heap.size:=(M4.out.lt (i:=1) rfl rfl).2
  have d2:wi.cell? ⟨B,2,none⟩=some (.int .i64 0):=(M4.out.blk (i:=0) rfl).cell 2
  have df2:wi.frozen? ⟨B,2,none⟩=false:=(M4.out.blk (i:=0) rfl).frozen 2
  refine wpAny_ready (rs:= [7]) (by kernel_rfl) (by simp) ?_
  refine AllReady.cons rfl (fun K hK=> ?_) AllReady.nil
  go_simp
  refine hK _ _ ?_
  clear hK K
  refine wpAny_done (by kernel_rfl) ?_ _
  try simp only[Act.put,List.setIfInBounds_toArray,List.set_cons_zero,List.set_cons_succ]
  have r4:Rand (wi.setCell ⟨B,2,none⟩ (.int .i64 n5)) R (k+9):=Rand.mono (k:=k+2+7) (by(repeat' (first|(with_reducible assumption)|(with_reducible refine Rand.alloc ?_ _)|(with_reducible refine Rand.setCell ?_ (by first|exact Nat.le_refl _|(dsimp only;omega)|(simp;done)|(simp;omega)) _)|(with_reducible refine Rand.drew ?_)|(with_reducible refine Rand.drewN ?_ _)|(refine Rand.ext ?_ (by with_reducible assumption))))) (by omega)
  clear d2 df2 lt4_0 lt4_1
  clear hr B0 r3
  have M5:=Lib.hid (show MemR R w (wi.setCell ⟨B,2,none⟩ (.int .i64 n5)) [blkI w.heap.size (B) TBk #[.int .i64 id,.int .i64 x,.int .i64 n5,.int .i64 y],blkI w.heap.size (w.heap.size) TBk #[.int .i64 0,.int .i64 0,.int .i64 0,.int .i64 0]]from((M4.out).store (i:=0) rfl 2 (.int .i64 n5)))
  generalize hwz:World.setCell _ _ _=w4
  rw[hwz]at M5 r4
  clear hwz M4
  have lt5_0:B<w4.heap.size:=(M5.out.lt (i:=0) rfl rfl).2
  have lt5_1:w.heap.size<w4.heap.size:=(M5.out.lt (i:=1) rfl rfl).2
  go_wp2_with fail
  refine(odd_any R (k+9) n _ r4 (by omega) hn0 hn1).mono ?_
  rintro e w5 ⟨t,rfl,r5,x5⟩
  clear r4
  have M6:=Lib.hid ((M5.out).pickd x5)
  clear x5 M5
  clear lt5_0 lt5_1
  have lt6_0:B<w5.heap.size:=(M6.out.lt (i:=0) rfl rfl).2
  have lt6_1:w.heap.size<w5.heap.size:=(M6.out.lt (i:=1) rfl rfl).2
  cases t with
  |false=>
   obtain⟨a0,a1,a2,a3,af0,af1,af2,af3⟩:=(M6.out.blk (i:=1) rfl).four
   obtain⟨b0,b1,b2,b3,bf0,bf1,bf2,bf3⟩:=(M6.out.blk (i:=0) rfl).four
   have ne0_1a: ¬(B=w.heap.size):=M6.out.ne (i:=0) (j:=1) (by omega) rfl rfl rfl rfl
   have ne0_1b: ¬(w.heap.size=B):=fun h=>ne0_1a h.symm
   go_wp2
   clear a0 a1 a2 a3 af0 af1 af2 af3 b0 b1 b2 b3 bf0 bf1 bf2 bf3 ne0_1a ne0_1b
   have M7:=Lib.hid (show MemR R w ((w5.setCell ⟨w.heap.size,0,none⟩ (.int .i64 id)).setCell ⟨w.heap.size,1,none⟩ (.int .i64 x)) [blkI w.heap.size (B) TBk #[.int .i64 id,.int .i64 x,.int .i64 n5,.int .i64 y],blkI w.heap.size (w.heap.size) TBk #[.int .i64 id,.int .i64 x,.int .i64 0,.int .i64 0]]from((((M6.out).store (i:=1) rfl 0 (.int .i64 id))).store (i:=1) rfl 1 (.int .i64 x)))
   have M8:=Lib.hid (show MemR R w ((((w5.setCell ⟨w.heap.size,0,none⟩ (.int .i64 id)).setCell ⟨w.heap.size,1,none⟩ (.int .i64 x)).setCell ⟨w.heap.size,2,none⟩ (.int .i64 n5)).setCell ⟨w.heap.size,3,none⟩ (.int .i64 y)) [blkI w.heap.size (B) TBk #[.int .i64 id,.int .i64 x,.int .i64 n5,.int .i64 y],blkI w.heap.size (w.heap.size) TBk #[.int .i64 id,.int .i64 x,.int .i64 n5,.int .i64 y]]from((((M7.out).store (i:=1) rfl 2 (.int .i64 n5))).store (i:=1) rfl 3 (.int .i64 y)))
   have r9:Rand ((((w5.setCell ⟨w.heap.size,0,none⟩ (.int .i64 id)).setCell ⟨w.heap.size,1,none⟩ (.int .i64 x)).setCell ⟨w.heap.size,2,none⟩ (.int .i64 n5)).setCell ⟨w.heap.size,3,none⟩ (.int .i64 y)) R (k+9+1):=by(repeat' (first|(with_reducible assumption)|(with_reducible refine Rand.alloc ?_ _)|(with_reducible refine Rand.setCell ?_ (by first|exact Nat.le_refl _|(dsimp only;omega)|(simp;done)|(simp;omega)) _)|(with_reducible refine Rand.drew ?_)|(with_reducible refine Rand.drewN ?_ _)|(refine Rand.ext ?_ (by with_reducible assumption))))
   clear lt6_0 lt6_1
   have M9:=Lib.hid (M8.out)
   generalize hwz:World.setCell _ _ _=wz
   rw[hwz]at M9 r9
   clear hwz M6 M7 M8
   have lt9_0:B<wz.heap.size:=(M9.out.lt (i:=0) rfl rfl).2
   have lt9_1:w.heap.size<wz.heap.size:=(M9.out.lt (i:=1) rfl rfl).2
   obtain⟨y0,y1,y2,y3,yf0,yf1,yf2,yf3⟩:=(M9.out.blk (i:=1) rfl).four
   exact bodyPost_ret (v:= .agg #[.int .i64 id,.int .i64 x,.int .i64 n5,.int .i64 y]) (by simp[results,Tryd.results51,go_sem, *]) rfl ⟨_,_,_,_,rfl,r9.mono (by omega),M9.out.ext⟩
  |true=>
   go_wp2_with fail
   refine(pick_any R (k+9+1) (4) _ r5 (by omega)).mono ?_
   rintro e w6 ⟨u,rfl,ua,ub,r6,ux⟩
   have M7:=Lib.hid ((M6.out).pickd ux)
   clear ux M6
   clear lt6_0 lt6_1
   have lt7_0:B<w6.heap.size:=(M7.out.lt (i:=0) rfl rfl).2
   have lt7_1:w.heap.size<w6.heap.size:=(M7.out.lt (i:=1) rfl rfl).2
   have hu:u=0∨u=1∨u=2∨u=3:=by omega
   clear ua ub r5
   rcases hu with rfl|rfl|rfl|rfl
   ·skip
    go_upto_region 7 with fail
    have B0:=Lib.hid (M7.out.blk (i:=0) rfl)
    have hR6:R<w6.heap.size:=r6.lt
    refine region_linR (gl [gEq (.pointer (some ⟨B,1,none⟩)),gEq (.int .i64 x),gLit (w6.heap.size) TI #[.int .i64 x,.int .i64 31] 2,gEq (.pointer (some ⟨R,0,none⟩)),gNum (2),(fun v w'=> ∃g z:Nat,v= .pointer (some ⟨g,z,none⟩)∧z<2∧w6.heap.size≤g∧Blk w' g TI #[.int .i64 x,.int .i64 31]),gInt,gEq (.pointer (some ⟨B,2,none⟩))]) R (k+11) 1 8 (by kernel_rfl) rfl (by kernel_rfl) (by kernel_rfl) (by kernel_rfl) r6 (glR_mono (glR_cons (gEqR_mono _) (glR_cons (gEqR_mono _) (glR_cons (gLitR_mono (by omega) _ _ _) (glR_cons (gEqR_mono _) (glR_cons (gNumR_mono _) (glR_cons (fun v w w' ⟨g,z,h1,h2,h3,h4⟩ hx=>⟨g,z,h1,h2,h3,ExtR.blk hx h4 (by omega)⟩) (glR_cons (gIntR_mono) (glR_cons (gEqR_mono _) (glR_nil)))))))))) rfl (k:=9) (by kernel_rfl) (by decide) (ls:= [(0,some 29),(1,some 30),(2,some 31),(3,some 32),(4,some 33),(5,some 34),(6,some 35),(7,some 36)]) (by kernel_rfl) (ir:= [0,1,2,3,4,5,6,7]) (by kernel_rfl) ?steps (tl:=#[true,true,true,true,true,true,true,true,false]) (by kernel_rfl) ?fin
    case steps=>
     refine StepsLR.cons (ps:= []) rfl (by kernel_rfl) (fun wi kk hx hr hkk=> ?_) ?_
     ·intro K hK
      go_simp
      exact hK _ _ ⟨.pointer (some ⟨B,1,none⟩),rfl,rfl,(randE hr (Ext.refl _))⟩
     refine StepsLR.cons (ps:= [(0,some 29)]) rfl (by kernel_rfl) (fun wi kk hx hr hkk=> ?_) ?_
     ·intro v0 h0 K hK
      obtain rfl:=h0
      have cl:=(hx.of_drew.blk B0.out (by omega)).cell 1
      go_simp
      exact hK _ _ ⟨.int .i64 x,rfl,rfl,(randE hr (Ext.refl _))⟩
     refine StepsLR.cons (ps:= [(1,some 30)]) rfl (by kernel_rfl) (fun wi kk hx hr hkk=> ?_) ?_
     ·intro v1 h1 K hK
      obtain rfl:=h1
      go_simp
      exact hK _ _ ⟨.slice (some ⟨wi.heap.size,0,none⟩) 2 2,rfl,⟨wi.heap.size,rfl,by have:=hx.sz;simp at this;omega,Blk.new _ _ _⟩,(randE hr ((Ext.refl _).alloc _))⟩
     refine StepsLR.cons (ps:= []) rfl (by kernel_rfl) (fun wi kk hx hr hkk=> ?_) ?_
     ·intro K hK
      go_simp
      exact hK _ _ ⟨.pointer (some ⟨R,0,none⟩),rfl,rfl,(randE hr (Ext.refl _))⟩
     refine StepsLR.cons (ps:= [(3,some 32)]) rfl (by kernel_rfl) (fun wi kk hx hr hkk=> ?_) ?_
     ·intro v3 h3 K hK
      obtain rfl:=h3
      go_wp2_with fail
      refine(pick_any R kk (2) _ hr (by omega)).mono ?_
      rintro e w5 ⟨x,rfl,xa,xb,r5,x5⟩
      go_simp
      exact hK _ _ ⟨.int .i64 x,rfl,⟨x,rfl,xa,by have hp:(0:Int)<2:=(by omega);omega⟩,⟨x5,r5⟩⟩
     refine StepsLR.cons (ps:= [(2,some 31),(4,some 33)]) rfl (by kernel_rfl) (fun wi kk hx hr hkk=> ?_) ?_
     ·intro v2 h2 v4 h4 K hK
      obtain⟨g2,rfl,hg2,B2⟩:=h2
      obtain⟨x4,rfl,xa4,xb4⟩:=h4
      obtain⟨xn,rfl⟩:=Int.eq_ofNat_of_zero_le xa4
      have i1:(xn:Int)<2:=xb4
      have i0:(0:Int)≤(xn:Int):=by omega
      go_simp
      exact hK _ _ ⟨_,rfl,⟨g2,xn,rfl,by omega,hg2,B2⟩,(randE hr (Ext.refl _))⟩
     refine StepsLR.cons (ps:= [(5,some 34)]) rfl (by kernel_rfl) (fun wi kk hx hr hkk=> ?_) ?_
     ·intro v5 h5 K hK
      obtain⟨g5,z5,rfl,xb5,hg5,B5⟩:=h5
      obtain⟨y,hy⟩:=two_at x 31 z5 xb5
      have c:=(B5.cell z5).trans hy
      go_simp
      exact hK _ _ ⟨_,rfl,⟨_,rfl⟩,(randE hr (Ext.refl _))⟩
     refine StepsLR.cons (ps:= []) rfl (by kernel_rfl) (fun wi kk hx hr hkk=> ?_) StepsLR.nil
     ·intro K hK
      go_simp
      exact hK _ _ ⟨.pointer (some ⟨B,2,none⟩),rfl,rfl,(randE hr (Ext.refl _))⟩
    case fin=>
     intro wi hx hr v0 h0 v1 h1 v2 h2 v3 h3 v4 h4 v5 h5 v6 h6 v7 h7
     obtain rfl:=h0
     obtain rfl:=h1
     obtain⟨g2,rfl,hg2,B2⟩:=h2
     obtain rfl:=h3
     obtain⟨x4,rfl,xa4,xb4⟩:=h4
     obtain⟨g5,z5,rfl,xb5,hg5,B5⟩:=h5
     obtain⟨n6,rfl⟩:=h6
     obtain rfl:=h7
     have hx1:ExtR R w6 wi:=hx.of_drew
     have hRi:R<wi.heap.size:=hr.lt
     have M8:=Lib.hid ((M7.out).pickd hx1)
     clear hx1 M7
     clear lt7_0 lt7_1
     have lt8_0:B<wi.heap.size:=(M8.out.lt (i:=0) rfl rfl).2
     have lt8_1:w.heap.size<wi.heap.size:=(M8.out.lt (i:=1) rfl rfl).2
     have d2:wi.cell? ⟨B,2,none⟩=some (.int .i64 n5):=(M8.out.blk (i:=0) rfl).cell 2
     have df2:wi.frozen? ⟨B,2,none⟩=false:=(M8.out.blk (i:=0) rfl).frozen 2
     refine wpAny_ready (rs:= [8]) (by kernel_rfl) (by simp) ?_
     refine AllReady.cons rfl (fun K hK=> ?_) AllReady.nil
     go_simp
     refine hK _ _ ?_
     clear hK K
     refine wpAny_done (by kernel_rfl) ?_ _
     try simp only[Act.put,List.setIfInBounds_toArray,List.set_cons_zero,List.set_cons_succ]
     have r7:Rand (wi.setCell ⟨B,2,none⟩ (.int .i64 n6)) R (k+19):=Rand.mono (k:=k+11+8) (by(repeat' (first|(with_reducible assumption)|(with_reducible refine Rand.alloc ?_ _)|(with_reducible refine Rand.setCell ?_ (by first|exact Nat.le_refl _|(dsimp only;omega)|(simp;done)|(simp;omega)) _)|(with_reducible refine Rand.drew ?_)|(with_reducible refine Rand.drewN ?_ _)|(refine Rand.ext ?_ (by with_reducible assumption))))) (by omega)
     clear d2 df2 lt8_0 lt8_1
     clear hr B0 r6
     have M9:=Lib.hid (show MemR R w (wi.setCell ⟨B,2,none⟩ (.int .i64 n6)) [blkI w.heap.size (B) TBk #[.int .i64 id,.int .i64 x,.int .i64 n6,.int .i64 y],blkI w.heap.size (w.heap.size) TBk #[.int .i64 0,.int .i64 0,.int .i64 0,.int .i64 0]]from((M8.out).store (i:=0) rfl 2 (.int .i64 n6)))
     generalize hwz:World.setCell _ _ _=w7
     rw[hwz]at M9 r7
     clear hwz M8
     have lt9_0:B<w7.heap.size:=(M9.out.lt (i:=0) rfl rfl).2
     have lt9_1:w.heap.size<w7.heap.size:=(M9.out.lt (i:=1) rfl rfl).2
     obtain⟨a0,a1,a2,a3,af0,af1,af2,af3⟩:=(M9.out.blk (i:=1) rfl).four
     obtain⟨b0,b1,b2,b3,bf0,bf1,bf2,bf3⟩:=(M9.out.blk (i:=0) rfl).four
     have ne0_1a: ¬(B=w.heap.size):=M9.out.ne (i:=0) (j:=1) (by omega) rfl rfl rfl rfl
     have ne0_1b: ¬(w.heap.size=B):=fun h=>ne0_1a h.symm
     go_wp2
     clear a0 a1 a2 a3 af0 af1 af2 af3 b0 b1 b2 b3 bf0 bf1 bf2 bf3 ne0_1a ne0_1b
     have M10:=Lib.hid (show MemR R w ((w7.setCell ⟨w.heap.size,0,none⟩ (.int .i64 id)).setCell ⟨w.heap.size,1,none⟩ (.int .i64 x)) [blkI w.heap.size (B) TBk #[.int .i64 id,.int .i64 x,.int .i64 n6,.int .i64 y],blkI w.heap.size (w.heap.size) TBk #[.int .i64 id,.int .i64 x,.int .i64 0,.int .i64 0]]from((((M9.out).store (i:=1) rfl 0 (.int .i64 id))).store (i:=1) rfl 1 (.int .i64 x)))
     have M11:=Lib.hid (show MemR R w ((((w7.setCell ⟨w.heap.size,0,none⟩ (.int .i64 id)).setCell ⟨w.heap.size,1,none⟩ (.int .i64 x)).setCell ⟨w.heap.size,2,none⟩ (.int .i64 n6)).setCell ⟨w.heap.size,3,none⟩ (.int .i64 y)) [blkI w.heap.size (B) TBk #[.int .i64 id,.int .i64 x,.int .i64 n6,.int .i64 y],blkI w.heap.size (w.heap.size) TBk #[.int .i64 id,.int .i64 x,.int .i64 n6,.int .i64 y]]from((((M10.out).store (i:=1) rfl 2 (.int .i64 n6))).store (i:=1) rfl 3 (.int .i64 y)))
     have r9:Rand ((((w7.setCell ⟨w.heap.size,0,none⟩ (.int .i64 id)).setCell ⟨w.heap.size,1,none⟩ (.int .i64 x)).setCell ⟨w.heap.size,2,none⟩ (.int .i64 n6)).setCell ⟨w.heap.size,3,none⟩ (.int .i64 y)) R (k+19):=by(repeat' (first|(with_reducible assumption)|(with_reducible refine Rand.alloc ?_ _)|(with_reducible refine Rand.setCell ?_ (by first|exact Nat.le_refl _|(dsimp only;omega)|(simp;done)|(simp;omega)) _)|(with_reducible refine Rand.drew ?_)|(with_reducible refine Rand.drewN ?_ _)|(refine Rand.ext ?_ (by with_reducible assumption))))
     clear lt9_0 lt9_1
     have M12:=Lib.hid (M11.out)
     generalize hwz:World.setCell _ _ _=wz
     rw[hwz]at M12 r9
     clear hwz M9 M10 M11
     have lt12_0:B<wz.heap.size:=(M12.out.lt (i:=0) rfl rfl).2
     have lt12_1:w.heap.size<wz.heap.size:=(M12.out.lt (i:=1) rfl rfl).2
     obtain⟨y0,y1,y2,y3,yf0,yf1,yf2,yf3⟩:=(M12.out.blk (i:=1) rfl).four
     exact bodyPost_ret (v:= .agg #[.int .i64 id,.int .i64 x,.int .i64 n6,.int .i64 y]) (by simp[results,Tryd.results51,go_sem, *]) rfl ⟨_,_,_,_,rfl,r9.mono (by omega),M12.out.ext⟩
   ·skip
    obtain⟨d0,d1,d2,d3,df0,df1,df2,df3⟩:=(M7.out.blk (i:=0) rfl).four
    have ne0_1a: ¬(B=w.heap.size):=M7.out.ne (i:=0) (j:=1) (by omega) rfl rfl rfl rfl
    have ne0_1b: ¬(w.heap.size=B):=fun h=>ne0_1a h.symm
    go_upto_region 12 with fail
    clear d0 d1 d2 d3 df0 df1 df2 df3 ne0_1a ne0_1b
    have r7:Rand (w6.setCell ⟨B,1,none⟩ (.int .i64 (-1))) R (k+11):=by(repeat' (first|(with_reducible assumption)|(with_reducible refine Rand.alloc ?_ _)|(with_reducible refine Rand.setCell ?_ (by first|exact Nat.le_refl _|(dsimp only;omega)|(simp;done)|(simp;omega)) _)|(with_reducible refine Rand.drew ?_)|(with_reducible refine Rand.drewN ?_ _)|(refine Rand.ext ?_ (by with_reducible assumption))))
    clear lt7_0 lt7_1
    have M8:=Lib.hid (show MemR R w (w6.setCell ⟨B,1,none⟩ (.int .i64 (-1))) [blkI w.heap.size (B) TBk #[.int .i64 id,.int .i64 (-1),.int .i64 n5,.int .i64 y],blkI w.heap.size (w.heap.size) TBk #[.int .i64 0,.int .i64 0,.int .i64 0,.int .i64 0]]from((M7.out).store (i:=0) rfl 1 (.int .i64 (-1))))
    generalize hwz:World.setCell _ _ _=w7
    rw[hwz]at M8 r7
    clear hwz r6 M7
    have lt8_0:B<w7.heap.size:=(M8.out.lt (i:=0) rfl rfl).2
    have lt8_1:w.heap.size<w7.heap.size:=(M8.out.lt (i:=1) rfl rfl).2
    obtain⟨a0,a1,a2,a3,af0,af1,af2,af3⟩:=(M8.out.blk (i:=1) rfl).four
    obtain⟨b0,b1,b2,b3,bf0,bf1,bf2,bf3⟩:=(M8.out.blk (i:=0) rfl).four
    have ne0_1a: ¬(B=w.heap.size):=M8.out.ne (i:=0) (j:=1) (by omega) rfl rfl rfl rfl
    have ne0_1b: ¬(w.heap.size=B):=fun h=>ne0_1a h.symm
    go_wp2
    clear a0 a1 a2 a3 af0 af1 af2 af3 b0 b1 b2 b3 bf0 bf1 bf2 bf3 ne0_1a ne0_1b
    have M9:=Lib.hid (show MemR R w ((w7.setCell ⟨w.heap.size,0,none⟩ (.int .i64 id)).setCell ⟨w.heap.size,1,none⟩ (.int .i64 (-1))) [blkI w.heap.size (B) TBk #[.int .i64 id,.int .i64 (-1),.int .i64 n5,.int .i64 y],blkI w.heap.size (w.heap.size) TBk #[.int .i64 id,.int .i64 (-1),.int .i64 0,.int .i64 0]]from((((M8.out).store (i:=1) rfl 0 (.int .i64 id))).store (i:=1) rfl 1 (.int .i64 (-1))))
    have M10:=Lib.hid (show MemR R w ((((w7.setCell ⟨w.heap.size,0,none⟩ (.int .i64 id)).setCell ⟨w.heap.size,1,none⟩ (.int .i64 (-1))).setCell ⟨w.heap.size,2,none⟩ (.int .i64 n5)).setCell ⟨w.heap.size,3,none⟩ (.int .i64 y)) [blkI w.heap.size (B) TBk #[.int .i64 id,.int .i64 (-1),.int .i64 n5,.int .i64 y],blkI w.heap.size (w.heap.size) TBk #[.int .i64 id,.int .i64 (-1),.int .i64 n5,.int .i64 y]]from((((M9.out).store (i:=1) rfl 2 (.int .i64 n5))).store (i:=1) rfl 3 (.int .i64 y)))
    have r9:Rand ((((w7.setCell ⟨w.heap.size,0,none⟩ (.int .i64 id)).setCell ⟨w.heap.size,1,none⟩ (.int .i64 (-1))).setCell ⟨w.heap.size,2,none⟩ (.int .i64 n5)).setCell ⟨w.heap.size,3,none⟩ (.int .i64 y)) R (k+11):=by(repeat' (first|(with_reducible assumption)|(with_reducible refine Rand.alloc ?_ _)|(with_reducible refine Rand.setCell ?_ (by first|exact Nat.le_refl _|(dsimp only;omega)|(simp;done)|(simp;omega)) _)|(with_reducible refine Rand.drew ?_)|(with_reducible refine Rand.drewN ?_ _)|(refine Rand.ext ?_ (by with_reducible assumption))))
    clear lt8_0 lt8_1
    have M11:=Lib.hid (M10.out)
    generalize hwz:World.setCell _ _ _=wz
    rw[hwz]at M11 r9
    clear hwz M8 M9 M10
    have lt11_0:B<wz.heap.size:=(M11.out.lt (i:=0) rfl rfl).2
    have lt11_1:w.heap.size<wz.heap.size:=(M11.out.lt (i:=1) rfl rfl).2
    obtain⟨y0,y1,y2,y3,yf0,yf1,yf2,yf3⟩:=(M11.out.blk (i:=1) rfl).four
    exact bodyPost_ret (v:= .agg #[.int .i64 id,.int .i64 (-1),.int .i64 n5,.int .i64 y]) (by simp[results,Tryd.results51,go_sem, *]) rfl ⟨_,_,_,_,rfl,r9.mono (by omega),M11.out.ext⟩
   ·skip
    obtain⟨d0,d1,d2,d3,df0,df1,df2,df3⟩:=(M7.out.blk (i:=0) rfl).four
    go_wp2_with fail
    clear d0 d1 d2 d3 df0 df1 df2 df3
    have bl:Blk (w6.alloc (.cells #[.int .i64 0,.int .i64 100] TI)) w6.heap.size TI #[.int .i64 0,.int .i64 100]:=Blk.new _ _ _
    have hR6:R<w6.heap.size:=r6.lt
    refine(pick_any R (k+11) 2 _ (by(repeat' (first|(with_reducible assumption)|(with_reducible refine Rand.alloc ?_ _)|(with_reducible refine Rand.setCell ?_ (by first|exact Nat.le_refl _|(dsimp only;omega)|(simp;done)|(simp;omega)) _)|(with_reducible refine Rand.drew ?_)|(with_reducible refine Rand.drewN ?_ _)|(refine Rand.ext ?_ (by with_reducible assumption))))) (by omega)).mono ?_
    rintro e w7 ⟨v,rfl,va,vb,r7,x7⟩
    have bl7:=x7.blk bl (by omega)
    clear bl
    have M8:=Lib.hid ((((M7.out).adv ((Ext.refl _).alloc (.cells #[.int .i64 0,.int .i64 100] TI)))).pickd x7)
    clear x7 M7
    clear lt7_0 lt7_1
    have lt8_0:B<w7.heap.size:=(M8.out.lt (i:=0) rfl rfl).2
    have lt8_1:w.heap.size<w7.heap.size:=(M8.out.lt (i:=1) rfl rfl).2
    obtain⟨q0,q1⟩:w7.cell? ⟨w6.heap.size,0,none⟩=some (.int .i64 0)∧w7.cell? ⟨w6.heap.size,1,none⟩=some (.int .i64 100):=⟨bl7.cell 0,bl7.cell 1⟩
    have hv:v=0∨v=1:=by omega
    clear va vb r6 bl7
    rcases hv with rfl|rfl
    ·skip
     obtain⟨d0,d1,d2,d3,df0,df1,df2,df3⟩:=(M8.out.blk (i:=0) rfl).four
     go_upto_region 12 with fail
     clear d0 d1 d2 d3 df0 df1 df2 df3 q0 q1
     have r8:Rand (w7.setCell ⟨B,0,none⟩ (.int .i64 0)) R (k+12):=by(repeat' (first|(with_reducible assumption)|(with_reducible refine Rand.alloc ?_ _)|(with_reducible refine Rand.setCell ?_ (by first|exact Nat.le_refl _|(dsimp only;omega)|(simp;done)|(simp;omega)) _)|(with_reducible refine Rand.drew ?_)|(with_reducible refine Rand.drewN ?_ _)|(refine Rand.ext ?_ (by with_reducible assumption))))
     clear lt8_0 lt8_1
     have M9:=Lib.hid (show MemR R w (w7.setCell ⟨B,0,none⟩ (.int .i64 0)) [blkI w.heap.size (B) TBk #[.int .i64 0,.int .i64 x,.int .i64 n5,.int .i64 y],blkI w.heap.size (w.heap.size) TBk #[.int .i64 0,.int .i64 0,.int .i64 0,.int .i64 0]]from((M8.out).store (i:=0) rfl 0 (.int .i64 0)))
     generalize hwz:World.setCell _ _ _=w8
     rw[hwz]at M9 r8
     clear hwz r7 M8
     have lt9_0:B<w8.heap.size:=(M9.out.lt (i:=0) rfl rfl).2
     have lt9_1:w.heap.size<w8.heap.size:=(M9.out.lt (i:=1) rfl rfl).2
     obtain⟨a0,a1,a2,a3,af0,af1,af2,af3⟩:=(M9.out.blk (i:=1) rfl).four
     obtain⟨b0,b1,b2,b3,bf0,bf1,bf2,bf3⟩:=(M9.out.blk (i:=0) rfl).four
     have ne0_1a: ¬(B=w.heap.size):=M9.out.ne (i:=0) (j:=1) (by omega) rfl rfl rfl rfl
     have ne0_1b: ¬(w.heap.size=B):=fun h=>ne0_1a h.symm
     go_wp2
     clear a0 a1 a2 a3 af0 af1 af2 af3 b0 b1 b2 b3 bf0 bf1 bf2 bf3 ne0_1a ne0_1b
     have M10:=Lib.hid (show MemR R w ((w8.setCell ⟨w.heap.size,0,none⟩ (.int .i64 0)).setCell ⟨w.heap.size,1,none⟩ (.int .i64 x)) [blkI w.heap.size (B) TBk #[.int .i64 0,.int .i64 x,.int .i64 n5,.int .i64 y],blkI w.heap.size (w.heap.size) TBk #[.int .i64 0,.int .i64 x,.int .i64 0,.int .i64 0]]from((((M9.out).store (i:=1) rfl 0 (.int .i64 0))).store (i:=1) rfl 1 (.int .i64 x)))
     have M11:=Lib.hid (show MemR R w ((((w8.setCell ⟨w.heap.size,0,none⟩ (.int .i64 0)).setCell ⟨w.heap.size,1,none⟩ (.int .i64 x)).setCell ⟨w.heap.size,2,none⟩ (.int .i64 n5)).setCell ⟨w.heap.size,3,none⟩ (.int .i64 y)) [blkI w.heap.size (B) TBk #[.int .i64 0,.int .i64 x,.int .i64 n5,.int .i64 y],blkI w.heap.size (w.heap.size) TBk #[.int .i64 0,.int .i64 x,.int .i64 n5,.int .i64 y]]from((((M10.out).store (i:=1) rfl 2 (.int .i64 n5))).store (i:=1) rfl 3 (.int .i64 y)))
     have r9:Rand ((((w8.setCell ⟨w.heap.size,0,none⟩ (.int .i64 0)).setCell ⟨w.heap.size,1,none⟩ (.int .i64 x)).setCell ⟨w.heap.size,2,none⟩ (.int .i64 n5)).setCell ⟨w.heap.size,3,none⟩ (.int .i64 y)) R (k+12):=by(repeat' (first|(with_reducible assumption)|(with_reducible refine Rand.alloc ?_ _)|(with_reducible refine Rand.setCell ?_ (by first|exact Nat.le_refl _|(dsimp only;omega)|(simp;done)|(simp;omega)) _)|(with_reducible refine Rand.drew ?_)|(with_reducible refine Rand.drewN ?_ _)|(refine Rand.ext ?_ (by with_reducible assumption))))
     clear lt9_0 lt9_1
     have M12:=Lib.hid (M11.out)
     generalize hwz:World.setCell _ _ _=wz
     rw[hwz]at M12 r9
     clear hwz M9 M10 M11
     have lt12_0:B<wz.heap.size:=(M12.out.lt (i:=0) rfl rfl).2
     have lt12_1:w.heap.size<wz.heap.size:=(M12.out.lt (i:=1) rfl rfl).2
     obtain⟨y0,y1,y2,y3,yf0,yf1,yf2,yf3⟩:=(M12.out.blk (i:=1) rfl).four
     exact bodyPost_ret (v:= .agg #[.int .i64 0,.int .i64 x,.int .i64 n5,.int .i64 y]) (by simp[results,Tryd.results51,go_sem, *]) rfl ⟨_,_,_,_,rfl,r9.mono (by omega),M12.out.ext⟩
    ·skip
     obtain⟨d0,d1,d2,d3,df0,df1,df2,df3⟩:=(M8.out.blk (i:=0) rfl).four
     go_upto_region 12 with fail
     clear d0 d1 d2 d3 df0 df1 df2 df3 q0 q1
     have r8:Rand (w7.setCell ⟨B,0,none⟩ (.int .i64 100)) R (k+12):=by(repeat' (first|(with_reducible assumption)|(with_reducible refine Rand.alloc ?_ _)|(with_reducible refine Rand.setCell ?_ (by first|exact Nat.le_refl _|(dsimp only;omega)|(simp;done)|(simp;omega)) _)|(with_reducible refine Rand.drew ?_)|(with_reducible refine Rand.drewN ?_ _)|(refine Rand.ext ?_ (by with_reducible assumption))))
     clear lt8_0 lt8_1
     have M9:=Lib.hid (show MemR R w (w7.setCell ⟨B,0,none⟩ (.int .i64 100)) [blkI w.heap.size (B) TBk #[.int .i64 100,.int .i64 x,.int .i64 n5,.int .i64 y],blkI w.heap.size (w.heap.size) TBk #[.int .i64 0,.int .i64 0,.int .i64 0,.int .i64 0]]from((M8.out).store (i:=0) rfl 0 (.int .i64 100)))
     generalize hwz:World.setCell _ _ _=w8
     rw[hwz]at M9 r8
     clear hwz r7 M8
     have lt9_0:B<w8.heap.size:=(M9.out.lt (i:=0) rfl rfl).2
     have lt9_1:w.heap.size<w8.heap.size:=(M9.out.lt (i:=1) rfl rfl).2
     obtain⟨a0,a1,a2,a3,af0,af1,af2,af3⟩:=(M9.out.blk (i:=1) rfl).four
     obtain⟨b0,b1,b2,b3,bf0,bf1,bf2,bf3⟩:=(M9.out.blk (i:=0) rfl).four
     have ne0_1a: ¬(B=w.heap.size):=M9.out.ne (i:=0) (j:=1) (by omega) rfl rfl rfl rfl
     have ne0_1b: ¬(w.heap.size=B):=fun h=>ne0_1a h.symm
     go_wp2
     clear a0 a1 a2 a3 af0 af1 af2 af3 b0 b1 b2 b3 bf0 bf1 bf2 bf3 ne0_1a ne0_1b
     have M10:=Lib.hid (show MemR R w ((w8.setCell ⟨w.heap.size,0,none⟩ (.int .i64 100)).setCell ⟨w.heap.size,1,none⟩ (.int .i64 x)) [blkI w.heap.size (B) TBk #[.int .i64 100,.int .i64 x,.int .i64 n5,.int .i64 y],blkI w.heap.size (w.heap.size) TBk #[.int .i64 100,.int .i64 x,.int .i64 0,.int .i64 0]]from((((M9.out).store (i:=1) rfl 0 (.int .i64 100))).store (i:=1) rfl 1 (.int .i64 x)))
     have M11:=Lib.hid (show MemR R w ((((w8.setCell ⟨w.heap.size,0,none⟩ (.int .i64 100)).setCell ⟨w.heap.size,1,none⟩ (.int .i64 x)).setCell ⟨w.heap.size,2,none⟩ (.int .i64 n5)).setCell ⟨w.heap.size,3,none⟩ (.int .i64 y)) [blkI w.heap.size (B) TBk #[.int .i64 100,.int .i64 x,.int .i64 n5,.int .i64 y],blkI w.heap.size (w.heap.size) TBk #[.int .i64 100,.int .i64 x,.int .i64 n5,.int .i64 y]]from((((M10.out).store (i:=1) rfl 2 (.int .i64 n5))).store (i:=1) rfl 3 (.int .i64 y)))
     have r9:Rand ((((w8.setCell ⟨w.heap.size,0,none⟩ (.int .i64 100)).setCell ⟨w.heap.size,1,none⟩ (.int .i64 x)).setCell ⟨w.heap.size,2,none⟩ (.int .i64 n5)).setCell ⟨w.heap.size,3,none⟩ (.int .i64 y)) R (k+12):=by(repeat' (first|(with_reducible assumption)|(with_reducible refine Rand.alloc ?_ _)|(with_reducible refine Rand.setCell ?_ (by first|exact Nat.le_refl _|(dsimp only;omega)|(simp;done)|(simp;omega)) _)|(with_reducible refine Rand.drew ?_)|(with_reducible refine Rand.drewN ?_ _)|(refine Rand.ext ?_ (by with_reducible assumption))))
     clear lt9_0 lt9_1
     have M12:=Lib.hid (M11.out)
     generalize hwz:World.setCell _ _ _=wz
     rw[hwz]at M12 r9
     clear hwz M9 M10 M11
     have lt12_0:B<wz.heap.size:=(M12.out.lt (i:=0) rfl rfl).2
     have lt12_1:w.heap.size<wz.heap.size:=(M12.out.lt (i:=1) rfl rfl).2
     obtain⟨y0,y1,y2,y3,yf0,yf1,yf2,yf3⟩:=(M12.out.blk (i:=1) rfl).four
     exact bodyPost_ret (v:= .agg #[.int .i64 100,.int .i64 x,.int .i64 n5,.int .i64 y]) (by simp[results,Tryd.results51,go_sem, *]) rfl ⟨_,_,_,_,rfl,r9.mono (by omega),M12.out.ext⟩
   ·skip
    obtain⟨d0,d1,d2,d3,df0,df1,df2,df3⟩:=(M7.out.blk (i:=0) rfl).four
    have ne0_1a: ¬(B=w.heap.size):=M7.out.ne (i:=0) (j:=1) (by omega) rfl rfl rfl rfl
    have ne0_1b: ¬(w.heap.size=B):=fun h=>ne0_1a h.symm
    go_upto_region 12 with fail
    clear d0 d1 d2 d3 df0 df1 df2 df3 ne0_1a ne0_1b
    have r7:Rand (w6.setCell ⟨B,3,none⟩ (.int .i64 (-1))) R (k+11):=by(repeat' (first|(with_reducible assumption)|(with_reducible refine Rand.alloc ?_ _)|(with_reducible refine Rand.setCell ?_ (by first|exact Nat.le_refl _|(dsimp only;omega)|(simp;done)|(simp;omega)) _)|(with_reducible refine Rand.drew ?_)|(with_reducible refine Rand.drewN ?_ _)|(refine Rand.ext ?_ (by with_reducible assumption))))
    clear lt7_0 lt7_1
    have M8:=Lib.hid (show MemR R w (w6.setCell ⟨B,3,none⟩ (.int .i64 (-1))) [blkI w.heap.size (B) TBk #[.int .i64 id,.int .i64 x,.int .i64 n5,.int .i64 (-1)],blkI w.heap.size (w.heap.size) TBk #[.int .i64 0,.int .i64 0,.int .i64 0,.int .i64 0]]from((M7.out).store (i:=0) rfl 3 (.int .i64 (-1))))
    generalize hwz:World.setCell _ _ _=w7
    rw[hwz]at M8 r7
    clear hwz r6 M7
    have lt8_0:B<w7.heap.size:=(M8.out.lt (i:=0) rfl rfl).2
    have lt8_1:w.heap.size<w7.heap.size:=(M8.out.lt (i:=1) rfl rfl).2
    obtain⟨a0,a1,a2,a3,af0,af1,af2,af3⟩:=(M8.out.blk (i:=1) rfl).four
    obtain⟨b0,b1,b2,b3,bf0,bf1,bf2,bf3⟩:=(M8.out.blk (i:=0) rfl).four
    have ne0_1a: ¬(B=w.heap.size):=M8.out.ne (i:=0) (j:=1) (by omega) rfl rfl rfl rfl
    have ne0_1b: ¬(w.heap.size=B):=fun h=>ne0_1a h.symm
    go_wp2
    clear a0 a1 a2 a3 af0 af1 af2 af3 b0 b1 b2 b3 bf0 bf1 bf2 bf3 ne0_1a ne0_1b
    have M9:=Lib.hid (show MemR R w ((w7.setCell ⟨w.heap.size,0,none⟩ (.int .i64 id)).setCell ⟨w.heap.size,1,none⟩ (.int .i64 x)) [blkI w.heap.size (B) TBk #[.int .i64 id,.int .i64 x,.int .i64 n5,.int .i64 (-1)],blkI w.heap.size (w.heap.size) TBk #[.int .i64 id,.int .i64 x,.int .i64 0,.int .i64 0]]from((((M8.out).store (i:=1) rfl 0 (.int .i64 id))).store (i:=1) rfl 1 (.int .i64 x)))
    have M10:=Lib.hid (show MemR R w ((((w7.setCell ⟨w.heap.size,0,none⟩ (.int .i64 id)).setCell ⟨w.heap.size,1,none⟩ (.int .i64 x)).setCell ⟨w.heap.size,2,none⟩ (.int .i64 n5)).setCell ⟨w.heap.size,3,none⟩ (.int .i64 (-1))) [blkI w.heap.size (B) TBk #[.int .i64 id,.int .i64 x,.int .i64 n5,.int .i64 (-1)],blkI w.heap.size (w.heap.size) TBk #[.int .i64 id,.int .i64 x,.int .i64 n5,.int .i64 (-1)]]from((((M9.out).store (i:=1) rfl 2 (.int .i64 n5))).store (i:=1) rfl 3 (.int .i64 (-1))))
    have r9:Rand ((((w7.setCell ⟨w.heap.size,0,none⟩ (.int .i64 id)).setCell ⟨w.heap.size,1,none⟩ (.int .i64 x)).setCell ⟨w.heap.size,2,none⟩ (.int .i64 n5)).setCell ⟨w.heap.size,3,none⟩ (.int .i64 (-1))) R (k+11):=by(repeat' (first|(with_reducible assumption)|(with_reducible refine Rand.alloc ?_ _)|(with_reducible refine Rand.setCell ?_ (by first|exact Nat.le_refl _|(dsimp only;omega)|(simp;done)|(simp;omega)) _)|(with_reducible refine Rand.drew ?_)|(with_reducible refine Rand.drewN ?_ _)|(refine Rand.ext ?_ (by with_reducible assumption))))
    clear lt8_0 lt8_1
    have M11:=Lib.hid (M10.out)
    generalize hwz:World.setCell _ _ _=wz
    rw[hwz]at M11 r9
    clear hwz M8 M9 M10
    have lt11_0:B<wz.heap.size:=(M11.out.lt (i:=0) rfl rfl).2
    have lt11_1:w.heap.size<wz.heap.size:=(M11.out.lt (i:=1) rfl rfl).2
    obtain⟨y0,y1,y2,y3,yf0,yf1,yf2,yf3⟩:=(M11.out.blk (i:=1) rfl).four
    exact bodyPost_ret (v:= .agg #[.int .i64 id,.int .i64 x,.int .i64 n5,.int .i64 (-1)]) (by simp[results,Tryd.results51,go_sem, *]) rfl ⟨_,_,_,_,rfl,r9.mono (by omega),M11.out.ext⟩
set_option maxRecDepth 100000 in
set_option maxHeartbeats 8000000 in
theorem l20Asked_any (R k:Nat)(w:World)(hr0:Rand w R k)(hk:k≤1099511500000):
  Calls Tryd.prog 67 #[.pointer (some ⟨R,0,none⟩)] w (RandBook R (k+10) w):=by
 have hR:=hr0.lt
 go_enter Tryd.func67,Tryd.ntmps67
 go_wp2_with fail
 refine(pick_any R k 10 _ (hr0.ext (by(repeat' (first|exact Ext.refl _|(with_reducible assumption)|(with_reducible refine Ext.alloc ?_ _)|(with_reducible refine Ext.setCell ?_ (by first|exact Nat.le_refl _|(dsimp only;omega)|(simp;done)|(simp;omega)) _)|(with_reducible refine Ext.drew ?_)|(with_reducible refine Ext.drewN ?_ _)|(refine Ext.trans ?_ (by with_reducible assumption)))))) (by omega)).mono ?_
 rintro e w1 ⟨x,rfl,xa,xb,r1,x1⟩
 have M1:=Lib.hid ((((MemR.start R w hR).blkNew TBk #[.int .i64 0,.int .i64 0,.int .i64 0,.int .i64 0] (w.heap.size) (by simp))).pickd x1)
 clear x1
 have lt1_0:w.heap.size<w1.heap.size:=(M1.out.lt (i:=0) rfl rfl).2
 go_wp2_with fail
 refine(l20Book_any R (k+1) _ 20 _ r1 (by omega) (by omega) (by omega)).mono ?_
 rintro e w2 ⟨x0,x1,x2,x3,rfl,r2,hx2⟩
 clear r1 hr0
 have M2:=Lib.hid ((M1.out).pickd hx2)
 clear hx2 M1
 clear lt1_0
 have lt2_0:w.heap.size<w2.heap.size:=(M2.out.lt (i:=0) rfl rfl).2
 go_wp2_with fail
 refine(pick_any R (k+41) 4 _ (by(repeat' (first|(with_reducible assumption)|(with_reducible refine Rand.alloc ?_ _)|(with_reducible refine Rand.setCell ?_ (by first|exact Nat.le_refl _|(dsimp only;omega)|(simp;done)|(simp;omega)) _)|(with_reducible refine Rand.drew ?_)|(with_reducible refine Rand.drewN ?_ _)|(refine Rand.ext ?_ (by with_reducible assumption))))) (by omega)).mono ?_
 rintro e w3 ⟨u,rfl,ua,ub,r3,hx3⟩
 clear r2
 have M3:=Lib.hid ((((M2.out).blkNew TBk #[.int .i64 x0,.int .i64 x1,.int .i64 x2,.int .i64 x3] (w2.heap.size) (by simp))).pickd hx3)
 clear hx3 M2
 clear lt2_0
 have lt3_0:w2.heap.size<w3.heap.size:=(M3.out.lt (i:=0) rfl rfl).2
 have lt3_1:w.heap.size<w3.heap.size:=(M3.out.lt (i:=1) rfl rfl).2
 have hBR:R<w2.heap.size:=Nat.lt_of_lt_of_le hR (M3.out.lt (i:=0) rfl rfl).1
 obtain⟨B,hB⟩: ∃a,a=w2.heap.size:=⟨_,rfl⟩
 rw[←hB]at M3 hBR lt3_0⊢
 clear hB
 by_cases u0:u=0
 ·skip
  have u1:(u==0)=true:=by simp[u0]
  clear u0
  obtain⟨d0,d1,d2,d3,df0,df1,df2,df3⟩:=(M3.out.blk (i:=0) rfl).four
  go_upto_region 4 with fail
  clear d0 d1 d2 d3 df0 df1 df2 df3
  have r7:Rand (w3.setCell ⟨B,2,none⟩ (.int .i64 0)) R (k+42):=by(repeat' (first|(with_reducible assumption)|(with_reducible refine Rand.alloc ?_ _)|(with_reducible refine Rand.setCell ?_ (by first|exact Nat.le_refl _|(dsimp only;omega)|(simp;done)|(simp;omega)) _)|(with_reducible refine Rand.drew ?_)|(with_reducible refine Rand.drewN ?_ _)|(refine Rand.ext ?_ (by with_reducible assumption))))
  clear lt3_0 lt3_1
  have M4:=Lib.hid (show MemR R w (w3.setCell ⟨B,2,none⟩ (.int .i64 0)) [blkI w.heap.size (B) TBk #[.int .i64 x0,.int .i64 x1,.int .i64 0,.int .i64 x3],blkI w.heap.size (w.heap.size) TBk #[.int .i64 0,.int .i64 0,.int .i64 0,.int .i64 0]]from((M3.out).store (i:=0) rfl 2 (.int .i64 0)))
  generalize hwz:World.setCell _ _ _=w7
  rw[hwz]at M4 r7
  clear hwz r3 M3
  have lt4_0:B<w7.heap.size:=(M4.out.lt (i:=0) rfl rfl).2
  have lt4_1:w.heap.size<w7.heap.size:=(M4.out.lt (i:=1) rfl rfl).2
  obtain⟨a0,a1,a2,a3,af0,af1,af2,af3⟩:=(M4.out.blk (i:=1) rfl).four
  obtain⟨b0,b1,b2,b3,bf0,bf1,bf2,bf3⟩:=(M4.out.blk (i:=0) rfl).four
  have ne0_1a: ¬(B=w.heap.size):=M4.out.ne (i:=0) (j:=1) (by omega) rfl rfl rfl rfl
  have ne0_1b: ¬(w.heap.size=B):=fun h=>ne0_1a h.symm
  go_wp2
  clear a0 a1 a2 a3 af0 af1 af2 af3 b0 b1 b2 b3 bf0 bf1 bf2 bf3 ne0_1a ne0_1b
  have M5:=Lib.hid (show MemR R w ((w7.setCell ⟨w.heap.size,0,none⟩ (.int .i64 x0)).setCell ⟨w.heap.size,1,none⟩ (.int .i64 x1)) [blkI w.heap.size (B) TBk #[.int .i64 x0,.int .i64 x1,.int .i64 0,.int .i64 x3],blkI w.heap.size (w.heap.size) TBk #[.int .i64 x0,.int .i64 x1,.int .i64 0,.int .i64 0]]from((((M4.out).store (i:=1) rfl 0 (.int .i64 x0))).store (i:=1) rfl 1 (.int .i64 x1)))
  have M6:=Lib.hid (show MemR R w ((((w7.setCell ⟨w.heap.size,0,none⟩ (.int .i64 x0)).setCell ⟨w.heap.size,1,none⟩ (.int .i64 x1)).setCell ⟨w.heap.size,2,none⟩ (.int .i64 0)).setCell ⟨w.heap.size,3,none⟩ (.int .i64 x3)) [blkI w.heap.size (B) TBk #[.int .i64 x0,.int .i64 x1,.int .i64 0,.int .i64 x3],blkI w.heap.size (w.heap.size) TBk #[.int .i64 x0,.int .i64 x1,.int .i64 0,.int .i64 x3]]from((((M5.out).store (i:=1) rfl 2 (.int .i64 0))).store (i:=1) rfl 3 (.int .i64 x3)))
  have r9:Rand ((((w7.setCell ⟨w.heap.size,0,none⟩ (.int .i64 x0)).setCell ⟨w.heap.size,1,none⟩ (.int .i64 x1)).setCell ⟨w.heap.size,2,none⟩ (.int .i64 0)).setCell ⟨w.heap.size,3,none⟩ (.int .i64 x3)) R (k+42):=by(repeat' (first|(with_reducible assumption)|(with_reducible refine Rand.alloc ?_ _)|(with_reducible refine Rand.setCell ?_ (by first|exact Nat.le_refl _|(dsimp only;omega)|(simp;done)|(simp;omega)) _)|(with_reducible refine Rand.drew ?_)|(with_reducible refine Rand.drewN ?_ _)|(refine Rand.ext ?_ (by with_reducible assumption))))
  clear lt4_0 lt4_1
  have M7:=Lib.hid (M6.out)
  generalize hwz:World.setCell _ _ _=wz
  rw[hwz]at M7 r9
  clear hwz M4 M5 M6
  have lt7_0:B<wz.heap.size:=(M7.out.lt (i:=0) rfl rfl).2
  have lt7_1:w.heap.size<wz.heap.size:=(M7.out.lt (i:=1) rfl rfl).2
  obtain⟨y0,y1,y2,y3,yf0,yf1,yf2,yf3⟩:=(M7.out.blk (i:=1) rfl).four
  exact bodyPost_ret (v:= .agg #[.int .i64 x0,.int .i64 x1,.int .i64 0,.int .i64 x3]) (by simp[results,Tryd.results67,go_sem, *]) rfl ⟨_,_,_,_,rfl,r9.mono (by omega),M7.out.ext⟩
 ·skip
  have u1:(u==0)=false:=by simp[u0]
  obtain⟨a0,a1,a2,a3,af0,af1,af2,af3⟩:=(M3.out.blk (i:=1) rfl).four
  obtain⟨b0,b1,b2,b3,bf0,bf1,bf2,bf3⟩:=(M3.out.blk (i:=0) rfl).four
  have ne0_1a: ¬(B=w.heap.size):=M3.out.ne (i:=0) (j:=1) (by omega) rfl rfl rfl rfl
  have ne0_1b: ¬(w.heap.size=B):=fun h=>ne0_1a h.symm
  go_wp2
  clear a0 a1 a2 a3 af0 af1 af2 af3 b0 b1 b2 b3 bf0 bf1 bf2 bf3 ne0_1a ne0_1b
  have M4:=Lib.hid (show MemR R w ((w3.setCell ⟨w.heap.size,0,none⟩ (.int .i64 x0)).setCell ⟨w.heap.size,1,none⟩ (.int .i64 x1)) [blkI w.heap.size (B) TBk #[.int .i64 x0,.int .i64 x1,.int .i64 x2,.int .i64 x3],blkI w.heap.size (w.heap.size) TBk #[.int .i64 x0,.int .i64 x1,.int .i64 0,.int .i64 0]]from((((M3.out).store (i:=1) rfl 0 (.int .i64 x0))).store (i:=1) rfl 1 (.int .i64 x1)))
  have M5:=Lib.hid (show MemR R w ((((w3.setCell ⟨w.heap.size,0,none⟩ (.int .i64 x0)).setCell ⟨w.heap.size,1,none⟩ (.int .i64 x1)).setCell ⟨w.heap.size,2,none⟩ (.int .i64 x2)).setCell ⟨w.heap.size,3,none⟩ (.int .i64 x3)) [blkI w.heap.size (B) TBk #[.int .i64 x0,.int .i64 x1,.int .i64 x2,.int .i64 x3],blkI w.heap.size (w.heap.size) TBk #[.int .i64 x0,.int .i64 x1,.int .i64 x2,.int .i64 x3]]from((((M4.out).store (i:=1) rfl 2 (.int .i64 x2))).store (i:=1) rfl 3 (.int .i64 x3)))
  have r9:Rand ((((w3.setCell ⟨w.heap.size,0,none⟩ (.int .i64 x0)).setCell ⟨w.heap.size,1,none⟩ (.int .i64 x1)).setCell ⟨w.heap.size,2,none⟩ (.int .i64 x2)).setCell ⟨w.heap.size,3,none⟩ (.int .i64 x3)) R (k+41+1):=by(repeat' (first|(with_reducible assumption)|(with_reducible refine Rand.alloc ?_ _)|(with_reducible refine Rand.setCell ?_ (by first|exact Nat.le_refl _|(dsimp only;omega)|(simp;done)|(simp;omega)) _)|(with_reducible refine Rand.drew ?_)|(with_reducible refine Rand.drewN ?_ _)|(refine Rand.ext ?_ (by with_reducible assumption))))
  clear lt3_0 lt3_1
  have M6:=Lib.hid (M5.out)
  generalize hwz:World.setCell _ _ _=wz
  rw[hwz]at M6 r9
  clear hwz M3 M4 M5
  have lt6_0:B<wz.heap.size:=(M6.out.lt (i:=0) rfl rfl).2
  have lt6_1:w.heap.size<wz.heap.size:=(M6.out.lt (i:=1) rfl rfl).2
  obtain⟨y0,y1,y2,y3,yf0,yf1,yf2,yf3⟩:=(M6.out.blk (i:=1) rfl).four
  exact bodyPost_ret (v:= .agg #[.int .i64 x0,.int .i64 x1,.int .i64 x2,.int .i64 x3]) (by simp[results,Tryd.results67,go_sem, *]) rfl ⟨_,_,_,_,rfl,r9.mono (by omega),M6.out.ext⟩
end Go.Proofs.YtndcnflchkfaeaaDoor

