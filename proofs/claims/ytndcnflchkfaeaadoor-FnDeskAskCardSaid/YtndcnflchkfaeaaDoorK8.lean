/-
  Texts of this proof, packed (@packed).
-/
import Derived.Test.YtndcnflchkfaeaaDoorK7
namespace Go.Proofs.YtndcnflchkfaeaaDoor
open Go.RowKit
set_option linter.unusedVariables false
set_option linter.unusedSimpArgs false
def cmpI (x y:Int):Int:=if x<y then -1 else if y<x then 1 else 0
theorem cmpI_lt (x y:Int):cmpI x y<0↔x<y:=by
 unfold cmpI
 by_cases h:x<y
 ·simp[h]
 ·rw[if_neg h]
  by_cases h2:y<x
  ·simp[h2];omega
  ·simp[h2];omega
set_option maxRecDepth 100000 in
set_option maxHeartbeats 1000000 in
theorem compareI (x y:Int)(w:World):Calls Tryd.prog 79 #[.int .i64 x,.int .i64 y] w fun e w'=>e= .returned (.int .i64 (cmpI x y))∧Ext w w':=by
 by_cases h1:x<y
 ·have hf:Hid (cmpI x y= -1):=by show _=_;simp[cmpI,h1]
  go_enter Tryd.func79,Tryd.ntmps79
  go_wp2_with go_in
  go_ret
  exact⟨by rw[hf.out];rfl,Ext.refl _⟩
 ·by_cases h2:y<x
  ·have hf:Hid (cmpI x y=1):=by show _=_;simp[cmpI,h1,h2]
   go_enter Tryd.func79,Tryd.ntmps79
   go_wp2_with go_in
   go_ret
   exact⟨by rw[hf.out];rfl,Ext.refl _⟩
  ·have hf:Hid (cmpI x y=0):=by show _=_;simp[cmpI,h1,h2]
   go_enter Tryd.func79,Tryd.ntmps79
   go_wp2_with go_in
   go_ret
   exact⟨by rw[hf.out];rfl,Ext.refl _⟩
set_option maxRecDepth 100000 in
set_option maxHeartbeats 1000000 in
theorem hourFrom (a0 a1 a2 a3:Int)(w:World):Calls Tryd.prog 85 #[bookV a0 a1 a2 a3] w fun e w'=>e= .returned (.int .i64 a1)∧Ext w w':=by
 go_enter Tryd.func85,Tryd.ntmps85
 go_wp2
 go_ret
 exact⟨rfl,by(repeat' (first|exact Ext.refl _|(with_reducible assumption)|(with_reducible refine Ext.alloc ?_ _)|(with_reducible refine Ext.setCell ?_ (by first|exact Nat.le_refl _|(dsimp only;omega)|(simp;done)|(simp;omega)) _)|(with_reducible refine Ext.drew ?_)|(with_reducible refine Ext.drewN ?_ _)|(refine Ext.trans ?_ (by with_reducible assumption))))⟩
set_option maxRecDepth 100000 in
set_option maxHeartbeats 1000000 in
theorem hourTo (a0 a1 a2 a3:Int)(w:World):Calls Tryd.prog 60 #[bookV a0 a1 a2 a3] w fun e w'=>e= .returned (.int .i64 a2)∧Ext w w':=by
 go_enter Tryd.func60,Tryd.ntmps60
 go_wp2
 go_ret
 exact⟨rfl,by(repeat' (first|exact Ext.refl _|(with_reducible assumption)|(with_reducible refine Ext.alloc ?_ _)|(with_reducible refine Ext.setCell ?_ (by first|exact Nat.le_refl _|(dsimp only;omega)|(simp;done)|(simp;omega)) _)|(with_reducible refine Ext.drew ?_)|(with_reducible refine Ext.drewN ?_ _)|(refine Ext.trans ?_ (by with_reducible assumption))))⟩
set_option maxRecDepth 100000 in
set_option maxHeartbeats 8000000 in
theorem cmpFrom (BH BL:Nat)(b off m c2:Nat)(bs:List Visit4)(i j:Nat)(w:World)(hi:i<m)(hj:j<m)(hBH:BH<w.heap.size)(hBL:BL<w.heap.size)(hbh:w.cell? ⟨BH,0,none⟩=some (.func (.func 85) #[] #[]))(hbl:w.cell? ⟨BL,0,none⟩=some (.slice (some ⟨b,off,none⟩) m c2))(hS:Sl w (some ⟨b,off,none⟩) m c2 4 (bs.flatMap visitCells)):
  Calls Tryd.prog 82 #[.int .i64 (i:Int),.int .i64 (j:Int),.pointer (some ⟨BH,0,none⟩),.pointer (some ⟨BL,0,none⟩)] w fun e w'=>e= .returned (.int .i64 (cmpI (fromOf bs i) (fromOf bs j)))∧Ext w w':=by
 have hn:=hS.bd
 obtain⟨b',off',a0,a1,a2,a3,e1,hv,hb,g0,g1,g2,g3⟩:=visit_at hS hi
 cases e1
 obtain⟨b',off',d0,d1,d2,d3,e1,hv2,hb2,k0,k1,k2,k3⟩:=visit_at hS hj
 cases e1
 rw[fromOf_at hv,fromOf_at hv2]
 clear hv hv2 hS hb2
 have i1:(0:Int)≤(i:Int):=by omega
 have i2:(i:Int)<(m:Int):=by omega
 have j1:(0:Int)≤(j:Int):=by omega
 have j2:(j:Int)<(m:Int):=by omega
 go_enter Tryd.func82,Tryd.ntmps82
 go_wp2
 refine region_lin (gl [gEq (.func (.func 85) #[] #[]),gEq (.slice (some ⟨b,off,none⟩) m c2),gEq (.int .i64 (i:Int)),gEq (.pointer (some ⟨b,off+i*4,none⟩)),gEq (.agg #[.int .i64 a0,.int .i64 a1,.int .i64 a2,.int .i64 a3]),gEq (.int .i64 a1),gEq (.func (.func 85) #[] #[]),gEq (.slice (some ⟨b,off,none⟩) m c2),gEq (.int .i64 (j:Int)),gEq (.pointer (some ⟨b,off+j*4,none⟩)),gEq (.agg #[.int .i64 d0,.int .i64 d1,.int .i64 d2,.int .i64 d3]),gEq (.int .i64 d1),gEq (.int .i64 (cmpI a1 d1)),gEq (.int .i64 (cmpI a1 d1))]) 14 (by kernel_rfl) rfl (by kernel_rfl) (by kernel_rfl) (by kernel_rfl) (gl_mono (gl_cons (gEq_mono _) (gl_cons (gEq_mono _) (gl_cons (gEq_mono _) (gl_cons (gEq_mono _) (gl_cons (gEq_mono _) (gl_cons (gEq_mono _) (gl_cons (gEq_mono _) (gl_cons (gEq_mono _) (gl_cons (gEq_mono _) (gl_cons (gEq_mono _) (gl_cons (gEq_mono _) (gl_cons (gEq_mono _) (gl_cons (gEq_mono _) (gl_cons (gEq_mono _) (gl_nil)))))))))))))))) (k:=14) (by kernel_rfl) (by decide) (ls:= [(0,some 7),(1,some 8),(2,some 9),(3,some 10),(4,some 11),(5,some 12),(6,some 13),(7,some 14),(8,some 15),(9,some 16),(10,some 17),(11,some 18),(12,some 19),(13,some 6)]) (by kernel_rfl) (ir:= [0,1,2,3,4,5,6,7,8,9,10,11,12,13]) (by kernel_rfl) ?steps (tl:=#[true,true,true,true,true,true,true,true,true,true,true,true,true,true]) (by kernel_rfl) ?fin
 case steps=>
  refine StepsL.cons (ps:= []) rfl (by kernel_rfl) (fun wi hx=> ?_) ?_
  ·intro K hK
   have hX:Ext w wi:=by(repeat' (first|exact Ext.refl _|(with_reducible assumption)|(with_reducible refine Ext.alloc ?_ _)|(with_reducible refine Ext.setCell ?_ (by first|exact Nat.le_refl _|(dsimp only;omega)|(simp;done)|(simp;omega)) _)|(with_reducible refine Ext.drew ?_)|(with_reducible refine Ext.drewN ?_ _)|(refine Ext.trans ?_ (by with_reducible assumption))))
   have cl0:wi.cell? ⟨BH,0,none⟩=some (.func (.func 85) #[] #[]):=(hX.cells.1 _ _ hBH).trans hbh
   go_simp
   exact hK _ _ ⟨.func (.func 85) #[] #[],rfl,rfl,Ext.refl _⟩
  refine StepsL.cons (ps:= []) rfl (by kernel_rfl) (fun wi hx=> ?_) ?_
  ·intro K hK
   have hX:Ext w wi:=by(repeat' (first|exact Ext.refl _|(with_reducible assumption)|(with_reducible refine Ext.alloc ?_ _)|(with_reducible refine Ext.setCell ?_ (by first|exact Nat.le_refl _|(dsimp only;omega)|(simp;done)|(simp;omega)) _)|(with_reducible refine Ext.drew ?_)|(with_reducible refine Ext.drewN ?_ _)|(refine Ext.trans ?_ (by with_reducible assumption))))
   have cl0:wi.cell? ⟨BL,0,none⟩=some (.slice (some ⟨b,off,none⟩) m c2):=(hX.cells.1 _ _ hBL).trans hbl
   go_simp
   exact hK _ _ ⟨.slice (some ⟨b,off,none⟩) m c2,rfl,rfl,Ext.refl _⟩
  refine StepsL.cons (ps:= []) rfl (by kernel_rfl) (fun wi hx=> ?_) ?_
  ·intro K hK
   go_simp
   exact hK _ _ ⟨.int .i64 (i:Int),rfl,rfl,Ext.refl _⟩
  refine StepsL.cons (ps:= [(1,some 8),(2,some 9)]) rfl (by kernel_rfl) (fun wi hx=> ?_) ?_
  ·intro v1 h1 v2 h2 K hK
   obtain rfl:=h1
   obtain rfl:=h2
   go_simp
   exact hK _ _ ⟨.pointer (some ⟨b,off+i*4,none⟩),rfl,rfl,Ext.refl _⟩
  refine StepsL.cons (ps:= [(3,some 10)]) rfl (by kernel_rfl) (fun wi hx=> ?_) ?_
  ·intro v3 h3 K hK
   obtain rfl:=h3
   have hX:Ext w wi:=by(repeat' (first|exact Ext.refl _|(with_reducible assumption)|(with_reducible refine Ext.alloc ?_ _)|(with_reducible refine Ext.setCell ?_ (by first|exact Nat.le_refl _|(dsimp only;omega)|(simp;done)|(simp;omega)) _)|(with_reducible refine Ext.drew ?_)|(with_reducible refine Ext.drewN ?_ _)|(refine Ext.trans ?_ (by with_reducible assumption))))
   have cl0:wi.cell? ⟨b,off+i*4,none⟩=some (.int .i64 a0):=(hX.cells.1 _ _ hb).trans g0
   have cl1:wi.cell? ⟨b,off+i*4+1,none⟩=some (.int .i64 a1):=(hX.cells.1 _ _ hb).trans g1
   have cl2:wi.cell? ⟨b,off+i*4+2,none⟩=some (.int .i64 a2):=(hX.cells.1 _ _ hb).trans g2
   have cl3:wi.cell? ⟨b,off+i*4+3,none⟩=some (.int .i64 a3):=(hX.cells.1 _ _ hb).trans g3
   go_simp
   exact hK _ _ ⟨.agg #[.int .i64 a0,.int .i64 a1,.int .i64 a2,.int .i64 a3],rfl,rfl,Ext.refl _⟩
  refine StepsL.cons (ps:= [(0,some 7),(4,some 11)]) rfl (by kernel_rfl) (fun wi hx=> ?_) ?_
  ·intro v0 h0 v4 h4 K hK
   obtain rfl:=h0
   obtain rfl:=h4
   go_wp2_with fail
   refine(hourFrom a0 a1 a2 a3 _).mono ?_
   rintro e w5 ⟨rfl,hx5⟩
   go_simp
   exact hK _ _ ⟨.int .i64 a1,rfl,rfl,hx5⟩
  refine StepsL.cons (ps:= []) rfl (by kernel_rfl) (fun wi hx=> ?_) ?_
  ·intro K hK
   have hX:Ext w wi:=by(repeat' (first|exact Ext.refl _|(with_reducible assumption)|(with_reducible refine Ext.alloc ?_ _)|(with_reducible refine Ext.setCell ?_ (by first|exact Nat.le_refl _|(dsimp only;omega)|(simp;done)|(simp;omega)) _)|(with_reducible refine Ext.drew ?_)|(with_reducible refine Ext.drewN ?_ _)|(refine Ext.trans ?_ (by with_reducible assumption))))
   have cl0:wi.cell? ⟨BH,0,none⟩=some (.func (.func 85) #[] #[]):=(hX.cells.1 _ _ hBH).trans hbh
   go_simp
   exact hK _ _ ⟨.func (.func 85) #[] #[],rfl,rfl,Ext.refl _⟩
  refine StepsL.cons (ps:= []) rfl (by kernel_rfl) (fun wi hx=> ?_) ?_
  ·intro K hK
   have hX:Ext w wi:=by(repeat' (first|exact Ext.refl _|(with_reducible assumption)|(with_reducible refine Ext.alloc ?_ _)|(with_reducible refine Ext.setCell ?_ (by first|exact Nat.le_refl _|(dsimp only;omega)|(simp;done)|(simp;omega)) _)|(with_reducible refine Ext.drew ?_)|(with_reducible refine Ext.drewN ?_ _)|(refine Ext.trans ?_ (by with_reducible assumption))))
   have cl0:wi.cell? ⟨BL,0,none⟩=some (.slice (some ⟨b,off,none⟩) m c2):=(hX.cells.1 _ _ hBL).trans hbl
   go_simp
   exact hK _ _ ⟨.slice (some ⟨b,off,none⟩) m c2,rfl,rfl,Ext.refl _⟩
  refine StepsL.cons (ps:= []) rfl (by kernel_rfl) (fun wi hx=> ?_) ?_
  ·intro K hK
   go_simp
   exact hK _ _ ⟨.int .i64 (j:Int),rfl,rfl,Ext.refl _⟩
  refine StepsL.cons (ps:= [(7,some 14),(8,some 15)]) rfl (by kernel_rfl) (fun wi hx=> ?_) ?_
  ·intro v7 h7 v8 h8 K hK
   obtain rfl:=h7
   obtain rfl:=h8
   go_simp
   exact hK _ _ ⟨.pointer (some ⟨b,off+j*4,none⟩),rfl,rfl,Ext.refl _⟩
  refine StepsL.cons (ps:= [(9,some 16)]) rfl (by kernel_rfl) (fun wi hx=> ?_) ?_
  ·intro v9 h9 K hK
   obtain rfl:=h9
   have hX:Ext w wi:=by(repeat' (first|exact Ext.refl _|(with_reducible assumption)|(with_reducible refine Ext.alloc ?_ _)|(with_reducible refine Ext.setCell ?_ (by first|exact Nat.le_refl _|(dsimp only;omega)|(simp;done)|(simp;omega)) _)|(with_reducible refine Ext.drew ?_)|(with_reducible refine Ext.drewN ?_ _)|(refine Ext.trans ?_ (by with_reducible assumption))))
   have cl0:wi.cell? ⟨b,off+j*4,none⟩=some (.int .i64 d0):=(hX.cells.1 _ _ hb).trans k0
   have cl1:wi.cell? ⟨b,off+j*4+1,none⟩=some (.int .i64 d1):=(hX.cells.1 _ _ hb).trans k1
   have cl2:wi.cell? ⟨b,off+j*4+2,none⟩=some (.int .i64 d2):=(hX.cells.1 _ _ hb).trans k2
   have cl3:wi.cell? ⟨b,off+j*4+3,none⟩=some (.int .i64 d3):=(hX.cells.1 _ _ hb).trans k3
   go_simp
   exact hK _ _ ⟨.agg #[.int .i64 d0,.int .i64 d1,.int .i64 d2,.int .i64 d3],rfl,rfl,Ext.refl _⟩
  refine StepsL.cons (ps:= [(6,some 13),(10,some 17)]) rfl (by kernel_rfl) (fun wi hx=> ?_) ?_
  ·intro v6 h6 v10 h10 K hK
   obtain rfl:=h6
   obtain rfl:=h10
   go_wp2_with fail
   refine(hourFrom d0 d1 d2 d3 _).mono ?_
   rintro e w5 ⟨rfl,hx5⟩
   go_simp
   exact hK _ _ ⟨.int .i64 d1,rfl,rfl,hx5⟩
  refine StepsL.cons (ps:= [(5,some 12),(11,some 18)]) rfl (by kernel_rfl) (fun wi hx=> ?_) ?_
  ·intro v5 h5 v11 h11 K hK
   obtain rfl:=h5
   obtain rfl:=h11
   go_wp2_with fail
   refine(compareI a1 d1 _).mono ?_
   rintro e w5 ⟨rfl,hx5⟩
   go_simp
   exact hK _ _ ⟨.int .i64 (cmpI a1 d1),rfl,rfl,hx5⟩
  refine StepsL.cons (ps:= [(12,some 19)]) rfl (by kernel_rfl) (fun wi hx=> ?_) StepsL.nil
  ·intro v12 h12 K hK
   obtain rfl:=h12
   go_simp
   exact hK _ _ ⟨.int .i64 (cmpI a1 d1),rfl,rfl,Ext.refl _⟩
 case fin=>
  intro wi hx v0 h0 v1 h1 v2 h2 v3 h3 v4 h4 v5 h5 v6 h6 v7 h7 v8 h8 v9 h9 v10 h10 v11 h11 v12 h12 v13 h13
  obtain rfl:=h0
  obtain rfl:=h1
  obtain rfl:=h2
  obtain rfl:=h3
  obtain rfl:=h4
  obtain rfl:=h5
  obtain rfl:=h6
  obtain rfl:=h7
  obtain rfl:=h8
  obtain rfl:=h9
  obtain rfl:=h10
  obtain rfl:=h11
  obtain rfl:=h12
  obtain rfl:=h13
  refine wpAny_done (by kernel_rfl) ?_ _
  try simp only[Act.put,List.setIfInBounds_toArray,List.set_cons_zero,List.set_cons_succ]
  have hx':=hx.of_drew
  go_wp2
  go_ret
  exact⟨rfl,hx'⟩
set_option maxRecDepth 100000 in
set_option maxHeartbeats 8000000 in
theorem cmpTo (BH BL:Nat)(b off m c2:Nat)(bs:List Visit4)(i j:Nat)(w:World)(hi:i<m)(hj:j<m)(hBH:BH<w.heap.size)(hBL:BL<w.heap.size)(hbh:w.cell? ⟨BH,0,none⟩=some (.func (.func 60) #[] #[]))(hbl:w.cell? ⟨BL,0,none⟩=some (.slice (some ⟨b,off,none⟩) m c2))(hS:Sl w (some ⟨b,off,none⟩) m c2 4 (bs.flatMap visitCells)):
  Calls Tryd.prog 82 #[.int .i64 (i:Int),.int .i64 (j:Int),.pointer (some ⟨BH,0,none⟩),.pointer (some ⟨BL,0,none⟩)] w fun e w'=>e= .returned (.int .i64 (cmpI (toOf bs i) (toOf bs j)))∧Ext w w':=by
 have hn:=hS.bd
 obtain⟨b',off',a0,a1,a2,a3,e1,hv,hb,g0,g1,g2,g3⟩:=visit_at hS hi
 cases e1
 obtain⟨b',off',d0,d1,d2,d3,e1,hv2,hb2,k0,k1,k2,k3⟩:=visit_at hS hj
 cases e1
 rw[toOf_at hv,toOf_at hv2]
 clear hv hv2 hS hb2
 have i1:(0:Int)≤(i:Int):=by omega
 have i2:(i:Int)<(m:Int):=by omega
 have j1:(0:Int)≤(j:Int):=by omega
 have j2:(j:Int)<(m:Int):=by omega
 go_enter Tryd.func82,Tryd.ntmps82
 go_wp2
 refine region_lin (gl [gEq (.func (.func 60) #[] #[]),gEq (.slice (some ⟨b,off,none⟩) m c2),gEq (.int .i64 (i:Int)),gEq (.pointer (some ⟨b,off+i*4,none⟩)),gEq (.agg #[.int .i64 a0,.int .i64 a1,.int .i64 a2,.int .i64 a3]),gEq (.int .i64 a2),gEq (.func (.func 60) #[] #[]),gEq (.slice (some ⟨b,off,none⟩) m c2),gEq (.int .i64 (j:Int)),gEq (.pointer (some ⟨b,off+j*4,none⟩)),gEq (.agg #[.int .i64 d0,.int .i64 d1,.int .i64 d2,.int .i64 d3]),gEq (.int .i64 d2),gEq (.int .i64 (cmpI a2 d2)),gEq (.int .i64 (cmpI a2 d2))]) 14 (by kernel_rfl) rfl (by kernel_rfl) (by kernel_rfl) (by kernel_rfl) (gl_mono (gl_cons (gEq_mono _) (gl_cons (gEq_mono _) (gl_cons (gEq_mono _) (gl_cons (gEq_mono _) (gl_cons (gEq_mono _) (gl_cons (gEq_mono _) (gl_cons (gEq_mono _) (gl_cons (gEq_mono _) (gl_cons (gEq_mono _) (gl_cons (gEq_mono _) (gl_cons (gEq_mono _) (gl_cons (gEq_mono _) (gl_cons (gEq_mono _) (gl_cons (gEq_mono _) (gl_nil)))))))))))))))) (k:=14) (by kernel_rfl) (by decide) (ls:= [(0,some 7),(1,some 8),(2,some 9),(3,some 10),(4,some 11),(5,some 12),(6,some 13),(7,some 14),(8,some 15),(9,some 16),(10,some 17),(11,some 18),(12,some 19),(13,some 6)]) (by kernel_rfl) (ir:= [0,1,2,3,4,5,6,7,8,9,10,11,12,13]) (by kernel_rfl) ?steps (tl:=#[true,true,true,true,true,true,true,true,true,true,true,true,true,true]) (by kernel_rfl) ?fin
 case steps=>
  refine StepsL.cons (ps:= []) rfl (by kernel_rfl) (fun wi hx=> ?_) ?_
  ·intro K hK
   have hX:Ext w wi:=by(repeat' (first|exact Ext.refl _|(with_reducible assumption)|(with_reducible refine Ext.alloc ?_ _)|(with_reducible refine Ext.setCell ?_ (by first|exact Nat.le_refl _|(dsimp only;omega)|(simp;done)|(simp;omega)) _)|(with_reducible refine Ext.drew ?_)|(with_reducible refine Ext.drewN ?_ _)|(refine Ext.trans ?_ (by with_reducible assumption))))
   have cl0:wi.cell? ⟨BH,0,none⟩=some (.func (.func 60) #[] #[]):=(hX.cells.1 _ _ hBH).trans hbh
   go_simp
   exact hK _ _ ⟨.func (.func 60) #[] #[],rfl,rfl,Ext.refl _⟩
  refine StepsL.cons (ps:= []) rfl (by kernel_rfl) (fun wi hx=> ?_) ?_
  ·intro K hK
   have hX:Ext w wi:=by(repeat' (first|exact Ext.refl _|(with_reducible assumption)|(with_reducible refine Ext.alloc ?_ _)|(with_reducible refine Ext.setCell ?_ (by first|exact Nat.le_refl _|(dsimp only;omega)|(simp;done)|(simp;omega)) _)|(with_reducible refine Ext.drew ?_)|(with_reducible refine Ext.drewN ?_ _)|(refine Ext.trans ?_ (by with_reducible assumption))))
   have cl0:wi.cell? ⟨BL,0,none⟩=some (.slice (some ⟨b,off,none⟩) m c2):=(hX.cells.1 _ _ hBL).trans hbl
   go_simp
   exact hK _ _ ⟨.slice (some ⟨b,off,none⟩) m c2,rfl,rfl,Ext.refl _⟩
  refine StepsL.cons (ps:= []) rfl (by kernel_rfl) (fun wi hx=> ?_) ?_
  ·intro K hK
   go_simp
   exact hK _ _ ⟨.int .i64 (i:Int),rfl,rfl,Ext.refl _⟩
  refine StepsL.cons (ps:= [(1,some 8),(2,some 9)]) rfl (by kernel_rfl) (fun wi hx=> ?_) ?_
  ·intro v1 h1 v2 h2 K hK
   obtain rfl:=h1
   obtain rfl:=h2
   go_simp
   exact hK _ _ ⟨.pointer (some ⟨b,off+i*4,none⟩),rfl,rfl,Ext.refl _⟩
  refine StepsL.cons (ps:= [(3,some 10)]) rfl (by kernel_rfl) (fun wi hx=> ?_) ?_
  ·intro v3 h3 K hK
   obtain rfl:=h3
   have hX:Ext w wi:=by(repeat' (first|exact Ext.refl _|(with_reducible assumption)|(with_reducible refine Ext.alloc ?_ _)|(with_reducible refine Ext.setCell ?_ (by first|exact Nat.le_refl _|(dsimp only;omega)|(simp;done)|(simp;omega)) _)|(with_reducible refine Ext.drew ?_)|(with_reducible refine Ext.drewN ?_ _)|(refine Ext.trans ?_ (by with_reducible assumption))))
   have cl0:wi.cell? ⟨b,off+i*4,none⟩=some (.int .i64 a0):=(hX.cells.1 _ _ hb).trans g0
   have cl1:wi.cell? ⟨b,off+i*4+1,none⟩=some (.int .i64 a1):=(hX.cells.1 _ _ hb).trans g1
   have cl2:wi.cell? ⟨b,off+i*4+2,none⟩=some (.int .i64 a2):=(hX.cells.1 _ _ hb).trans g2
   have cl3:wi.cell? ⟨b,off+i*4+3,none⟩=some (.int .i64 a3):=(hX.cells.1 _ _ hb).trans g3
   go_simp
   exact hK _ _ ⟨.agg #[.int .i64 a0,.int .i64 a1,.int .i64 a2,.int .i64 a3],rfl,rfl,Ext.refl _⟩
  refine StepsL.cons (ps:= [(0,some 7),(4,some 11)]) rfl (by kernel_rfl) (fun wi hx=> ?_) ?_
  ·intro v0 h0 v4 h4 K hK
   obtain rfl:=h0
   obtain rfl:=h4
   go_wp2_with fail
   refine(hourTo a0 a1 a2 a3 _).mono ?_
   rintro e w5 ⟨rfl,hx5⟩
   go_simp
   exact hK _ _ ⟨.int .i64 a2,rfl,rfl,hx5⟩
  refine StepsL.cons (ps:= []) rfl (by kernel_rfl) (fun wi hx=> ?_) ?_
  ·intro K hK
   have hX:Ext w wi:=by(repeat' (first|exact Ext.refl _|(with_reducible assumption)|(with_reducible refine Ext.alloc ?_ _)|(with_reducible refine Ext.setCell ?_ (by first|exact Nat.le_refl _|(dsimp only;omega)|(simp;done)|(simp;omega)) _)|(with_reducible refine Ext.drew ?_)|(with_reducible refine Ext.drewN ?_ _)|(refine Ext.trans ?_ (by with_reducible assumption))))
   have cl0:wi.cell? ⟨BH,0,none⟩=some (.func (.func 60) #[] #[]):=(hX.cells.1 _ _ hBH).trans hbh
   go_simp
   exact hK _ _ ⟨.func (.func 60) #[] #[],rfl,rfl,Ext.refl _⟩
  refine StepsL.cons (ps:= []) rfl (by kernel_rfl) (fun wi hx=> ?_) ?_
  ·intro K hK
   have hX:Ext w wi:=by(repeat' (first|exact Ext.refl _|(with_reducible assumption)|(with_reducible refine Ext.alloc ?_ _)|(with_reducible refine Ext.setCell ?_ (by first|exact Nat.le_refl _|(dsimp only;omega)|(simp;done)|(simp;omega)) _)|(with_reducible refine Ext.drew ?_)|(with_reducible refine Ext.drewN ?_ _)|(refine Ext.trans ?_ (by with_reducible assumption))))
   have cl0:wi.cell? ⟨BL,0,none⟩=some (.slice (some ⟨b,off,none⟩) m c2):=(hX.cells.1 _ _ hBL).trans hbl
   go_simp
   exact hK _ _ ⟨.slice (some ⟨b,off,none⟩) m c2,rfl,rfl,Ext.refl _⟩
  refine StepsL.cons (ps:= []) rfl (by kernel_rfl) (fun wi hx=> ?_) ?_
  ·intro K hK
   go_simp
   exact hK _ _ ⟨.int .i64 (j:Int),rfl,rfl,Ext.refl _⟩
  refine StepsL.cons (ps:= [(7,some 14),(8,some 15)]) rfl (by kernel_rfl) (fun wi hx=> ?_) ?_
  ·intro v7 h7 v8 h8 K hK
   obtain rfl:=h7
   obtain rfl:=h8
   go_simp
   exact hK _ _ ⟨.pointer (some ⟨b,off+j*4,none⟩),rfl,rfl,Ext.refl _⟩
  refine StepsL.cons (ps:= [(9,some 16)]) rfl (by kernel_rfl) (fun wi hx=> ?_) ?_
  ·intro v9 h9 K hK
   obtain rfl:=h9
   have hX:Ext w wi:=by(repeat' (first|exact Ext.refl _|(with_reducible assumption)|(with_reducible refine Ext.alloc ?_ _)|(with_reducible refine Ext.setCell ?_ (by first|exact Nat.le_refl _|(dsimp only;omega)|(simp;done)|(simp;omega)) _)|(with_reducible refine Ext.drew ?_)|(with_reducible refine Ext.drewN ?_ _)|(refine Ext.trans ?_ (by with_reducible assumption))))
   have cl0:wi.cell? ⟨b,off+j*4,none⟩=some (.int .i64 d0):=(hX.cells.1 _ _ hb).trans k0
   have cl1:wi.cell? ⟨b,off+j*4+1,none⟩=some (.int .i64 d1):=(hX.cells.1 _ _ hb).trans k1
   have cl2:wi.cell? ⟨b,off+j*4+2,none⟩=some (.int .i64 d2):=(hX.cells.1 _ _ hb).trans k2
   have cl3:wi.cell? ⟨b,off+j*4+3,none⟩=some (.int .i64 d3):=(hX.cells.1 _ _ hb).trans k3
   go_simp
   exact hK _ _ ⟨.agg #[.int .i64 d0,.int .i64 d1,.int .i64 d2,.int .i64 d3],rfl,rfl,Ext.refl _⟩
  refine StepsL.cons (ps:= [(6,some 13),(10,some 17)]) rfl (by kernel_rfl) (fun wi hx=> ?_) ?_
  ·intro v6 h6 v10 h10 K hK
   obtain rfl:=h6
   obtain rfl:=h10
   go_wp2_with fail
   refine(hourTo d0 d1 d2 d3 _).mono ?_
   rintro e w5 ⟨rfl,hx5⟩
   go_simp
   exact hK _ _ ⟨.int .i64 d2,rfl,rfl,hx5⟩
  refine StepsL.cons (ps:= [(5,some 12),(11,some 18)]) rfl (by kernel_rfl) (fun wi hx=> ?_) ?_
  ·intro v5 h5 v11 h11 K hK
   obtain rfl:=h5
   obtain rfl:=h11
   go_wp2_with fail
   refine(compareI a2 d2 _).mono ?_
   rintro e w5 ⟨rfl,hx5⟩
   go_simp
   exact hK _ _ ⟨.int .i64 (cmpI a2 d2),rfl,rfl,hx5⟩
  refine StepsL.cons (ps:= [(12,some 19)]) rfl (by kernel_rfl) (fun wi hx=> ?_) StepsL.nil
  ·intro v12 h12 K hK
   obtain rfl:=h12
   go_simp
   exact hK _ _ ⟨.int .i64 (cmpI a2 d2),rfl,rfl,Ext.refl _⟩
 case fin=>
  intro wi hx v0 h0 v1 h1 v2 h2 v3 h3 v4 h4 v5 h5 v6 h6 v7 h7 v8 h8 v9 h9 v10 h10 v11 h11 v12 h12 v13 h13
  obtain rfl:=h0
  obtain rfl:=h1
  obtain rfl:=h2
  obtain rfl:=h3
  obtain rfl:=h4
  obtain rfl:=h5
  obtain rfl:=h6
  obtain rfl:=h7
  obtain rfl:=h8
  obtain rfl:=h9
  obtain rfl:=h10
  obtain rfl:=h11
  obtain rfl:=h12
  obtain rfl:=h13
  refine wpAny_done (by kernel_rfl) ?_ _
  try simp only[Act.put,List.setIfInBounds_toArray,List.set_cons_zero,List.set_cons_succ]
  have hx':=hx.of_drew
  go_wp2
  go_ret
  exact⟨rfl,hx'⟩
set_option maxRecDepth 100000 in
set_option maxHeartbeats 8000000 in
theorem insInt_o (BH BL g n c B:Nat)(f:Nat→Int)(w:World)(hn0:0<n)(hn:n≤20)(hB:B≤g)(hO:w.ownsRow B TI 1 (.slice (some ⟨g,0,none⟩) n c) n (ivs (natI (List.range n))))
  (HC:Hid (∀w',ExtR g w w'→ ∀i x:Nat,i<n→x<n→Calls Tryd.prog 82 #[.int .i64 (i:Int),.int .i64 (x:Int),.pointer (some ⟨BH,0,none⟩),.pointer (some ⟨BL,0,none⟩)] w' fun e w''=>e= .returned (.int .i64 (cmpI (f i) (f x)))∧Ext w' w'')):
  Calls Tryd.prog 115 #[.slice (some ⟨g,0,none⟩) n c,.int .i64 0,.int .i64 (n:Int),.func (.func 82) #[] #[.pointer (some ⟨BH,0,none⟩),.pointer (some ⟨BL,0,none⟩)]] w fun e w'=>e= .returned (.tuple #[])∧(∃A:List Nat,A.Perm (List.range n)∧A.Pairwise (lexLt f)∧w'.ownsRow B TI 1 (.slice (some ⟨g,0,none⟩) n c) n (ivs (natI (A))))∧w.grownBy w' (some g):=by
 have HO0:=Lib.hid hO
 clear hO
 go_enter Tryd.func115,Tryd.ntmps115
 go_wp2
 go_loopw [8] (fun vi wr=> ∃(i:Nat) (A:List Nat),1≤i∧i≤n∧vi= .int .i64 (i:Int)∧A.length=i∧A.Perm (List.range i)∧A.Pairwise (lexLt f)∧wr.ownsRow B TI 1 (.slice (some ⟨g,0,none⟩) n c) n (ivs (natI (A++List.range' i (n-i))))∧ExtR g w wr) (fun vi _=>n-(intOf vi).toNat)
 case atStart=>
  refine⟨1,[0],Nat.le_refl _,hn0,by go_num,rfl,by simp[List.range_succ],by simp,?_,ExtR.refl _ _⟩
  have e:List.range n= [0]++List.range' 1 (n-1):=by
   rw[List.range_eq_range',show n=0+n by omega]
   have:=range'_step (i:=0) (n:=n) hn0
   simpa using this
  rw[←e];exact HO0.out
 case round=>
  clear HO0
  obtain⟨i,A,hi1,hin,rfl,hAl,hAp,hAs,hOA,hR0⟩:=hrel
  have HA:=Lib.hid hOA
  have HAp:=Lib.hid hAp
  have HAs:=Lib.hid hAs
  have HR0:=Lib.hid hR0
  clear hOA hAp hAs hR0
  by_cases hi:i<n
  ·have hst:=Lib.hid (range'_step hi)
   go_wp2
   go_loopw [9] (fun vj wr=> ∃(J:Int) (A1 B1:List Nat),vj= .int .i64 J∧J=(A1.length:Int)∧A1.length≤i∧(A1++B1).Perm (List.range i)∧(A1++B1).Pairwise (lexLt f)∧(∀b∈B1,f i<f b)∧wr.ownsRow B TI 1 (.slice (some ⟨g,0,none⟩) n c) n (ivs (natI (A1++i::(B1++List.range' (i+1) (n-(i+1))))))∧ExtR g w wr) (fun vj _=>(intOf vj).toNat)
   case atStart=>exact⟨(i:Int),A,[],rfl,by rw[hAl],by omega,by simpa using HAp.out,by simpa using HAs.out,by simp,by have:=HA.out;rw[hst.out]at this;simpa using this,HR0.out⟩
   case round=>
    clear HA HAp HAs HR0
    obtain⟨J,A1,B1,rfl,hJ,hA1,hp,hs,hb,hOJ,hR⟩:=hrel
    have HJ:=Lib.hid hOJ
    clear hOJ
    have hg2:g<wr.heap.size:=(HJ.out.lt g rfl).2
    rcases list_end A1 with rfl|⟨A2,x,rfl⟩
    ·have hex:=Lib.hid (ins_exit hp hs hb (.inl rfl))
     obtain rfl:J=0:=by simpa using hJ
     clear hp hs hb hJ
     go_wp2
     refine region_lin (gl [gEq (.int .i64 0),gEq (.int .i64 0),gEq (.bool false),gEq (.bool false),gEq (undef),gEq (undef),gEq (undef),gEq (undef),gEq (undef),gEq (undef),gEq (undef),gEq (undef),gEq (undef),gEq (undef),gEq (undef),gEq (undef),gEq (.bool false)]) 17 (by kernel_rfl) rfl (by kernel_rfl) (by kernel_rfl) (by kernel_rfl) (gl_mono (gl_cons (gEq_mono _) (gl_cons (gEq_mono _) (gl_cons (gEq_mono _) (gl_cons (gEq_mono _) (gl_cons (gEq_mono _) (gl_cons (gEq_mono _) (gl_cons (gEq_mono _) (gl_cons (gEq_mono _) (gl_cons (gEq_mono _) (gl_cons (gEq_mono _) (gl_cons (gEq_mono _) (gl_cons (gEq_mono _) (gl_cons (gEq_mono _) (gl_cons (gEq_mono _) (gl_cons (gEq_mono _) (gl_cons (gEq_mono _) (gl_cons (gEq_mono _) (gl_nil))))))))))))))))))) (k:=17) (by kernel_rfl) (by decide) (ls:= [(0,some 18),(1,some 19),(2,some 20),(3,some 21),(4,some 22),(5,some 23),(6,some 24),(7,some 25),(8,some 26),(9,some 27),(10,some 28),(11,some 29),(12,some 30),(13,some 31),(14,some 32),(15,some 33),(16,some 34)]) (by kernel_rfl) (ir:= [0,1,2,3,4,5,6,7,8,9,10,11,12,13,14,15,16]) (by kernel_rfl) ?steps (tl:=#[true,true,true,true,true,true,true,true,true,true,true,true,true,true,true,true,true]) (by kernel_rfl) ?fin
     case steps=>
      refine StepsL.cons (ps:= []) rfl (by kernel_rfl) (fun wi hx=> ?_) ?_
      ·intro K hK
       go_simp
       exact hK _ _ ⟨.int .i64 0,rfl,rfl,Ext.refl _⟩
      refine StepsL.cons (ps:= []) rfl (by kernel_rfl) (fun wi hx=> ?_) ?_
      ·intro K hK
       go_simp
       exact hK _ _ ⟨.int .i64 0,rfl,rfl,Ext.refl _⟩
      refine StepsL.cons (ps:= [(0,some 18),(1,some 19)]) rfl (by kernel_rfl) (fun wi hx=> ?_) ?_
      ·intro v0 h0 v1 h1 K hK
       obtain rfl:=h0
       obtain rfl:=h1
       go_simp
       exact hK _ _ ⟨.bool false,rfl,rfl,Ext.refl _⟩
      refine StepsL.cons (ps:= [(2,some 20)]) rfl (by kernel_rfl) (fun wi hx=> ?_) ?_
      ·intro v2 h2 K hK
       obtain rfl:=h2
       go_simp
       exact hK _ _ ⟨.bool false,rfl,rfl,Ext.refl _⟩
      refine StepsL.cons (ps:= [(3,some 21)]) rfl (by kernel_rfl) (fun wi hx=> ?_) ?_
      ·intro v3 h3 K hK
       obtain rfl:=h3
       go_simp
       exact hK _ _ ⟨undef,rfl,rfl,Ext.refl _⟩
      refine StepsL.cons (ps:= [(3,some 21)]) rfl (by kernel_rfl) (fun wi hx=> ?_) ?_
      ·intro v3 h3 K hK
       obtain rfl:=h3
       go_simp
       exact hK _ _ ⟨undef,rfl,rfl,Ext.refl _⟩
      refine StepsL.cons (ps:= [(3,some 21)]) rfl (by kernel_rfl) (fun wi hx=> ?_) ?_
      ·intro v3 h3 K hK
       obtain rfl:=h3
       go_simp
       exact hK _ _ ⟨undef,rfl,rfl,Ext.refl _⟩
      refine StepsL.cons (ps:= [(3,some 21),(5,some 23),(6,some 24)]) rfl (by kernel_rfl) (fun wi hx=> ?_) ?_
      ·intro v3 h3 v5 h5 v6 h6 K hK
       obtain rfl:=h3
       obtain rfl:=h5
       obtain rfl:=h6
       go_simp
       exact hK _ _ ⟨undef,rfl,rfl,Ext.refl _⟩
      refine StepsL.cons (ps:= [(3,some 21),(7,some 25)]) rfl (by kernel_rfl) (fun wi hx=> ?_) ?_
      ·intro v3 h3 v7 h7 K hK
       obtain rfl:=h3
       obtain rfl:=h7
       go_simp
       exact hK _ _ ⟨undef,rfl,rfl,Ext.refl _⟩
      refine StepsL.cons (ps:= [(3,some 21)]) rfl (by kernel_rfl) (fun wi hx=> ?_) ?_
      ·intro v3 h3 K hK
       obtain rfl:=h3
       go_simp
       exact hK _ _ ⟨undef,rfl,rfl,Ext.refl _⟩
      refine StepsL.cons (ps:= [(3,some 21)]) rfl (by kernel_rfl) (fun wi hx=> ?_) ?_
      ·intro v3 h3 K hK
       obtain rfl:=h3
       go_simp
       exact hK _ _ ⟨undef,rfl,rfl,Ext.refl _⟩
      refine StepsL.cons (ps:= [(3,some 21),(10,some 28)]) rfl (by kernel_rfl) (fun wi hx=> ?_) ?_
      ·intro v3 h3 v10 h10 K hK
       obtain rfl:=h3
       obtain rfl:=h10
       go_simp
       exact hK _ _ ⟨undef,rfl,rfl,Ext.refl _⟩
      refine StepsL.cons (ps:= [(3,some 21),(9,some 27),(11,some 29)]) rfl (by kernel_rfl) (fun wi hx=> ?_) ?_
      ·intro v3 h3 v9 h9 v11 h11 K hK
       obtain rfl:=h3
       obtain rfl:=h9
       obtain rfl:=h11
       go_simp
       exact hK _ _ ⟨undef,rfl,rfl,Ext.refl _⟩
      refine StepsL.cons (ps:= [(3,some 21),(12,some 30)]) rfl (by kernel_rfl) (fun wi hx=> ?_) ?_
      ·intro v3 h3 v12 h12 K hK
       obtain rfl:=h3
       obtain rfl:=h12
       go_simp
       exact hK _ _ ⟨undef,rfl,rfl,Ext.refl _⟩
      refine StepsL.cons (ps:= [(3,some 21),(4,some 22),(8,some 26),(13,some 31)]) rfl (by kernel_rfl) (fun wi hx=> ?_) ?_
      ·intro v3 h3 v4 h4 v8 h8 v13 h13 K hK
       obtain rfl:=h3
       obtain rfl:=h4
       obtain rfl:=h8
       obtain rfl:=h13
       go_simp
       exact hK _ _ ⟨undef,rfl,rfl,Ext.refl _⟩
      refine StepsL.cons (ps:= [(3,some 21),(14,some 32)]) rfl (by kernel_rfl) (fun wi hx=> ?_) ?_
      ·intro v3 h3 v14 h14 K hK
       obtain rfl:=h3
       obtain rfl:=h14
       go_simp
       exact hK _ _ ⟨undef,rfl,rfl,Ext.refl _⟩
      refine StepsL.cons (ps:= [(3,some 21),(15,some 33)]) rfl (by kernel_rfl) (fun wi hx=> ?_) StepsL.nil
      ·intro v3 h3 v15 h15 K hK
       obtain rfl:=h3
       obtain rfl:=h15
       go_simp
       exact hK _ _ ⟨.bool false,rfl,rfl,Ext.refl _⟩
     case fin=>
      intro wi hx v0 h0 v1 h1 v2 h2 v3 h3 v4 h4 v5 h5 v6 h6 v7 h7 v8 h8 v9 h9 v10 h10 v11 h11 v12 h12 v13 h13 v14 h14 v15 h15 v16 h16
      obtain rfl:=h0
      obtain rfl:=h1
      obtain rfl:=h2
      obtain rfl:=h3
      obtain rfl:=h4
      obtain rfl:=h5
      obtain rfl:=h6
      obtain rfl:=h7
      obtain rfl:=h8
      obtain rfl:=h9
      obtain rfl:=h10
      obtain rfl:=h11
      obtain rfl:=h12
      obtain rfl:=h13
      obtain rfl:=h14
      obtain rfl:=h15
      obtain rfl:=h16
      refine wpAny_done (by kernel_rfl) ?_ _
      try simp only[Act.put,List.setIfInBounds_toArray,List.set_cons_zero,List.set_cons_succ]
      have hx':=hx.of_drew
      have hR2:=Lib.hid (hR.ext hx')
      have HO2:=Lib.hid (own_ext HJ.out hx')
      go_wp2
      go_roundw
      case rel=>exact⟨i+1,_,by omega,by omega,by go_num,by have:=hex.out.1.length_eq;simpa using this,hex.out.1,hex.out.2,by have:=HO2.out;simpa[List.append_assoc]using this,hR2.out⟩
      case measure=>simp[intOf];omega
    ·obtain⟨jp,hjp⟩: ∃jp,A2.length=jp:=⟨_,rfl⟩
     have hJp:J=(jp:Int)+1:=by rw[hJ];simp[hjp]
     have hji:jp+1≤i:=by have:=hA1;simp[hjp]at this;omega
     have hxn:x<n:=by have:=(hp.mem_iff (a:=x)).1 (by simp);rw[List.mem_range]at this;omega
     have ej:=HJ.out.cellAt (jp+1) (by omega)
     have ex:=HJ.out.cellAt jp (by omega)
     have e1:(ivs (natI ((A2++ [x])++i::(B1++List.range' (i+1) (n-(i+1))))))[jp+1]? =some (.int .i64 (i:Int)):=by
      simp[ivs,natI,iv,List.getElem?_append,hjp]
     have e2:(ivs (natI ((A2++ [x])++i::(B1++List.range' (i+1) (n-(i+1))))))[jp]? =some (.int .i64 (x:Int)):=by
      simp[ivs,natI,iv,List.getElem?_append,hjp]
     have cj:wr.cell? ⟨g,jp+1,none⟩=some (.int .i64 (i:Int)):=ej.trans e1
     have cx:wr.cell? ⟨g,jp,none⟩=some (.int .i64 (x:Int)):=ex.trans e2
     clear ej ex e1 e2 hJ
     have q1:J.toNat=jp+1:=by omega
     have q2:(J-1).toNat=jp:=by omega
     have q3:0≤J:=by omega
     have q4:J<(n:Int):=by omega
     have q5:0≤J-1:=by omega
     have q6:J-1<(n:Int):=by omega
     have q7:IntKind.i64.wrap (J-1)=J-1:=IntWalk.i64_in _ (by omega)
     have q8:0<J:=by omega
     have q9:(1:Int)≤J:=by omega
     by_cases hlt:f i<f x
     ·have hz:cmpI (f i) (f x)<0:=(cmpI_lt _ _).2 hlt
      have HJp:=Lib.hid hJp
      have hp2:Hid ((A2++x::B1).Perm (List.range i)):=by show List.Perm _ _;simpa using hp
      have hs2:Hid ((A2++x::B1).Pairwise (lexLt f)):=by show List.Pairwise _ _;simpa using hs
      have hb2:Hid (∀b∈x::B1,f i<f b):=by
       intro b hb'
       rcases List.mem_cons.1 hb' with rfl|hb'
       ·exact hlt
       ·exact hb b hb'
      clear hp hs hb hlt hJp
      generalize hZ:cmpI (f i) (f x)=Z at hz
      replace HC:=Lib.hid (fun w' (hw:ExtR g w w') (i' x':Nat) (h1:i'=i) (h2:x'=x)=>by subst h1;subst h2;have:=HC.out w' hw i' x' hi hxn;rw[hZ]at this;exact this)
      clear hZ
      go_wp2
      refine region_lin (gl [gEq (.int .i64 J),gEq (.int .i64 0),gEq (.bool true),gEq (.bool true),gEq (.func (.func 82) #[] #[.pointer (some ⟨BH,0,none⟩),.pointer (some ⟨BL,0,none⟩)]),gEq (.slice (some ⟨g,0,none⟩) n c),gEq (.int .i64 J),gEq (.pointer (some ⟨g,(jp+1),none⟩)),gEq (.int .i64 (i:Int)),gEq (.slice (some ⟨g,0,none⟩) n c),gEq (.int .i64 J),gEq (.int .i64 (J-1)),gEq (.pointer (some ⟨g,jp,none⟩)),gEq (.int .i64 (x:Int)),gEq (.int .i64 Z),gEq (.bool true),gEq (.bool true)]) 17 (by kernel_rfl) rfl (by kernel_rfl) (by kernel_rfl) (by kernel_rfl) (gl_mono (gl_cons (gEq_mono _) (gl_cons (gEq_mono _) (gl_cons (gEq_mono _) (gl_cons (gEq_mono _) (gl_cons (gEq_mono _) (gl_cons (gEq_mono _) (gl_cons (gEq_mono _) (gl_cons (gEq_mono _) (gl_cons (gEq_mono _) (gl_cons (gEq_mono _) (gl_cons (gEq_mono _) (gl_cons (gEq_mono _) (gl_cons (gEq_mono _) (gl_cons (gEq_mono _) (gl_cons (gEq_mono _) (gl_cons (gEq_mono _) (gl_cons (gEq_mono _) (gl_nil))))))))))))))))))) (k:=17) (by kernel_rfl) (by decide) (ls:= [(0,some 18),(1,some 19),(2,some 20),(3,some 21),(4,some 22),(5,some 23),(6,some 24),(7,some 25),(8,some 26),(9,some 27),(10,some 28),(11,some 29),(12,some 30),(13,some 31),(14,some 32),(15,some 33),(16,some 34)]) (by kernel_rfl) (ir:= [0,1,2,3,4,5,6,7,8,9,10,11,12,13,14,15,16]) (by kernel_rfl) ?steps (tl:=#[true,true,true,true,true,true,true,true,true,true,true,true,true,true,true,true,true]) (by kernel_rfl) ?fin
      case steps=>
       refine StepsL.cons (ps:= []) rfl (by kernel_rfl) (fun wi hx=> ?_) ?_
       ·intro K hK
        go_simp
        exact hK _ _ ⟨.int .i64 J,rfl,rfl,Ext.refl _⟩
       refine StepsL.cons (ps:= []) rfl (by kernel_rfl) (fun wi hx=> ?_) ?_
       ·intro K hK
        go_simp
        exact hK _ _ ⟨.int .i64 0,rfl,rfl,Ext.refl _⟩
       refine StepsL.cons (ps:= [(0,some 18),(1,some 19)]) rfl (by kernel_rfl) (fun wi hx=> ?_) ?_
       ·intro v0 h0 v1 h1 K hK
        obtain rfl:=h0
        obtain rfl:=h1
        go_simp
        exact hK _ _ ⟨.bool true,rfl,rfl,Ext.refl _⟩
       refine StepsL.cons (ps:= [(2,some 20)]) rfl (by kernel_rfl) (fun wi hx=> ?_) ?_
       ·intro v2 h2 K hK
        obtain rfl:=h2
        go_simp
        exact hK _ _ ⟨.bool true,rfl,rfl,Ext.refl _⟩
       refine StepsL.cons (ps:= [(3,some 21)]) rfl (by kernel_rfl) (fun wi hx=> ?_) ?_
       ·intro v3 h3 K hK
        obtain rfl:=h3
        go_simp
        exact hK _ _ ⟨.func (.func 82) #[] #[.pointer (some ⟨BH,0,none⟩),.pointer (some ⟨BL,0,none⟩)],rfl,rfl,Ext.refl _⟩
       refine StepsL.cons (ps:= [(3,some 21)]) rfl (by kernel_rfl) (fun wi hx=> ?_) ?_
       ·intro v3 h3 K hK
        obtain rfl:=h3
        go_simp
        exact hK _ _ ⟨.slice (some ⟨g,0,none⟩) n c,rfl,rfl,Ext.refl _⟩
       refine StepsL.cons (ps:= [(3,some 21)]) rfl (by kernel_rfl) (fun wi hx=> ?_) ?_
       ·intro v3 h3 K hK
        obtain rfl:=h3
        go_simp
        exact hK _ _ ⟨.int .i64 J,rfl,rfl,Ext.refl _⟩
       refine StepsL.cons (ps:= [(3,some 21),(5,some 23),(6,some 24)]) rfl (by kernel_rfl) (fun wi hx=> ?_) ?_
       ·intro v3 h3 v5 h5 v6 h6 K hK
        obtain rfl:=h3
        obtain rfl:=h5
        obtain rfl:=h6
        go_simp
        exact hK _ _ ⟨.pointer (some ⟨g,(jp+1),none⟩),rfl,rfl,Ext.refl _⟩
       refine StepsL.cons (ps:= [(3,some 21),(7,some 25)]) rfl (by kernel_rfl) (fun wi hx=> ?_) ?_
       ·intro v3 h3 v7 h7 K hK
        obtain rfl:=h3
        obtain rfl:=h7
        have hX:Ext wr wi:=by(repeat' (first|exact Ext.refl _|(with_reducible assumption)|(with_reducible refine Ext.alloc ?_ _)|(with_reducible refine Ext.setCell ?_ (by first|exact Nat.le_refl _|(dsimp only;omega)|(simp;done)|(simp;omega)) _)|(with_reducible refine Ext.drew ?_)|(with_reducible refine Ext.drewN ?_ _)|(refine Ext.trans ?_ (by with_reducible assumption))))
        have cl0:wi.cell? ⟨g,(jp+1),none⟩=some (.int .i64 (i:Int)):=(hX.cells.1 _ _ hg2).trans cj
        go_simp
        exact hK _ _ ⟨.int .i64 (i:Int),rfl,rfl,Ext.refl _⟩
       refine StepsL.cons (ps:= [(3,some 21)]) rfl (by kernel_rfl) (fun wi hx=> ?_) ?_
       ·intro v3 h3 K hK
        obtain rfl:=h3
        go_simp
        exact hK _ _ ⟨.slice (some ⟨g,0,none⟩) n c,rfl,rfl,Ext.refl _⟩
       refine StepsL.cons (ps:= [(3,some 21)]) rfl (by kernel_rfl) (fun wi hx=> ?_) ?_
       ·intro v3 h3 K hK
        obtain rfl:=h3
        go_simp
        exact hK _ _ ⟨.int .i64 J,rfl,rfl,Ext.refl _⟩
       refine StepsL.cons (ps:= [(3,some 21),(10,some 28)]) rfl (by kernel_rfl) (fun wi hx=> ?_) ?_
       ·intro v3 h3 v10 h10 K hK
        obtain rfl:=h3
        obtain rfl:=h10
        go_simp
        exact hK _ _ ⟨.int .i64 (J-1),rfl,rfl,Ext.refl _⟩
       refine StepsL.cons (ps:= [(3,some 21),(9,some 27),(11,some 29)]) rfl (by kernel_rfl) (fun wi hx=> ?_) ?_
       ·intro v3 h3 v9 h9 v11 h11 K hK
        obtain rfl:=h3
        obtain rfl:=h9
        obtain rfl:=h11
        go_simp
        exact hK _ _ ⟨.pointer (some ⟨g,jp,none⟩),rfl,rfl,Ext.refl _⟩
       refine StepsL.cons (ps:= [(3,some 21),(12,some 30)]) rfl (by kernel_rfl) (fun wi hx=> ?_) ?_
       ·intro v3 h3 v12 h12 K hK
        obtain rfl:=h3
        obtain rfl:=h12
        have hX:Ext wr wi:=by(repeat' (first|exact Ext.refl _|(with_reducible assumption)|(with_reducible refine Ext.alloc ?_ _)|(with_reducible refine Ext.setCell ?_ (by first|exact Nat.le_refl _|(dsimp only;omega)|(simp;done)|(simp;omega)) _)|(with_reducible refine Ext.drew ?_)|(with_reducible refine Ext.drewN ?_ _)|(refine Ext.trans ?_ (by with_reducible assumption))))
        have cl0:wi.cell? ⟨g,jp,none⟩=some (.int .i64 (x:Int)):=(hX.cells.1 _ _ hg2).trans cx
        go_simp
        exact hK _ _ ⟨.int .i64 (x:Int),rfl,rfl,Ext.refl _⟩
       refine StepsL.cons (ps:= [(3,some 21),(4,some 22),(8,some 26),(13,some 31)]) rfl (by kernel_rfl) (fun wi hx=> ?_) ?_
       ·intro v3 h3 v4 h4 v8 h8 v13 h13 K hK
        obtain rfl:=h3
        obtain rfl:=h4
        obtain rfl:=h8
        obtain rfl:=h13
        go_wp2_with fail
        refine(HC.out _ (hR.trans (hx.of_drew.r g)) i x rfl rfl).mono ?_
        rintro e w5 ⟨rfl,hx5⟩
        go_simp
        exact hK _ _ ⟨.int .i64 Z,rfl,rfl,hx5⟩
       refine StepsL.cons (ps:= [(3,some 21),(14,some 32)]) rfl (by kernel_rfl) (fun wi hx=> ?_) ?_
       ·intro v3 h3 v14 h14 K hK
        obtain rfl:=h3
        obtain rfl:=h14
        go_simp
        exact hK _ _ ⟨.bool true,rfl,rfl,Ext.refl _⟩
       refine StepsL.cons (ps:= [(3,some 21),(15,some 33)]) rfl (by kernel_rfl) (fun wi hx=> ?_) StepsL.nil
       ·intro v3 h3 v15 h15 K hK
        obtain rfl:=h3
        obtain rfl:=h15
        go_simp
        exact hK _ _ ⟨.bool true,rfl,rfl,Ext.refl _⟩
      case fin=>
       intro wi hx v0 h0 v1 h1 v2 h2 v3 h3 v4 h4 v5 h5 v6 h6 v7 h7 v8 h8 v9 h9 v10 h10 v11 h11 v12 h12 v13 h13 v14 h14 v15 h15 v16 h16
       obtain rfl:=h0
       obtain rfl:=h1
       obtain rfl:=h2
       obtain rfl:=h3
       obtain rfl:=h4
       obtain rfl:=h5
       obtain rfl:=h6
       obtain rfl:=h7
       obtain rfl:=h8
       obtain rfl:=h9
       obtain rfl:=h10
       obtain rfl:=h11
       obtain rfl:=h12
       obtain rfl:=h13
       obtain rfl:=h14
       obtain rfl:=h15
       obtain rfl:=h16
       refine wpAny_done (by kernel_rfl) ?_ _
       try simp only[Act.put,List.setIfInBounds_toArray,List.set_cons_zero,List.set_cons_succ]
       have hx':=hx.of_drew
       have hR2:=Lib.hid (hR.ext hx')
       have HO2:=Lib.hid (own_ext HJ.out hx')
       have fj:wi.frozen? ⟨g,jp+1,none⟩=false:=HO2.out.frozenAt _
       have fx:wi.frozen? ⟨g,jp,none⟩=false:=HO2.out.frozenAt _
       have cj2:wi.cell? ⟨g,jp+1,none⟩=some (.int .i64 (i:Int)):=(hx'.cells.1 _ _ hg2).trans cj
       have cx2:wi.cell? ⟨g,jp,none⟩=some (.int .i64 (x:Int)):=(hx'.cells.1 _ _ hg2).trans cx
       clear cj cx hx hx'
       go_wp2
       go_region
       have HS2:=Lib.hid (own_ext ((HO2.out.stored (jp+1) (.int .i64 (x:Int))).1.stored jp (.int .i64 (i:Int))).1 (Ext.drew (Ext.refl _)))
       have HX2:=Lib.hid (((hR2.out.setCell (p:=⟨g,jp+1,none⟩) (.inl rfl) (.int .i64 (x:Int))).setCell (p:=⟨g,jp,none⟩) (.inl rfl) (.int .i64 (i:Int))).drew)
       have he:Hid (((ivs (natI ((A2++ [x])++i::(B1++List.range' (i+1) (n-(i+1)))))).set (jp+1) (.int .i64 (x:Int))).set jp (.int .i64 (i:Int))=ivs (natI (A2++i::(x::B1++List.range' (i+1) (n-(i+1)))))):=by
        show _=_
        have:=swap_at (ivs (natI A2)) (ivs (natI (B1++List.range' (i+1) (n-(i+1))))) (.int .i64 (x:Int)) (.int .i64 (i:Int))
        rw[show(ivs (natI A2)).length=jp by simp[ivs,natI,hjp]]at this
        simpa[ivs,natI,iv]using this
       rw[he.out]at HS2
       clear he HO2 hR2 fj fx cj2 cx2
       go_wp2
       go_roundw
       case rel=>exact⟨J-1,A2,x::B1,rfl,by rw[HJp.out];simp[hjp],by omega,hp2.out,hs2.out,hb2.out,HS2.out,HX2.out⟩
       case measure=>simp[intOf];omega
     ·have hz0: ¬cmpI (f i) (f x)<0:=fun h=>hlt ((cmpI_lt _ _).1 h)
      have hex:=Lib.hid (ins_exit hp hs hb (.inr ⟨A2,x,rfl,by omega⟩))
      clear hp hs hb hlt hJp
      generalize hZ:cmpI (f i) (f x)=Z at hz0
      have hz:0≤Z:=by omega
      have hz2:decide (Z<0)=false:=by simp;omega
      replace HC:=Lib.hid (fun w' (hw:ExtR g w w') (i' x':Nat) (h1:i'=i) (h2:x'=x)=>by subst h1;subst h2;have:=HC.out w' hw i' x' hi hxn;rw[hZ]at this;exact this)
      clear hZ
      go_wp2
      refine region_lin (gl [gEq (.int .i64 J),gEq (.int .i64 0),gEq (.bool true),gEq (.bool true),gEq (.func (.func 82) #[] #[.pointer (some ⟨BH,0,none⟩),.pointer (some ⟨BL,0,none⟩)]),gEq (.slice (some ⟨g,0,none⟩) n c),gEq (.int .i64 J),gEq (.pointer (some ⟨g,(jp+1),none⟩)),gEq (.int .i64 (i:Int)),gEq (.slice (some ⟨g,0,none⟩) n c),gEq (.int .i64 J),gEq (.int .i64 (J-1)),gEq (.pointer (some ⟨g,jp,none⟩)),gEq (.int .i64 (x:Int)),gEq (.int .i64 Z),gEq (.bool false),gEq (.bool false)]) 17 (by kernel_rfl) rfl (by kernel_rfl) (by kernel_rfl) (by kernel_rfl) (gl_mono (gl_cons (gEq_mono _) (gl_cons (gEq_mono _) (gl_cons (gEq_mono _) (gl_cons (gEq_mono _) (gl_cons (gEq_mono _) (gl_cons (gEq_mono _) (gl_cons (gEq_mono _) (gl_cons (gEq_mono _) (gl_cons (gEq_mono _) (gl_cons (gEq_mono _) (gl_cons (gEq_mono _) (gl_cons (gEq_mono _) (gl_cons (gEq_mono _) (gl_cons (gEq_mono _) (gl_cons (gEq_mono _) (gl_cons (gEq_mono _) (gl_cons (gEq_mono _) (gl_nil))))))))))))))))))) (k:=17) (by kernel_rfl) (by decide) (ls:= [(0,some 18),(1,some 19),(2,some 20),(3,some 21),(4,some 22),(5,some 23),(6,some 24),(7,some 25),(8,some 26),(9,some 27),(10,some 28),(11,some 29),(12,some 30),(13,some 31),(14,some 32),(15,some 33),(16,some 34)]) (by kernel_rfl) (ir:= [0,1,2,3,4,5,6,7,8,9,10,11,12,13,14,15,16]) (by kernel_rfl) ?steps (tl:=#[true,true,true,true,true,true,true,true,true,true,true,true,true,true,true,true,true]) (by kernel_rfl) ?fin
      case steps=>
       refine StepsL.cons (ps:= []) rfl (by kernel_rfl) (fun wi hx=> ?_) ?_
       ·intro K hK
        go_simp
        exact hK _ _ ⟨.int .i64 J,rfl,rfl,Ext.refl _⟩
       refine StepsL.cons (ps:= []) rfl (by kernel_rfl) (fun wi hx=> ?_) ?_
       ·intro K hK
        go_simp
        exact hK _ _ ⟨.int .i64 0,rfl,rfl,Ext.refl _⟩
       refine StepsL.cons (ps:= [(0,some 18),(1,some 19)]) rfl (by kernel_rfl) (fun wi hx=> ?_) ?_
       ·intro v0 h0 v1 h1 K hK
        obtain rfl:=h0
        obtain rfl:=h1
        go_simp
        exact hK _ _ ⟨.bool true,rfl,rfl,Ext.refl _⟩
       refine StepsL.cons (ps:= [(2,some 20)]) rfl (by kernel_rfl) (fun wi hx=> ?_) ?_
       ·intro v2 h2 K hK
        obtain rfl:=h2
        go_simp
        exact hK _ _ ⟨.bool true,rfl,rfl,Ext.refl _⟩
       refine StepsL.cons (ps:= [(3,some 21)]) rfl (by kernel_rfl) (fun wi hx=> ?_) ?_
       ·intro v3 h3 K hK
        obtain rfl:=h3
        go_simp
        exact hK _ _ ⟨.func (.func 82) #[] #[.pointer (some ⟨BH,0,none⟩),.pointer (some ⟨BL,0,none⟩)],rfl,rfl,Ext.refl _⟩
       refine StepsL.cons (ps:= [(3,some 21)]) rfl (by kernel_rfl) (fun wi hx=> ?_) ?_
       ·intro v3 h3 K hK
        obtain rfl:=h3
        go_simp
        exact hK _ _ ⟨.slice (some ⟨g,0,none⟩) n c,rfl,rfl,Ext.refl _⟩
       refine StepsL.cons (ps:= [(3,some 21)]) rfl (by kernel_rfl) (fun wi hx=> ?_) ?_
       ·intro v3 h3 K hK
        obtain rfl:=h3
        go_simp
        exact hK _ _ ⟨.int .i64 J,rfl,rfl,Ext.refl _⟩
       refine StepsL.cons (ps:= [(3,some 21),(5,some 23),(6,some 24)]) rfl (by kernel_rfl) (fun wi hx=> ?_) ?_
       ·intro v3 h3 v5 h5 v6 h6 K hK
        obtain rfl:=h3
        obtain rfl:=h5
        obtain rfl:=h6
        go_simp
        exact hK _ _ ⟨.pointer (some ⟨g,(jp+1),none⟩),rfl,rfl,Ext.refl _⟩
       refine StepsL.cons (ps:= [(3,some 21),(7,some 25)]) rfl (by kernel_rfl) (fun wi hx=> ?_) ?_
       ·intro v3 h3 v7 h7 K hK
        obtain rfl:=h3
        obtain rfl:=h7
        have hX:Ext wr wi:=by(repeat' (first|exact Ext.refl _|(with_reducible assumption)|(with_reducible refine Ext.alloc ?_ _)|(with_reducible refine Ext.setCell ?_ (by first|exact Nat.le_refl _|(dsimp only;omega)|(simp;done)|(simp;omega)) _)|(with_reducible refine Ext.drew ?_)|(with_reducible refine Ext.drewN ?_ _)|(refine Ext.trans ?_ (by with_reducible assumption))))
        have cl0:wi.cell? ⟨g,(jp+1),none⟩=some (.int .i64 (i:Int)):=(hX.cells.1 _ _ hg2).trans cj
        go_simp
        exact hK _ _ ⟨.int .i64 (i:Int),rfl,rfl,Ext.refl _⟩
       refine StepsL.cons (ps:= [(3,some 21)]) rfl (by kernel_rfl) (fun wi hx=> ?_) ?_
       ·intro v3 h3 K hK
        obtain rfl:=h3
        go_simp
        exact hK _ _ ⟨.slice (some ⟨g,0,none⟩) n c,rfl,rfl,Ext.refl _⟩
       refine StepsL.cons (ps:= [(3,some 21)]) rfl (by kernel_rfl) (fun wi hx=> ?_) ?_
       ·intro v3 h3 K hK
        obtain rfl:=h3
        go_simp
        exact hK _ _ ⟨.int .i64 J,rfl,rfl,Ext.refl _⟩
       refine StepsL.cons (ps:= [(3,some 21),(10,some 28)]) rfl (by kernel_rfl) (fun wi hx=> ?_) ?_
       ·intro v3 h3 v10 h10 K hK
        obtain rfl:=h3
        obtain rfl:=h10
        go_simp
        exact hK _ _ ⟨.int .i64 (J-1),rfl,rfl,Ext.refl _⟩
       refine StepsL.cons (ps:= [(3,some 21),(9,some 27),(11,some 29)]) rfl (by kernel_rfl) (fun wi hx=> ?_) ?_
       ·intro v3 h3 v9 h9 v11 h11 K hK
        obtain rfl:=h3
        obtain rfl:=h9
        obtain rfl:=h11
        go_simp
        exact hK _ _ ⟨.pointer (some ⟨g,jp,none⟩),rfl,rfl,Ext.refl _⟩
       refine StepsL.cons (ps:= [(3,some 21),(12,some 30)]) rfl (by kernel_rfl) (fun wi hx=> ?_) ?_
       ·intro v3 h3 v12 h12 K hK
        obtain rfl:=h3
        obtain rfl:=h12
        have hX:Ext wr wi:=by(repeat' (first|exact Ext.refl _|(with_reducible assumption)|(with_reducible refine Ext.alloc ?_ _)|(with_reducible refine Ext.setCell ?_ (by first|exact Nat.le_refl _|(dsimp only;omega)|(simp;done)|(simp;omega)) _)|(with_reducible refine Ext.drew ?_)|(with_reducible refine Ext.drewN ?_ _)|(refine Ext.trans ?_ (by with_reducible assumption))))
        have cl0:wi.cell? ⟨g,jp,none⟩=some (.int .i64 (x:Int)):=(hX.cells.1 _ _ hg2).trans cx
        go_simp
        exact hK _ _ ⟨.int .i64 (x:Int),rfl,rfl,Ext.refl _⟩
       refine StepsL.cons (ps:= [(3,some 21),(4,some 22),(8,some 26),(13,some 31)]) rfl (by kernel_rfl) (fun wi hx=> ?_) ?_
       ·intro v3 h3 v4 h4 v8 h8 v13 h13 K hK
        obtain rfl:=h3
        obtain rfl:=h4
        obtain rfl:=h8
        obtain rfl:=h13
        go_wp2_with fail
        refine(HC.out _ (hR.trans (hx.of_drew.r g)) i x rfl rfl).mono ?_
        rintro e w5 ⟨rfl,hx5⟩
        go_simp
        exact hK _ _ ⟨.int .i64 Z,rfl,rfl,hx5⟩
       refine StepsL.cons (ps:= [(3,some 21),(14,some 32)]) rfl (by kernel_rfl) (fun wi hx=> ?_) ?_
       ·intro v3 h3 v14 h14 K hK
        obtain rfl:=h3
        obtain rfl:=h14
        go_simp
        exact hK _ _ ⟨.bool false,rfl,rfl,Ext.refl _⟩
       refine StepsL.cons (ps:= [(3,some 21),(15,some 33)]) rfl (by kernel_rfl) (fun wi hx=> ?_) StepsL.nil
       ·intro v3 h3 v15 h15 K hK
        obtain rfl:=h3
        obtain rfl:=h15
        go_simp
        exact hK _ _ ⟨.bool false,rfl,rfl,Ext.refl _⟩
      case fin=>
       intro wi hx v0 h0 v1 h1 v2 h2 v3 h3 v4 h4 v5 h5 v6 h6 v7 h7 v8 h8 v9 h9 v10 h10 v11 h11 v12 h12 v13 h13 v14 h14 v15 h15 v16 h16
       obtain rfl:=h0
       obtain rfl:=h1
       obtain rfl:=h2
       obtain rfl:=h3
       obtain rfl:=h4
       obtain rfl:=h5
       obtain rfl:=h6
       obtain rfl:=h7
       obtain rfl:=h8
       obtain rfl:=h9
       obtain rfl:=h10
       obtain rfl:=h11
       obtain rfl:=h12
       obtain rfl:=h13
       obtain rfl:=h14
       obtain rfl:=h15
       obtain rfl:=h16
       refine wpAny_done (by kernel_rfl) ?_ _
       try simp only[Act.put,List.setIfInBounds_toArray,List.set_cons_zero,List.set_cons_succ]
       have hx':=hx.of_drew
       have hR2:=Lib.hid (hR.ext hx')
       have HO2:=Lib.hid (own_ext HJ.out hx')
       go_wp2
       go_roundw
       case rel=>exact⟨i+1,_,by omega,by omega,by go_num,by have:=hex.out.1.length_eq;simpa using this,hex.out.1,hex.out.2,by have:=HO2.out;simpa[List.append_assoc]using this,hR2.out⟩
       case measure=>simp[intOf];omega
  ·obtain rfl:i=n:=by omega
   go_wp2
   go_end0
   exact⟨rfl,⟨A,HAp.out,HAs.out,by simpa using HA.out⟩,HR0.out⟩
end Go.Proofs.YtndcnflchkfaeaaDoor

