/-
  Texts of this proof, packed (@packed).
-/
import Derived.Test.YtndcnflchkfaeaaDoorK10
import Derived.Test.YtndcnflchkfaeaaDoorK15
namespace Go.Proofs.YtndcnflchkfaeaaDoor
open Go.RowKit
set_option linter.unusedVariables false
set_option linter.unusedSimpArgs false
set_option maxRecDepth 100000 in
set_option maxHeartbeats 8000000 in
theorem implDv (P:Int)(q:Option Addr)(m c2:Nat)(q2:Option Addr)(m2 d2:Nat)(T R:List Visit4)(w:World)(hS:Sl w q m c2 4 (T.flatMap visitCells))(hS2:Sl w q2 m2 d2 4 (R.flatMap visitCells)):
  Calls Tryd.prog 10 #[.agg #[.int .i64 P,.slice q m c2,.slice q2 m2 d2]] w fun e w'=>e= .returned (.bool (deskValid ⟨P,T,R⟩))∧Ext w w':=by
 have hn:=hS.bd
 have hn2:=hS2.bd
 have hl:Hid (T.length=m):=by
  have:=hS.len;rw[flat_len visitCells 4 (fun _=>rfl)]at this;exact(by omega:T.length=m)
 have hl2:Hid (R.length=m2):=by
  have:=hS2.len;rw[flat_len visitCells 4 (fun _=>rfl)]at this;exact(by omega:R.length=m2)
 have HS:=Lib.hid hS
 have HS2:=Lib.hid hS2
 clear hS hS2
 by_cases hp1:1≤P
 ·by_cases hp7:P≤7
  ·have HB0:=Lib.hid (fun w' (hx:Ext w w')=>implBsv q m c2 T w' (HS.out.ext hx))
   have HM0:=Lib.hid (fun w' (hx:Ext w w')=>implBm q m c2 T w' (HS.out.ext hx))
   have t1:decide (P<1)=false:=by simp;omega
   have t2:decide (7<P)=false:=by simp;omega
   cases hbk:booksOk T with
   |false=>
    have HB:Hid (∀w',Ext w w'→Calls Tryd.prog 40 #[.slice q m c2] w' fun e w''=>e= .returned (.bool false)∧Ext w' w''):=fun w' hx=>by rw[←hbk];exact HB0.out w' hx
    have hfin:Hid (deskValid ⟨P,T,R⟩=false):=by
     show _=_
     cases hq:deskValid ⟨P,T,R⟩with
     |false=>rfl
     |true=>
      exfalso
      obtain⟨z1,z2,z3,z4,z5,z6⟩:=desk_parts hq
      dsimp only at z1 z2 z3 z4 z5 z6
      rw[hbk]at z2;simp at z2
    clear hbk HB0 HM0
    go_enter Tryd.func10,Tryd.ntmps10
    go_wp2
    refine region_lin (gl [gEq (.pointer (some ⟨w.heap.size,0,none⟩)),gEq (.int .i64 P),gEq (.bool false),gEq (.bool false),gEq (.pointer (some ⟨w.heap.size,0,none⟩)),gEq (.int .i64 P),gEq (.bool false),gEq (.bool false),gEq (.bool false),gEq (.pointer (some ⟨w.heap.size,1,none⟩)),gEq (.slice q m c2),gEq (.bool false),gEq (.bool true),gEq (.bool true),gEq (.bool true),gEq (undef),gEq (undef),gEq (undef),gEq (undef),gEq (undef),gEq (undef),gEq (.bool true),gEq (.bool true),gEq (undef),gEq (undef),gEq (undef),gEq (undef),gEq (.bool true)]) 28 (by kernel_rfl) rfl (by kernel_rfl) (by kernel_rfl) (by kernel_rfl) (gl_mono (gl_cons (gEq_mono _) (gl_cons (gEq_mono _) (gl_cons (gEq_mono _) (gl_cons (gEq_mono _) (gl_cons (gEq_mono _) (gl_cons (gEq_mono _) (gl_cons (gEq_mono _) (gl_cons (gEq_mono _) (gl_cons (gEq_mono _) (gl_cons (gEq_mono _) (gl_cons (gEq_mono _) (gl_cons (gEq_mono _) (gl_cons (gEq_mono _) (gl_cons (gEq_mono _) (gl_cons (gEq_mono _) (gl_cons (gEq_mono _) (gl_cons (gEq_mono _) (gl_cons (gEq_mono _) (gl_cons (gEq_mono _) (gl_cons (gEq_mono _) (gl_cons (gEq_mono _) (gl_cons (gEq_mono _) (gl_cons (gEq_mono _) (gl_cons (gEq_mono _) (gl_cons (gEq_mono _) (gl_cons (gEq_mono _) (gl_cons (gEq_mono _) (gl_cons (gEq_mono _) (gl_nil)))))))))))))))))))))))))))))) (k:=28) (by kernel_rfl) (by decide) (ls:= [(0,some 6),(1,some 7),(2,some 8),(3,some 9),(4,some 10),(5,some 11),(6,some 12),(7,some 13),(8,some 14),(9,some 15),(10,some 16),(11,some 17),(12,some 18),(13,some 19),(14,some 20),(15,some 21),(16,some 22),(17,some 23),(18,some 24),(19,some 25),(20,some 26),(21,some 27),(22,some 28),(23,some 29),(24,some 30),(25,some 31),(26,some 32),(27,some 33)]) (by kernel_rfl) (ir:= [0,1,2,3,4,5,6,7,8,9,10,11,12,13,14,15,16,17,18,19,20,21,22,23,24,25,26,27]) (by kernel_rfl) ?steps (tl:=#[true,true,true,true,true,true,true,true,true,true,true,true,true,true,true,true,true,true,true,true,true,true,true,true,true,true,true,true]) (by kernel_rfl) ?fin
    case steps=>
     refine StepsL.cons (ps:= []) rfl (by kernel_rfl) (fun wi hx=> ?_) ?_
     ·intro K hK
      go_simp
      exact hK _ _ ⟨.pointer (some ⟨w.heap.size,0,none⟩),rfl,rfl,Ext.refl _⟩
     refine StepsL.cons (ps:= [(0,some 6)]) rfl (by kernel_rfl) (fun wi hx=> ?_) ?_
     ·intro v0 h0 K hK
      obtain rfl:=h0
      have hX:Ext (w.alloc (.cells #[.int .i64 P,.slice q m c2,.slice q2 m2 d2] 25)) wi:=by(repeat' (first|exact Ext.refl _|(with_reducible assumption)|(with_reducible refine Ext.alloc ?_ _)|(with_reducible refine Ext.setCell ?_ (by first|exact Nat.le_refl _|(dsimp only;omega)|(simp;done)|(simp;omega)) _)|(with_reducible refine Ext.drew ?_)|(with_reducible refine Ext.drewN ?_ _)|(refine Ext.trans ?_ (by with_reducible assumption))))
      have cl0:wi.cell? ⟨w.heap.size,0,none⟩=some (.int .i64 P):=((Blk.new w 25 #[.int .i64 P,.slice q m c2,.slice q2 m2 d2]).ext hX).cell 0
      go_simp
      exact hK _ _ ⟨.int .i64 P,rfl,rfl,Ext.refl _⟩
     refine StepsL.cons (ps:= [(1,some 7)]) rfl (by kernel_rfl) (fun wi hx=> ?_) ?_
     ·intro v1 h1 K hK
      obtain rfl:=h1
      go_simp
      exact hK _ _ ⟨.bool false,rfl,rfl,Ext.refl _⟩
     refine StepsL.cons (ps:= [(2,some 8)]) rfl (by kernel_rfl) (fun wi hx=> ?_) ?_
     ·intro v2 h2 K hK
      obtain rfl:=h2
      go_simp
      exact hK _ _ ⟨.bool false,rfl,rfl,Ext.refl _⟩
     refine StepsL.cons (ps:= [(3,some 9)]) rfl (by kernel_rfl) (fun wi hx=> ?_) ?_
     ·intro v3 h3 K hK
      obtain rfl:=h3
      go_simp
      exact hK _ _ ⟨.pointer (some ⟨w.heap.size,0,none⟩),rfl,rfl,Ext.refl _⟩
     refine StepsL.cons (ps:= [(3,some 9),(4,some 10)]) rfl (by kernel_rfl) (fun wi hx=> ?_) ?_
     ·intro v3 h3 v4 h4 K hK
      obtain rfl:=h3
      obtain rfl:=h4
      have hX:Ext (w.alloc (.cells #[.int .i64 P,.slice q m c2,.slice q2 m2 d2] 25)) wi:=by(repeat' (first|exact Ext.refl _|(with_reducible assumption)|(with_reducible refine Ext.alloc ?_ _)|(with_reducible refine Ext.setCell ?_ (by first|exact Nat.le_refl _|(dsimp only;omega)|(simp;done)|(simp;omega)) _)|(with_reducible refine Ext.drew ?_)|(with_reducible refine Ext.drewN ?_ _)|(refine Ext.trans ?_ (by with_reducible assumption))))
      have cl0:wi.cell? ⟨w.heap.size,0,none⟩=some (.int .i64 P):=((Blk.new w 25 #[.int .i64 P,.slice q m c2,.slice q2 m2 d2]).ext hX).cell 0
      go_simp
      exact hK _ _ ⟨.int .i64 P,rfl,rfl,Ext.refl _⟩
     refine StepsL.cons (ps:= [(3,some 9),(5,some 11)]) rfl (by kernel_rfl) (fun wi hx=> ?_) ?_
     ·intro v3 h3 v5 h5 K hK
      obtain rfl:=h3
      obtain rfl:=h5
      go_simp
      exact hK _ _ ⟨.bool false,rfl,rfl,Ext.refl _⟩
     refine StepsL.cons (ps:= [(3,some 9),(6,some 12)]) rfl (by kernel_rfl) (fun wi hx=> ?_) ?_
     ·intro v3 h3 v6 h6 K hK
      obtain rfl:=h3
      obtain rfl:=h6
      go_simp
      exact hK _ _ ⟨.bool false,rfl,rfl,Ext.refl _⟩
     refine StepsL.cons (ps:= [(7,some 13)]) rfl (by kernel_rfl) (fun wi hx=> ?_) ?_
     ·intro v7 h7 K hK
      obtain rfl:=h7
      go_simp
      exact hK _ _ ⟨.bool false,rfl,rfl,Ext.refl _⟩
     refine StepsL.cons (ps:= [(8,some 14)]) rfl (by kernel_rfl) (fun wi hx=> ?_) ?_
     ·intro v8 h8 K hK
      obtain rfl:=h8
      go_simp
      exact hK _ _ ⟨.pointer (some ⟨w.heap.size,1,none⟩),rfl,rfl,Ext.refl _⟩
     refine StepsL.cons (ps:= [(8,some 14),(9,some 15)]) rfl (by kernel_rfl) (fun wi hx=> ?_) ?_
     ·intro v8 h8 v9 h9 K hK
      obtain rfl:=h8
      obtain rfl:=h9
      have hX:Ext (w.alloc (.cells #[.int .i64 P,.slice q m c2,.slice q2 m2 d2] 25)) wi:=by(repeat' (first|exact Ext.refl _|(with_reducible assumption)|(with_reducible refine Ext.alloc ?_ _)|(with_reducible refine Ext.setCell ?_ (by first|exact Nat.le_refl _|(dsimp only;omega)|(simp;done)|(simp;omega)) _)|(with_reducible refine Ext.drew ?_)|(with_reducible refine Ext.drewN ?_ _)|(refine Ext.trans ?_ (by with_reducible assumption))))
      have cl0:wi.cell? ⟨w.heap.size,1,none⟩=some (.slice q m c2):=((Blk.new w 25 #[.int .i64 P,.slice q m c2,.slice q2 m2 d2]).ext hX).cell 1
      go_simp
      exact hK _ _ ⟨.slice q m c2,rfl,rfl,Ext.refl _⟩
     refine StepsL.cons (ps:= [(8,some 14),(10,some 16)]) rfl (by kernel_rfl) (fun wi hx=> ?_) ?_
     ·intro v8 h8 v10 h10 K hK
      obtain rfl:=h8
      obtain rfl:=h10
      go_simp
      refine(HB.out _ (Ext.trans (by(repeat' (first|exact Ext.refl _|(with_reducible assumption)|(with_reducible refine Ext.alloc ?_ _)|(with_reducible refine Ext.setCell ?_ (by first|exact Nat.le_refl _|(dsimp only;omega)|(simp;done)|(simp;omega)) _)|(with_reducible refine Ext.drew ?_)|(with_reducible refine Ext.drewN ?_ _)|(refine Ext.trans ?_ (by with_reducible assumption))))) hx.of_drew)).mono ?_
      rintro e w5 ⟨rfl,hx5⟩
      go_simp
      exact hK _ _ ⟨.bool false,rfl,rfl,hx5⟩
     refine StepsL.cons (ps:= [(8,some 14),(11,some 17)]) rfl (by kernel_rfl) (fun wi hx=> ?_) ?_
     ·intro v8 h8 v11 h11 K hK
      obtain rfl:=h8
      obtain rfl:=h11
      go_simp
      exact hK _ _ ⟨.bool true,rfl,rfl,Ext.refl _⟩
     refine StepsL.cons (ps:= [(8,some 14),(12,some 18)]) rfl (by kernel_rfl) (fun wi hx=> ?_) ?_
     ·intro v8 h8 v12 h12 K hK
      obtain rfl:=h8
      obtain rfl:=h12
      go_simp
      exact hK _ _ ⟨.bool true,rfl,rfl,Ext.refl _⟩
     refine StepsL.cons (ps:= [(13,some 19)]) rfl (by kernel_rfl) (fun wi hx=> ?_) ?_
     ·intro v13 h13 K hK
      obtain rfl:=h13
      go_simp
      exact hK _ _ ⟨.bool true,rfl,rfl,Ext.refl _⟩
     refine StepsL.cons (ps:= [(14,some 20)]) rfl (by kernel_rfl) (fun wi hx=> ?_) ?_
     ·intro v14 h14 K hK
      obtain rfl:=h14
      go_simp
      exact hK _ _ ⟨undef,rfl,rfl,Ext.refl _⟩
     refine StepsL.cons (ps:= [(14,some 20),(15,some 21)]) rfl (by kernel_rfl) (fun wi hx=> ?_) ?_
     ·intro v14 h14 v15 h15 K hK
      obtain rfl:=h14
      obtain rfl:=h15
      go_simp
      exact hK _ _ ⟨undef,rfl,rfl,Ext.refl _⟩
     refine StepsL.cons (ps:= [(14,some 20),(16,some 22)]) rfl (by kernel_rfl) (fun wi hx=> ?_) ?_
     ·intro v14 h14 v16 h16 K hK
      obtain rfl:=h14
      obtain rfl:=h16
      go_simp
      exact hK _ _ ⟨undef,rfl,rfl,Ext.refl _⟩
     refine StepsL.cons (ps:= [(14,some 20)]) rfl (by kernel_rfl) (fun wi hx=> ?_) ?_
     ·intro v14 h14 K hK
      obtain rfl:=h14
      go_simp
      exact hK _ _ ⟨undef,rfl,rfl,Ext.refl _⟩
     refine StepsL.cons (ps:= [(14,some 20),(18,some 24)]) rfl (by kernel_rfl) (fun wi hx=> ?_) ?_
     ·intro v14 h14 v18 h18 K hK
      obtain rfl:=h14
      obtain rfl:=h18
      go_simp
      exact hK _ _ ⟨undef,rfl,rfl,Ext.refl _⟩
     refine StepsL.cons (ps:= [(14,some 20),(17,some 23),(19,some 25)]) rfl (by kernel_rfl) (fun wi hx=> ?_) ?_
     ·intro v14 h14 v17 h17 v19 h19 K hK
      obtain rfl:=h14
      obtain rfl:=h17
      obtain rfl:=h19
      go_simp
      exact hK _ _ ⟨undef,rfl,rfl,Ext.refl _⟩
     refine StepsL.cons (ps:= [(14,some 20),(20,some 26)]) rfl (by kernel_rfl) (fun wi hx=> ?_) ?_
     ·intro v14 h14 v20 h20 K hK
      obtain rfl:=h14
      obtain rfl:=h20
      go_simp
      exact hK _ _ ⟨.bool true,rfl,rfl,Ext.refl _⟩
     refine StepsL.cons (ps:= [(21,some 27)]) rfl (by kernel_rfl) (fun wi hx=> ?_) ?_
     ·intro v21 h21 K hK
      obtain rfl:=h21
      go_simp
      exact hK _ _ ⟨.bool true,rfl,rfl,Ext.refl _⟩
     refine StepsL.cons (ps:= [(22,some 28)]) rfl (by kernel_rfl) (fun wi hx=> ?_) ?_
     ·intro v22 h22 K hK
      obtain rfl:=h22
      go_simp
      exact hK _ _ ⟨undef,rfl,rfl,Ext.refl _⟩
     refine StepsL.cons (ps:= [(22,some 28),(23,some 29)]) rfl (by kernel_rfl) (fun wi hx=> ?_) ?_
     ·intro v22 h22 v23 h23 K hK
      obtain rfl:=h22
      obtain rfl:=h23
      go_simp
      exact hK _ _ ⟨undef,rfl,rfl,Ext.refl _⟩
     refine StepsL.cons (ps:= [(22,some 28),(24,some 30)]) rfl (by kernel_rfl) (fun wi hx=> ?_) ?_
     ·intro v22 h22 v24 h24 K hK
      obtain rfl:=h22
      obtain rfl:=h24
      go_simp
      exact hK _ _ ⟨undef,rfl,rfl,Ext.refl _⟩
     refine StepsL.cons (ps:= [(22,some 28),(25,some 31)]) rfl (by kernel_rfl) (fun wi hx=> ?_) ?_
     ·intro v22 h22 v25 h25 K hK
      obtain rfl:=h22
      obtain rfl:=h25
      go_simp
      exact hK _ _ ⟨undef,rfl,rfl,Ext.refl _⟩
     refine StepsL.cons (ps:= [(22,some 28),(26,some 32)]) rfl (by kernel_rfl) (fun wi hx=> ?_) StepsL.nil
     ·intro v22 h22 v26 h26 K hK
      obtain rfl:=h22
      obtain rfl:=h26
      go_simp
      exact hK _ _ ⟨.bool true,rfl,rfl,Ext.refl _⟩
    case fin=>
     intro wi hx v0 h0 v1 h1 v2 h2 v3 h3 v4 h4 v5 h5 v6 h6 v7 h7 v8 h8 v9 h9 v10 h10 v11 h11 v12 h12 v13 h13 v14 h14 v15 h15 v16 h16 v17 h17 v18 h18 v19 h19 v20 h20 v21 h21 v22 h22 v23 h23 v24 h24 v25 h25 v26 h26 v27 h27
     obtain rfl:=h0
     obtain rfl:=h1
     obtain rfl:=h2
     obtain rfl:=h3
     obtain rfl:=h4
     obtain rfl:=h5
     obtain rfl:=h6
     obtain rfl:=h7
     obtain rfl:=h8
     obtain rfl:=h9
     obtain rfl:=h10
     obtain rfl:=h11
     obtain rfl:=h12
     obtain rfl:=h13
     obtain rfl:=h14
     obtain rfl:=h15
     obtain rfl:=h16
     obtain rfl:=h17
     obtain rfl:=h18
     obtain rfl:=h19
     obtain rfl:=h20
     obtain rfl:=h21
     obtain rfl:=h22
     obtain rfl:=h23
     obtain rfl:=h24
     obtain rfl:=h25
     obtain rfl:=h26
     obtain rfl:=h27
     refine wpAny_done (by kernel_rfl) ?_ _
     try simp only[Act.put,List.setIfInBounds_toArray,List.set_cons_zero,List.set_cons_succ]
     have hx':=hx.of_drew
     go_wp2
     go_ret
     exact⟨by rw[hfin.out];rfl,Ext.trans (by(repeat' (first|exact Ext.refl _|(with_reducible assumption)|(with_reducible refine Ext.alloc ?_ _)|(with_reducible refine Ext.setCell ?_ (by first|exact Nat.le_refl _|(dsimp only;omega)|(simp;done)|(simp;omega)) _)|(with_reducible refine Ext.drew ?_)|(with_reducible refine Ext.drewN ?_ _)|(refine Ext.trans ?_ (by with_reducible assumption))))) hx'⟩
   |true=>
    have HB:Hid (∀w',Ext w w'→Calls Tryd.prog 40 #[.slice q m c2] w' fun e w''=>e= .returned (.bool true)∧Ext w' w''):=fun w' hx=>by rw[←hbk];exact HB0.out w' hx
    obtain⟨Mx,hMx⟩: ∃M,booksMost T=M:=⟨_,rfl⟩
    have HM:Hid (∀w',Ext w w'→Calls Tryd.prog 13 #[.slice q m c2] w' fun e w''=>e= .returned (.int .i64 Mx)∧Ext w' w''):=fun w' hx=>by rw[←hMx];exact HM0.out w' hx
    have HMX:=Lib.hid hMx
    have HBK:=Lib.hid hbk
    clear hMx hbk HB0 HM0
    by_cases hmx:P<Mx
    ·have hfin:Hid (deskValid ⟨P,T,R⟩=false):=by
      show _=_
      cases hq:deskValid ⟨P,T,R⟩with
      |false=>rfl
      |true=>
       exfalso
       obtain⟨z1,z2,z3,z4,z5,z6⟩:=desk_parts hq
       dsimp only at z1 z2 z3 z4 z5 z6
       rw[HMX.out]at z3;omega
     have t3:decide (P<Mx)=true:=by simp[hmx]
     go_enter Tryd.func10,Tryd.ntmps10
     go_wp2
     refine region_lin (gl [gEq (.pointer (some ⟨w.heap.size,0,none⟩)),gEq (.int .i64 P),gEq (.bool false),gEq (.bool false),gEq (.pointer (some ⟨w.heap.size,0,none⟩)),gEq (.int .i64 P),gEq (.bool false),gEq (.bool false),gEq (.bool false),gEq (.pointer (some ⟨w.heap.size,1,none⟩)),gEq (.slice q m c2),gEq (.bool true),gEq (.bool false),gEq (.bool false),gEq (.bool false),gEq (.pointer (some ⟨w.heap.size,1,none⟩)),gEq (.slice q m c2),gEq (.int .i64 Mx),gEq (.pointer (some ⟨w.heap.size,0,none⟩)),gEq (.int .i64 P),gEq (.bool true),gEq (.bool true),gEq (.bool true),gEq (undef),gEq (undef),gEq (undef),gEq (undef),gEq (.bool true)]) 28 (by kernel_rfl) rfl (by kernel_rfl) (by kernel_rfl) (by kernel_rfl) (gl_mono (gl_cons (gEq_mono _) (gl_cons (gEq_mono _) (gl_cons (gEq_mono _) (gl_cons (gEq_mono _) (gl_cons (gEq_mono _) (gl_cons (gEq_mono _) (gl_cons (gEq_mono _) (gl_cons (gEq_mono _) (gl_cons (gEq_mono _) (gl_cons (gEq_mono _) (gl_cons (gEq_mono _) (gl_cons (gEq_mono _) (gl_cons (gEq_mono _) (gl_cons (gEq_mono _) (gl_cons (gEq_mono _) (gl_cons (gEq_mono _) (gl_cons (gEq_mono _) (gl_cons (gEq_mono _) (gl_cons (gEq_mono _) (gl_cons (gEq_mono _) (gl_cons (gEq_mono _) (gl_cons (gEq_mono _) (gl_cons (gEq_mono _) (gl_cons (gEq_mono _) (gl_cons (gEq_mono _) (gl_cons (gEq_mono _) (gl_cons (gEq_mono _) (gl_cons (gEq_mono _) (gl_nil)))))))))))))))))))))))))))))) (k:=28) (by kernel_rfl) (by decide) (ls:= [(0,some 6),(1,some 7),(2,some 8),(3,some 9),(4,some 10),(5,some 11),(6,some 12),(7,some 13),(8,some 14),(9,some 15),(10,some 16),(11,some 17),(12,some 18),(13,some 19),(14,some 20),(15,some 21),(16,some 22),(17,some 23),(18,some 24),(19,some 25),(20,some 26),(21,some 27),(22,some 28),(23,some 29),(24,some 30),(25,some 31),(26,some 32),(27,some 33)]) (by kernel_rfl) (ir:= [0,1,2,3,4,5,6,7,8,9,10,11,12,13,14,15,16,17,18,19,20,21,22,23,24,25,26,27]) (by kernel_rfl) ?steps (tl:=#[true,true,true,true,true,true,true,true,true,true,true,true,true,true,true,true,true,true,true,true,true,true,true,true,true,true,true,true]) (by kernel_rfl) ?fin
     case steps=>
      refine StepsL.cons (ps:= []) rfl (by kernel_rfl) (fun wi hx=> ?_) ?_
      ·intro K hK
       go_simp
       exact hK _ _ ⟨.pointer (some ⟨w.heap.size,0,none⟩),rfl,rfl,Ext.refl _⟩
      refine StepsL.cons (ps:= [(0,some 6)]) rfl (by kernel_rfl) (fun wi hx=> ?_) ?_
      ·intro v0 h0 K hK
       obtain rfl:=h0
       have hX:Ext (w.alloc (.cells #[.int .i64 P,.slice q m c2,.slice q2 m2 d2] 25)) wi:=by(repeat' (first|exact Ext.refl _|(with_reducible assumption)|(with_reducible refine Ext.alloc ?_ _)|(with_reducible refine Ext.setCell ?_ (by first|exact Nat.le_refl _|(dsimp only;omega)|(simp;done)|(simp;omega)) _)|(with_reducible refine Ext.drew ?_)|(with_reducible refine Ext.drewN ?_ _)|(refine Ext.trans ?_ (by with_reducible assumption))))
       have cl0:wi.cell? ⟨w.heap.size,0,none⟩=some (.int .i64 P):=((Blk.new w 25 #[.int .i64 P,.slice q m c2,.slice q2 m2 d2]).ext hX).cell 0
       go_simp
       exact hK _ _ ⟨.int .i64 P,rfl,rfl,Ext.refl _⟩
      refine StepsL.cons (ps:= [(1,some 7)]) rfl (by kernel_rfl) (fun wi hx=> ?_) ?_
      ·intro v1 h1 K hK
       obtain rfl:=h1
       go_simp
       exact hK _ _ ⟨.bool false,rfl,rfl,Ext.refl _⟩
      refine StepsL.cons (ps:= [(2,some 8)]) rfl (by kernel_rfl) (fun wi hx=> ?_) ?_
      ·intro v2 h2 K hK
       obtain rfl:=h2
       go_simp
       exact hK _ _ ⟨.bool false,rfl,rfl,Ext.refl _⟩
      refine StepsL.cons (ps:= [(3,some 9)]) rfl (by kernel_rfl) (fun wi hx=> ?_) ?_
      ·intro v3 h3 K hK
       obtain rfl:=h3
       go_simp
       exact hK _ _ ⟨.pointer (some ⟨w.heap.size,0,none⟩),rfl,rfl,Ext.refl _⟩
      refine StepsL.cons (ps:= [(3,some 9),(4,some 10)]) rfl (by kernel_rfl) (fun wi hx=> ?_) ?_
      ·intro v3 h3 v4 h4 K hK
       obtain rfl:=h3
       obtain rfl:=h4
       have hX:Ext (w.alloc (.cells #[.int .i64 P,.slice q m c2,.slice q2 m2 d2] 25)) wi:=by(repeat' (first|exact Ext.refl _|(with_reducible assumption)|(with_reducible refine Ext.alloc ?_ _)|(with_reducible refine Ext.setCell ?_ (by first|exact Nat.le_refl _|(dsimp only;omega)|(simp;done)|(simp;omega)) _)|(with_reducible refine Ext.drew ?_)|(with_reducible refine Ext.drewN ?_ _)|(refine Ext.trans ?_ (by with_reducible assumption))))
       have cl0:wi.cell? ⟨w.heap.size,0,none⟩=some (.int .i64 P):=((Blk.new w 25 #[.int .i64 P,.slice q m c2,.slice q2 m2 d2]).ext hX).cell 0
       go_simp
       exact hK _ _ ⟨.int .i64 P,rfl,rfl,Ext.refl _⟩
      refine StepsL.cons (ps:= [(3,some 9),(5,some 11)]) rfl (by kernel_rfl) (fun wi hx=> ?_) ?_
      ·intro v3 h3 v5 h5 K hK
       obtain rfl:=h3
       obtain rfl:=h5
       go_simp
       exact hK _ _ ⟨.bool false,rfl,rfl,Ext.refl _⟩
      refine StepsL.cons (ps:= [(3,some 9),(6,some 12)]) rfl (by kernel_rfl) (fun wi hx=> ?_) ?_
      ·intro v3 h3 v6 h6 K hK
       obtain rfl:=h3
       obtain rfl:=h6
       go_simp
       exact hK _ _ ⟨.bool false,rfl,rfl,Ext.refl _⟩
      refine StepsL.cons (ps:= [(7,some 13)]) rfl (by kernel_rfl) (fun wi hx=> ?_) ?_
      ·intro v7 h7 K hK
       obtain rfl:=h7
       go_simp
       exact hK _ _ ⟨.bool false,rfl,rfl,Ext.refl _⟩
      refine StepsL.cons (ps:= [(8,some 14)]) rfl (by kernel_rfl) (fun wi hx=> ?_) ?_
      ·intro v8 h8 K hK
       obtain rfl:=h8
       go_simp
       exact hK _ _ ⟨.pointer (some ⟨w.heap.size,1,none⟩),rfl,rfl,Ext.refl _⟩
      refine StepsL.cons (ps:= [(8,some 14),(9,some 15)]) rfl (by kernel_rfl) (fun wi hx=> ?_) ?_
      ·intro v8 h8 v9 h9 K hK
       obtain rfl:=h8
       obtain rfl:=h9
       have hX:Ext (w.alloc (.cells #[.int .i64 P,.slice q m c2,.slice q2 m2 d2] 25)) wi:=by(repeat' (first|exact Ext.refl _|(with_reducible assumption)|(with_reducible refine Ext.alloc ?_ _)|(with_reducible refine Ext.setCell ?_ (by first|exact Nat.le_refl _|(dsimp only;omega)|(simp;done)|(simp;omega)) _)|(with_reducible refine Ext.drew ?_)|(with_reducible refine Ext.drewN ?_ _)|(refine Ext.trans ?_ (by with_reducible assumption))))
       have cl0:wi.cell? ⟨w.heap.size,1,none⟩=some (.slice q m c2):=((Blk.new w 25 #[.int .i64 P,.slice q m c2,.slice q2 m2 d2]).ext hX).cell 1
       go_simp
       exact hK _ _ ⟨.slice q m c2,rfl,rfl,Ext.refl _⟩
      refine StepsL.cons (ps:= [(8,some 14),(10,some 16)]) rfl (by kernel_rfl) (fun wi hx=> ?_) ?_
      ·intro v8 h8 v10 h10 K hK
       obtain rfl:=h8
       obtain rfl:=h10
       go_simp
       refine(HB.out _ (Ext.trans (by(repeat' (first|exact Ext.refl _|(with_reducible assumption)|(with_reducible refine Ext.alloc ?_ _)|(with_reducible refine Ext.setCell ?_ (by first|exact Nat.le_refl _|(dsimp only;omega)|(simp;done)|(simp;omega)) _)|(with_reducible refine Ext.drew ?_)|(with_reducible refine Ext.drewN ?_ _)|(refine Ext.trans ?_ (by with_reducible assumption))))) hx.of_drew)).mono ?_
       rintro e w5 ⟨rfl,hx5⟩
       go_simp
       exact hK _ _ ⟨.bool true,rfl,rfl,hx5⟩
      refine StepsL.cons (ps:= [(8,some 14),(11,some 17)]) rfl (by kernel_rfl) (fun wi hx=> ?_) ?_
      ·intro v8 h8 v11 h11 K hK
       obtain rfl:=h8
       obtain rfl:=h11
       go_simp
       exact hK _ _ ⟨.bool false,rfl,rfl,Ext.refl _⟩
      refine StepsL.cons (ps:= [(8,some 14),(12,some 18)]) rfl (by kernel_rfl) (fun wi hx=> ?_) ?_
      ·intro v8 h8 v12 h12 K hK
       obtain rfl:=h8
       obtain rfl:=h12
       go_simp
       exact hK _ _ ⟨.bool false,rfl,rfl,Ext.refl _⟩
      refine StepsL.cons (ps:= [(13,some 19)]) rfl (by kernel_rfl) (fun wi hx=> ?_) ?_
      ·intro v13 h13 K hK
       obtain rfl:=h13
       go_simp
       exact hK _ _ ⟨.bool false,rfl,rfl,Ext.refl _⟩
      refine StepsL.cons (ps:= [(14,some 20)]) rfl (by kernel_rfl) (fun wi hx=> ?_) ?_
      ·intro v14 h14 K hK
       obtain rfl:=h14
       go_simp
       exact hK _ _ ⟨.pointer (some ⟨w.heap.size,1,none⟩),rfl,rfl,Ext.refl _⟩
      refine StepsL.cons (ps:= [(14,some 20),(15,some 21)]) rfl (by kernel_rfl) (fun wi hx=> ?_) ?_
      ·intro v14 h14 v15 h15 K hK
       obtain rfl:=h14
       obtain rfl:=h15
       have hX:Ext (w.alloc (.cells #[.int .i64 P,.slice q m c2,.slice q2 m2 d2] 25)) wi:=by(repeat' (first|exact Ext.refl _|(with_reducible assumption)|(with_reducible refine Ext.alloc ?_ _)|(with_reducible refine Ext.setCell ?_ (by first|exact Nat.le_refl _|(dsimp only;omega)|(simp;done)|(simp;omega)) _)|(with_reducible refine Ext.drew ?_)|(with_reducible refine Ext.drewN ?_ _)|(refine Ext.trans ?_ (by with_reducible assumption))))
       have cl0:wi.cell? ⟨w.heap.size,1,none⟩=some (.slice q m c2):=((Blk.new w 25 #[.int .i64 P,.slice q m c2,.slice q2 m2 d2]).ext hX).cell 1
       go_simp
       exact hK _ _ ⟨.slice q m c2,rfl,rfl,Ext.refl _⟩
      refine StepsL.cons (ps:= [(14,some 20),(16,some 22)]) rfl (by kernel_rfl) (fun wi hx=> ?_) ?_
      ·intro v14 h14 v16 h16 K hK
       obtain rfl:=h14
       obtain rfl:=h16
       go_simp
       refine(HM.out _ (Ext.trans (by(repeat' (first|exact Ext.refl _|(with_reducible assumption)|(with_reducible refine Ext.alloc ?_ _)|(with_reducible refine Ext.setCell ?_ (by first|exact Nat.le_refl _|(dsimp only;omega)|(simp;done)|(simp;omega)) _)|(with_reducible refine Ext.drew ?_)|(with_reducible refine Ext.drewN ?_ _)|(refine Ext.trans ?_ (by with_reducible assumption))))) hx.of_drew)).mono ?_
       rintro e w5 ⟨rfl,hx5⟩
       go_simp
       exact hK _ _ ⟨.int .i64 Mx,rfl,rfl,hx5⟩
      refine StepsL.cons (ps:= [(14,some 20)]) rfl (by kernel_rfl) (fun wi hx=> ?_) ?_
      ·intro v14 h14 K hK
       obtain rfl:=h14
       go_simp
       exact hK _ _ ⟨.pointer (some ⟨w.heap.size,0,none⟩),rfl,rfl,Ext.refl _⟩
      refine StepsL.cons (ps:= [(14,some 20),(18,some 24)]) rfl (by kernel_rfl) (fun wi hx=> ?_) ?_
      ·intro v14 h14 v18 h18 K hK
       obtain rfl:=h14
       obtain rfl:=h18
       have hX:Ext (w.alloc (.cells #[.int .i64 P,.slice q m c2,.slice q2 m2 d2] 25)) wi:=by(repeat' (first|exact Ext.refl _|(with_reducible assumption)|(with_reducible refine Ext.alloc ?_ _)|(with_reducible refine Ext.setCell ?_ (by first|exact Nat.le_refl _|(dsimp only;omega)|(simp;done)|(simp;omega)) _)|(with_reducible refine Ext.drew ?_)|(with_reducible refine Ext.drewN ?_ _)|(refine Ext.trans ?_ (by with_reducible assumption))))
       have cl0:wi.cell? ⟨w.heap.size,0,none⟩=some (.int .i64 P):=((Blk.new w 25 #[.int .i64 P,.slice q m c2,.slice q2 m2 d2]).ext hX).cell 0
       go_simp
       exact hK _ _ ⟨.int .i64 P,rfl,rfl,Ext.refl _⟩
      refine StepsL.cons (ps:= [(14,some 20),(17,some 23),(19,some 25)]) rfl (by kernel_rfl) (fun wi hx=> ?_) ?_
      ·intro v14 h14 v17 h17 v19 h19 K hK
       obtain rfl:=h14
       obtain rfl:=h17
       obtain rfl:=h19
       go_simp
       exact hK _ _ ⟨.bool true,rfl,rfl,Ext.refl _⟩
      refine StepsL.cons (ps:= [(14,some 20),(20,some 26)]) rfl (by kernel_rfl) (fun wi hx=> ?_) ?_
      ·intro v14 h14 v20 h20 K hK
       obtain rfl:=h14
       obtain rfl:=h20
       go_simp
       exact hK _ _ ⟨.bool true,rfl,rfl,Ext.refl _⟩
      refine StepsL.cons (ps:= [(21,some 27)]) rfl (by kernel_rfl) (fun wi hx=> ?_) ?_
      ·intro v21 h21 K hK
       obtain rfl:=h21
       go_simp
       exact hK _ _ ⟨.bool true,rfl,rfl,Ext.refl _⟩
      refine StepsL.cons (ps:= [(22,some 28)]) rfl (by kernel_rfl) (fun wi hx=> ?_) ?_
      ·intro v22 h22 K hK
       obtain rfl:=h22
       go_simp
       exact hK _ _ ⟨undef,rfl,rfl,Ext.refl _⟩
      refine StepsL.cons (ps:= [(22,some 28),(23,some 29)]) rfl (by kernel_rfl) (fun wi hx=> ?_) ?_
      ·intro v22 h22 v23 h23 K hK
       obtain rfl:=h22
       obtain rfl:=h23
       go_simp
       exact hK _ _ ⟨undef,rfl,rfl,Ext.refl _⟩
      refine StepsL.cons (ps:= [(22,some 28),(24,some 30)]) rfl (by kernel_rfl) (fun wi hx=> ?_) ?_
      ·intro v22 h22 v24 h24 K hK
       obtain rfl:=h22
       obtain rfl:=h24
       go_simp
       exact hK _ _ ⟨undef,rfl,rfl,Ext.refl _⟩
      refine StepsL.cons (ps:= [(22,some 28),(25,some 31)]) rfl (by kernel_rfl) (fun wi hx=> ?_) ?_
      ·intro v22 h22 v25 h25 K hK
       obtain rfl:=h22
       obtain rfl:=h25
       go_simp
       exact hK _ _ ⟨undef,rfl,rfl,Ext.refl _⟩
      refine StepsL.cons (ps:= [(22,some 28),(26,some 32)]) rfl (by kernel_rfl) (fun wi hx=> ?_) StepsL.nil
      ·intro v22 h22 v26 h26 K hK
       obtain rfl:=h22
       obtain rfl:=h26
       go_simp
       exact hK _ _ ⟨.bool true,rfl,rfl,Ext.refl _⟩
     case fin=>
      intro wi hx v0 h0 v1 h1 v2 h2 v3 h3 v4 h4 v5 h5 v6 h6 v7 h7 v8 h8 v9 h9 v10 h10 v11 h11 v12 h12 v13 h13 v14 h14 v15 h15 v16 h16 v17 h17 v18 h18 v19 h19 v20 h20 v21 h21 v22 h22 v23 h23 v24 h24 v25 h25 v26 h26 v27 h27
      obtain rfl:=h0
      obtain rfl:=h1
      obtain rfl:=h2
      obtain rfl:=h3
      obtain rfl:=h4
      obtain rfl:=h5
      obtain rfl:=h6
      obtain rfl:=h7
      obtain rfl:=h8
      obtain rfl:=h9
      obtain rfl:=h10
      obtain rfl:=h11
      obtain rfl:=h12
      obtain rfl:=h13
      obtain rfl:=h14
      obtain rfl:=h15
      obtain rfl:=h16
      obtain rfl:=h17
      obtain rfl:=h18
      obtain rfl:=h19
      obtain rfl:=h20
      obtain rfl:=h21
      obtain rfl:=h22
      obtain rfl:=h23
      obtain rfl:=h24
      obtain rfl:=h25
      obtain rfl:=h26
      obtain rfl:=h27
      refine wpAny_done (by kernel_rfl) ?_ _
      try simp only[Act.put,List.setIfInBounds_toArray,List.set_cons_zero,List.set_cons_succ]
      have hx':=hx.of_drew
      go_wp2
      go_ret
      exact⟨by rw[hfin.out];rfl,Ext.trans (by(repeat' (first|exact Ext.refl _|(with_reducible assumption)|(with_reducible refine Ext.alloc ?_ _)|(with_reducible refine Ext.setCell ?_ (by first|exact Nat.le_refl _|(dsimp only;omega)|(simp;done)|(simp;omega)) _)|(with_reducible refine Ext.drew ?_)|(with_reducible refine Ext.drewN ?_ _)|(refine Ext.trans ?_ (by with_reducible assumption))))) hx'⟩
    ·have t3:decide (P<Mx)=false:=by simp;omega
     by_cases h5:5<m2
     ·have hfin:Hid (deskValid ⟨P,T,R⟩=false):=by
       show _=_
       cases hq:deskValid ⟨P,T,R⟩with
       |false=>rfl
       |true=>
        exfalso
        obtain⟨z1,z2,z3,z4,z5,z6⟩:=desk_parts hq
        dsimp only at z1 z2 z3 z4 z5 z6
        rw[hl2.out]at z4;omega
      have t4:decide ((5:Int)<(m2:Int))=true:=by simp;omega
      go_enter Tryd.func10,Tryd.ntmps10
      go_wp2
      refine region_lin (gl [gEq (.pointer (some ⟨w.heap.size,0,none⟩)),gEq (.int .i64 P),gEq (.bool false),gEq (.bool false),gEq (.pointer (some ⟨w.heap.size,0,none⟩)),gEq (.int .i64 P),gEq (.bool false),gEq (.bool false),gEq (.bool false),gEq (.pointer (some ⟨w.heap.size,1,none⟩)),gEq (.slice q m c2),gEq (.bool true),gEq (.bool false),gEq (.bool false),gEq (.bool false),gEq (.pointer (some ⟨w.heap.size,1,none⟩)),gEq (.slice q m c2),gEq (.int .i64 Mx),gEq (.pointer (some ⟨w.heap.size,0,none⟩)),gEq (.int .i64 P),gEq (.bool false),gEq (.bool false),gEq (.bool false),gEq (.pointer (some ⟨w.heap.size,2,none⟩)),gEq (.slice q2 m2 d2),gEq (.int .i64 (m2:Int)),gEq (.bool true),gEq (.bool true)]) 28 (by kernel_rfl) rfl (by kernel_rfl) (by kernel_rfl) (by kernel_rfl) (gl_mono (gl_cons (gEq_mono _) (gl_cons (gEq_mono _) (gl_cons (gEq_mono _) (gl_cons (gEq_mono _) (gl_cons (gEq_mono _) (gl_cons (gEq_mono _) (gl_cons (gEq_mono _) (gl_cons (gEq_mono _) (gl_cons (gEq_mono _) (gl_cons (gEq_mono _) (gl_cons (gEq_mono _) (gl_cons (gEq_mono _) (gl_cons (gEq_mono _) (gl_cons (gEq_mono _) (gl_cons (gEq_mono _) (gl_cons (gEq_mono _) (gl_cons (gEq_mono _) (gl_cons (gEq_mono _) (gl_cons (gEq_mono _) (gl_cons (gEq_mono _) (gl_cons (gEq_mono _) (gl_cons (gEq_mono _) (gl_cons (gEq_mono _) (gl_cons (gEq_mono _) (gl_cons (gEq_mono _) (gl_cons (gEq_mono _) (gl_cons (gEq_mono _) (gl_cons (gEq_mono _) (gl_nil)))))))))))))))))))))))))))))) (k:=28) (by kernel_rfl) (by decide) (ls:= [(0,some 6),(1,some 7),(2,some 8),(3,some 9),(4,some 10),(5,some 11),(6,some 12),(7,some 13),(8,some 14),(9,some 15),(10,some 16),(11,some 17),(12,some 18),(13,some 19),(14,some 20),(15,some 21),(16,some 22),(17,some 23),(18,some 24),(19,some 25),(20,some 26),(21,some 27),(22,some 28),(23,some 29),(24,some 30),(25,some 31),(26,some 32),(27,some 33)]) (by kernel_rfl) (ir:= [0,1,2,3,4,5,6,7,8,9,10,11,12,13,14,15,16,17,18,19,20,21,22,23,24,25,26,27]) (by kernel_rfl) ?steps (tl:=#[true,true,true,true,true,true,true,true,true,true,true,true,true,true,true,true,true,true,true,true,true,true,true,true,true,true,true,true]) (by kernel_rfl) ?fin
      case steps=>
       refine StepsL.cons (ps:= []) rfl (by kernel_rfl) (fun wi hx=> ?_) ?_
       ·intro K hK
        go_simp
        exact hK _ _ ⟨.pointer (some ⟨w.heap.size,0,none⟩),rfl,rfl,Ext.refl _⟩
       refine StepsL.cons (ps:= [(0,some 6)]) rfl (by kernel_rfl) (fun wi hx=> ?_) ?_
       ·intro v0 h0 K hK
        obtain rfl:=h0
        have hX:Ext (w.alloc (.cells #[.int .i64 P,.slice q m c2,.slice q2 m2 d2] 25)) wi:=by(repeat' (first|exact Ext.refl _|(with_reducible assumption)|(with_reducible refine Ext.alloc ?_ _)|(with_reducible refine Ext.setCell ?_ (by first|exact Nat.le_refl _|(dsimp only;omega)|(simp;done)|(simp;omega)) _)|(with_reducible refine Ext.drew ?_)|(with_reducible refine Ext.drewN ?_ _)|(refine Ext.trans ?_ (by with_reducible assumption))))
        have cl0:wi.cell? ⟨w.heap.size,0,none⟩=some (.int .i64 P):=((Blk.new w 25 #[.int .i64 P,.slice q m c2,.slice q2 m2 d2]).ext hX).cell 0
        go_simp
        exact hK _ _ ⟨.int .i64 P,rfl,rfl,Ext.refl _⟩
       refine StepsL.cons (ps:= [(1,some 7)]) rfl (by kernel_rfl) (fun wi hx=> ?_) ?_
       ·intro v1 h1 K hK
        obtain rfl:=h1
        go_simp
        exact hK _ _ ⟨.bool false,rfl,rfl,Ext.refl _⟩
       refine StepsL.cons (ps:= [(2,some 8)]) rfl (by kernel_rfl) (fun wi hx=> ?_) ?_
       ·intro v2 h2 K hK
        obtain rfl:=h2
        go_simp
        exact hK _ _ ⟨.bool false,rfl,rfl,Ext.refl _⟩
       refine StepsL.cons (ps:= [(3,some 9)]) rfl (by kernel_rfl) (fun wi hx=> ?_) ?_
       ·intro v3 h3 K hK
        obtain rfl:=h3
        go_simp
        exact hK _ _ ⟨.pointer (some ⟨w.heap.size,0,none⟩),rfl,rfl,Ext.refl _⟩
       refine StepsL.cons (ps:= [(3,some 9),(4,some 10)]) rfl (by kernel_rfl) (fun wi hx=> ?_) ?_
       ·intro v3 h3 v4 h4 K hK
        obtain rfl:=h3
        obtain rfl:=h4
        have hX:Ext (w.alloc (.cells #[.int .i64 P,.slice q m c2,.slice q2 m2 d2] 25)) wi:=by(repeat' (first|exact Ext.refl _|(with_reducible assumption)|(with_reducible refine Ext.alloc ?_ _)|(with_reducible refine Ext.setCell ?_ (by first|exact Nat.le_refl _|(dsimp only;omega)|(simp;done)|(simp;omega)) _)|(with_reducible refine Ext.drew ?_)|(with_reducible refine Ext.drewN ?_ _)|(refine Ext.trans ?_ (by with_reducible assumption))))
        have cl0:wi.cell? ⟨w.heap.size,0,none⟩=some (.int .i64 P):=((Blk.new w 25 #[.int .i64 P,.slice q m c2,.slice q2 m2 d2]).ext hX).cell 0
        go_simp
        exact hK _ _ ⟨.int .i64 P,rfl,rfl,Ext.refl _⟩
       refine StepsL.cons (ps:= [(3,some 9),(5,some 11)]) rfl (by kernel_rfl) (fun wi hx=> ?_) ?_
       ·intro v3 h3 v5 h5 K hK
        obtain rfl:=h3
        obtain rfl:=h5
        go_simp
        exact hK _ _ ⟨.bool false,rfl,rfl,Ext.refl _⟩
       refine StepsL.cons (ps:= [(3,some 9),(6,some 12)]) rfl (by kernel_rfl) (fun wi hx=> ?_) ?_
       ·intro v3 h3 v6 h6 K hK
        obtain rfl:=h3
        obtain rfl:=h6
        go_simp
        exact hK _ _ ⟨.bool false,rfl,rfl,Ext.refl _⟩
       refine StepsL.cons (ps:= [(7,some 13)]) rfl (by kernel_rfl) (fun wi hx=> ?_) ?_
       ·intro v7 h7 K hK
        obtain rfl:=h7
        go_simp
        exact hK _ _ ⟨.bool false,rfl,rfl,Ext.refl _⟩
       refine StepsL.cons (ps:= [(8,some 14)]) rfl (by kernel_rfl) (fun wi hx=> ?_) ?_
       ·intro v8 h8 K hK
        obtain rfl:=h8
        go_simp
        exact hK _ _ ⟨.pointer (some ⟨w.heap.size,1,none⟩),rfl,rfl,Ext.refl _⟩
       refine StepsL.cons (ps:= [(8,some 14),(9,some 15)]) rfl (by kernel_rfl) (fun wi hx=> ?_) ?_
       ·intro v8 h8 v9 h9 K hK
        obtain rfl:=h8
        obtain rfl:=h9
        have hX:Ext (w.alloc (.cells #[.int .i64 P,.slice q m c2,.slice q2 m2 d2] 25)) wi:=by(repeat' (first|exact Ext.refl _|(with_reducible assumption)|(with_reducible refine Ext.alloc ?_ _)|(with_reducible refine Ext.setCell ?_ (by first|exact Nat.le_refl _|(dsimp only;omega)|(simp;done)|(simp;omega)) _)|(with_reducible refine Ext.drew ?_)|(with_reducible refine Ext.drewN ?_ _)|(refine Ext.trans ?_ (by with_reducible assumption))))
        have cl0:wi.cell? ⟨w.heap.size,1,none⟩=some (.slice q m c2):=((Blk.new w 25 #[.int .i64 P,.slice q m c2,.slice q2 m2 d2]).ext hX).cell 1
        go_simp
        exact hK _ _ ⟨.slice q m c2,rfl,rfl,Ext.refl _⟩
       refine StepsL.cons (ps:= [(8,some 14),(10,some 16)]) rfl (by kernel_rfl) (fun wi hx=> ?_) ?_
       ·intro v8 h8 v10 h10 K hK
        obtain rfl:=h8
        obtain rfl:=h10
        go_simp
        refine(HB.out _ (Ext.trans (by(repeat' (first|exact Ext.refl _|(with_reducible assumption)|(with_reducible refine Ext.alloc ?_ _)|(with_reducible refine Ext.setCell ?_ (by first|exact Nat.le_refl _|(dsimp only;omega)|(simp;done)|(simp;omega)) _)|(with_reducible refine Ext.drew ?_)|(with_reducible refine Ext.drewN ?_ _)|(refine Ext.trans ?_ (by with_reducible assumption))))) hx.of_drew)).mono ?_
        rintro e w5 ⟨rfl,hx5⟩
        go_simp
        exact hK _ _ ⟨.bool true,rfl,rfl,hx5⟩
       refine StepsL.cons (ps:= [(8,some 14),(11,some 17)]) rfl (by kernel_rfl) (fun wi hx=> ?_) ?_
       ·intro v8 h8 v11 h11 K hK
        obtain rfl:=h8
        obtain rfl:=h11
        go_simp
        exact hK _ _ ⟨.bool false,rfl,rfl,Ext.refl _⟩
       refine StepsL.cons (ps:= [(8,some 14),(12,some 18)]) rfl (by kernel_rfl) (fun wi hx=> ?_) ?_
       ·intro v8 h8 v12 h12 K hK
        obtain rfl:=h8
        obtain rfl:=h12
        go_simp
        exact hK _ _ ⟨.bool false,rfl,rfl,Ext.refl _⟩
       refine StepsL.cons (ps:= [(13,some 19)]) rfl (by kernel_rfl) (fun wi hx=> ?_) ?_
       ·intro v13 h13 K hK
        obtain rfl:=h13
        go_simp
        exact hK _ _ ⟨.bool false,rfl,rfl,Ext.refl _⟩
       refine StepsL.cons (ps:= [(14,some 20)]) rfl (by kernel_rfl) (fun wi hx=> ?_) ?_
       ·intro v14 h14 K hK
        obtain rfl:=h14
        go_simp
        exact hK _ _ ⟨.pointer (some ⟨w.heap.size,1,none⟩),rfl,rfl,Ext.refl _⟩
       refine StepsL.cons (ps:= [(14,some 20),(15,some 21)]) rfl (by kernel_rfl) (fun wi hx=> ?_) ?_
       ·intro v14 h14 v15 h15 K hK
        obtain rfl:=h14
        obtain rfl:=h15
        have hX:Ext (w.alloc (.cells #[.int .i64 P,.slice q m c2,.slice q2 m2 d2] 25)) wi:=by(repeat' (first|exact Ext.refl _|(with_reducible assumption)|(with_reducible refine Ext.alloc ?_ _)|(with_reducible refine Ext.setCell ?_ (by first|exact Nat.le_refl _|(dsimp only;omega)|(simp;done)|(simp;omega)) _)|(with_reducible refine Ext.drew ?_)|(with_reducible refine Ext.drewN ?_ _)|(refine Ext.trans ?_ (by with_reducible assumption))))
        have cl0:wi.cell? ⟨w.heap.size,1,none⟩=some (.slice q m c2):=((Blk.new w 25 #[.int .i64 P,.slice q m c2,.slice q2 m2 d2]).ext hX).cell 1
        go_simp
        exact hK _ _ ⟨.slice q m c2,rfl,rfl,Ext.refl _⟩
       refine StepsL.cons (ps:= [(14,some 20),(16,some 22)]) rfl (by kernel_rfl) (fun wi hx=> ?_) ?_
       ·intro v14 h14 v16 h16 K hK
        obtain rfl:=h14
        obtain rfl:=h16
        go_simp
        refine(HM.out _ (Ext.trans (by(repeat' (first|exact Ext.refl _|(with_reducible assumption)|(with_reducible refine Ext.alloc ?_ _)|(with_reducible refine Ext.setCell ?_ (by first|exact Nat.le_refl _|(dsimp only;omega)|(simp;done)|(simp;omega)) _)|(with_reducible refine Ext.drew ?_)|(with_reducible refine Ext.drewN ?_ _)|(refine Ext.trans ?_ (by with_reducible assumption))))) hx.of_drew)).mono ?_
        rintro e w5 ⟨rfl,hx5⟩
        go_simp
        exact hK _ _ ⟨.int .i64 Mx,rfl,rfl,hx5⟩
       refine StepsL.cons (ps:= [(14,some 20)]) rfl (by kernel_rfl) (fun wi hx=> ?_) ?_
       ·intro v14 h14 K hK
        obtain rfl:=h14
        go_simp
        exact hK _ _ ⟨.pointer (some ⟨w.heap.size,0,none⟩),rfl,rfl,Ext.refl _⟩
       refine StepsL.cons (ps:= [(14,some 20),(18,some 24)]) rfl (by kernel_rfl) (fun wi hx=> ?_) ?_
       ·intro v14 h14 v18 h18 K hK
        obtain rfl:=h14
        obtain rfl:=h18
        have hX:Ext (w.alloc (.cells #[.int .i64 P,.slice q m c2,.slice q2 m2 d2] 25)) wi:=by(repeat' (first|exact Ext.refl _|(with_reducible assumption)|(with_reducible refine Ext.alloc ?_ _)|(with_reducible refine Ext.setCell ?_ (by first|exact Nat.le_refl _|(dsimp only;omega)|(simp;done)|(simp;omega)) _)|(with_reducible refine Ext.drew ?_)|(with_reducible refine Ext.drewN ?_ _)|(refine Ext.trans ?_ (by with_reducible assumption))))
        have cl0:wi.cell? ⟨w.heap.size,0,none⟩=some (.int .i64 P):=((Blk.new w 25 #[.int .i64 P,.slice q m c2,.slice q2 m2 d2]).ext hX).cell 0
        go_simp
        exact hK _ _ ⟨.int .i64 P,rfl,rfl,Ext.refl _⟩
       refine StepsL.cons (ps:= [(14,some 20),(17,some 23),(19,some 25)]) rfl (by kernel_rfl) (fun wi hx=> ?_) ?_
       ·intro v14 h14 v17 h17 v19 h19 K hK
        obtain rfl:=h14
        obtain rfl:=h17
        obtain rfl:=h19
        go_simp
        exact hK _ _ ⟨.bool false,rfl,rfl,Ext.refl _⟩
       refine StepsL.cons (ps:= [(14,some 20),(20,some 26)]) rfl (by kernel_rfl) (fun wi hx=> ?_) ?_
       ·intro v14 h14 v20 h20 K hK
        obtain rfl:=h14
        obtain rfl:=h20
        go_simp
        exact hK _ _ ⟨.bool false,rfl,rfl,Ext.refl _⟩
       refine StepsL.cons (ps:= [(21,some 27)]) rfl (by kernel_rfl) (fun wi hx=> ?_) ?_
       ·intro v21 h21 K hK
        obtain rfl:=h21
        go_simp
        exact hK _ _ ⟨.bool false,rfl,rfl,Ext.refl _⟩
       refine StepsL.cons (ps:= [(22,some 28)]) rfl (by kernel_rfl) (fun wi hx=> ?_) ?_
       ·intro v22 h22 K hK
        obtain rfl:=h22
        go_simp
        exact hK _ _ ⟨.pointer (some ⟨w.heap.size,2,none⟩),rfl,rfl,Ext.refl _⟩
       refine StepsL.cons (ps:= [(22,some 28),(23,some 29)]) rfl (by kernel_rfl) (fun wi hx=> ?_) ?_
       ·intro v22 h22 v23 h23 K hK
        obtain rfl:=h22
        obtain rfl:=h23
        have hX:Ext (w.alloc (.cells #[.int .i64 P,.slice q m c2,.slice q2 m2 d2] 25)) wi:=by(repeat' (first|exact Ext.refl _|(with_reducible assumption)|(with_reducible refine Ext.alloc ?_ _)|(with_reducible refine Ext.setCell ?_ (by first|exact Nat.le_refl _|(dsimp only;omega)|(simp;done)|(simp;omega)) _)|(with_reducible refine Ext.drew ?_)|(with_reducible refine Ext.drewN ?_ _)|(refine Ext.trans ?_ (by with_reducible assumption))))
        have cl0:wi.cell? ⟨w.heap.size,2,none⟩=some (.slice q2 m2 d2):=((Blk.new w 25 #[.int .i64 P,.slice q m c2,.slice q2 m2 d2]).ext hX).cell 2
        go_simp
        exact hK _ _ ⟨.slice q2 m2 d2,rfl,rfl,Ext.refl _⟩
       refine StepsL.cons (ps:= [(22,some 28),(24,some 30)]) rfl (by kernel_rfl) (fun wi hx=> ?_) ?_
       ·intro v22 h22 v24 h24 K hK
        obtain rfl:=h22
        obtain rfl:=h24
        go_simp
        exact hK _ _ ⟨.int .i64 (m2:Int),rfl,rfl,Ext.refl _⟩
       refine StepsL.cons (ps:= [(22,some 28),(25,some 31)]) rfl (by kernel_rfl) (fun wi hx=> ?_) ?_
       ·intro v22 h22 v25 h25 K hK
        obtain rfl:=h22
        obtain rfl:=h25
        go_simp
        exact hK _ _ ⟨.bool true,rfl,rfl,Ext.refl _⟩
       refine StepsL.cons (ps:= [(22,some 28),(26,some 32)]) rfl (by kernel_rfl) (fun wi hx=> ?_) StepsL.nil
       ·intro v22 h22 v26 h26 K hK
        obtain rfl:=h22
        obtain rfl:=h26
        go_simp
        exact hK _ _ ⟨.bool true,rfl,rfl,Ext.refl _⟩
      case fin=>
       intro wi hx v0 h0 v1 h1 v2 h2 v3 h3 v4 h4 v5 h5 v6 h6 v7 h7 v8 h8 v9 h9 v10 h10 v11 h11 v12 h12 v13 h13 v14 h14 v15 h15 v16 h16 v17 h17 v18 h18 v19 h19 v20 h20 v21 h21 v22 h22 v23 h23 v24 h24 v25 h25 v26 h26 v27 h27
       obtain rfl:=h0
       obtain rfl:=h1
       obtain rfl:=h2
       obtain rfl:=h3
       obtain rfl:=h4
       obtain rfl:=h5
       obtain rfl:=h6
       obtain rfl:=h7
       obtain rfl:=h8
       obtain rfl:=h9
       obtain rfl:=h10
       obtain rfl:=h11
       obtain rfl:=h12
       obtain rfl:=h13
       obtain rfl:=h14
       obtain rfl:=h15
       obtain rfl:=h16
       obtain rfl:=h17
       obtain rfl:=h18
       obtain rfl:=h19
       obtain rfl:=h20
       obtain rfl:=h21
       obtain rfl:=h22
       obtain rfl:=h23
       obtain rfl:=h24
       obtain rfl:=h25
       obtain rfl:=h26
       obtain rfl:=h27
       refine wpAny_done (by kernel_rfl) ?_ _
       try simp only[Act.put,List.setIfInBounds_toArray,List.set_cons_zero,List.set_cons_succ]
       have hx':=hx.of_drew
       go_wp2
       go_ret
       exact⟨by rw[hfin.out];rfl,Ext.trans (by(repeat' (first|exact Ext.refl _|(with_reducible assumption)|(with_reducible refine Ext.alloc ?_ _)|(with_reducible refine Ext.setCell ?_ (by first|exact Nat.le_refl _|(dsimp only;omega)|(simp;done)|(simp;omega)) _)|(with_reducible refine Ext.drew ?_)|(with_reducible refine Ext.drewN ?_ _)|(refine Ext.trans ?_ (by with_reducible assumption))))) hx'⟩
     ·have t4:decide ((5:Int)<(m2:Int))=false:=by simp;omega
      go_enter Tryd.func10,Tryd.ntmps10
      go_wp2
      refine region_lin (gl [gEq (.pointer (some ⟨w.heap.size,0,none⟩)),gEq (.int .i64 P),gEq (.bool false),gEq (.bool false),gEq (.pointer (some ⟨w.heap.size,0,none⟩)),gEq (.int .i64 P),gEq (.bool false),gEq (.bool false),gEq (.bool false),gEq (.pointer (some ⟨w.heap.size,1,none⟩)),gEq (.slice q m c2),gEq (.bool true),gEq (.bool false),gEq (.bool false),gEq (.bool false),gEq (.pointer (some ⟨w.heap.size,1,none⟩)),gEq (.slice q m c2),gEq (.int .i64 Mx),gEq (.pointer (some ⟨w.heap.size,0,none⟩)),gEq (.int .i64 P),gEq (.bool false),gEq (.bool false),gEq (.bool false),gEq (.pointer (some ⟨w.heap.size,2,none⟩)),gEq (.slice q2 m2 d2),gEq (.int .i64 (m2:Int)),gEq (.bool false),gEq (.bool false)]) 28 (by kernel_rfl) rfl (by kernel_rfl) (by kernel_rfl) (by kernel_rfl) (gl_mono (gl_cons (gEq_mono _) (gl_cons (gEq_mono _) (gl_cons (gEq_mono _) (gl_cons (gEq_mono _) (gl_cons (gEq_mono _) (gl_cons (gEq_mono _) (gl_cons (gEq_mono _) (gl_cons (gEq_mono _) (gl_cons (gEq_mono _) (gl_cons (gEq_mono _) (gl_cons (gEq_mono _) (gl_cons (gEq_mono _) (gl_cons (gEq_mono _) (gl_cons (gEq_mono _) (gl_cons (gEq_mono _) (gl_cons (gEq_mono _) (gl_cons (gEq_mono _) (gl_cons (gEq_mono _) (gl_cons (gEq_mono _) (gl_cons (gEq_mono _) (gl_cons (gEq_mono _) (gl_cons (gEq_mono _) (gl_cons (gEq_mono _) (gl_cons (gEq_mono _) (gl_cons (gEq_mono _) (gl_cons (gEq_mono _) (gl_cons (gEq_mono _) (gl_cons (gEq_mono _) (gl_nil)))))))))))))))))))))))))))))) (k:=28) (by kernel_rfl) (by decide) (ls:= [(0,some 6),(1,some 7),(2,some 8),(3,some 9),(4,some 10),(5,some 11),(6,some 12),(7,some 13),(8,some 14),(9,some 15),(10,some 16),(11,some 17),(12,some 18),(13,some 19),(14,some 20),(15,some 21),(16,some 22),(17,some 23),(18,some 24),(19,some 25),(20,some 26),(21,some 27),(22,some 28),(23,some 29),(24,some 30),(25,some 31),(26,some 32),(27,some 33)]) (by kernel_rfl) (ir:= [0,1,2,3,4,5,6,7,8,9,10,11,12,13,14,15,16,17,18,19,20,21,22,23,24,25,26,27]) (by kernel_rfl) ?steps (tl:=#[true,true,true,true,true,true,true,true,true,true,true,true,true,true,true,true,true,true,true,true,true,true,true,true,true,true,true,true]) (by kernel_rfl) ?fin
      case steps=>
       refine StepsL.cons (ps:= []) rfl (by kernel_rfl) (fun wi hx=> ?_) ?_
       ·intro K hK
        go_simp
        exact hK _ _ ⟨.pointer (some ⟨w.heap.size,0,none⟩),rfl,rfl,Ext.refl _⟩
       refine StepsL.cons (ps:= [(0,some 6)]) rfl (by kernel_rfl) (fun wi hx=> ?_) ?_
       ·intro v0 h0 K hK
        obtain rfl:=h0
        have hX:Ext (w.alloc (.cells #[.int .i64 P,.slice q m c2,.slice q2 m2 d2] 25)) wi:=by(repeat' (first|exact Ext.refl _|(with_reducible assumption)|(with_reducible refine Ext.alloc ?_ _)|(with_reducible refine Ext.setCell ?_ (by first|exact Nat.le_refl _|(dsimp only;omega)|(simp;done)|(simp;omega)) _)|(with_reducible refine Ext.drew ?_)|(with_reducible refine Ext.drewN ?_ _)|(refine Ext.trans ?_ (by with_reducible assumption))))
        have cl0:wi.cell? ⟨w.heap.size,0,none⟩=some (.int .i64 P):=((Blk.new w 25 #[.int .i64 P,.slice q m c2,.slice q2 m2 d2]).ext hX).cell 0
        go_simp
        exact hK _ _ ⟨.int .i64 P,rfl,rfl,Ext.refl _⟩
       refine StepsL.cons (ps:= [(1,some 7)]) rfl (by kernel_rfl) (fun wi hx=> ?_) ?_
       ·intro v1 h1 K hK
        obtain rfl:=h1
        go_simp
        exact hK _ _ ⟨.bool false,rfl,rfl,Ext.refl _⟩
       refine StepsL.cons (ps:= [(2,some 8)]) rfl (by kernel_rfl) (fun wi hx=> ?_) ?_
       ·intro v2 h2 K hK
        obtain rfl:=h2
        go_simp
        exact hK _ _ ⟨.bool false,rfl,rfl,Ext.refl _⟩
       refine StepsL.cons (ps:= [(3,some 9)]) rfl (by kernel_rfl) (fun wi hx=> ?_) ?_
       ·intro v3 h3 K hK
        obtain rfl:=h3
        go_simp
        exact hK _ _ ⟨.pointer (some ⟨w.heap.size,0,none⟩),rfl,rfl,Ext.refl _⟩
       refine StepsL.cons (ps:= [(3,some 9),(4,some 10)]) rfl (by kernel_rfl) (fun wi hx=> ?_) ?_
       ·intro v3 h3 v4 h4 K hK
        obtain rfl:=h3
        obtain rfl:=h4
        have hX:Ext (w.alloc (.cells #[.int .i64 P,.slice q m c2,.slice q2 m2 d2] 25)) wi:=by(repeat' (first|exact Ext.refl _|(with_reducible assumption)|(with_reducible refine Ext.alloc ?_ _)|(with_reducible refine Ext.setCell ?_ (by first|exact Nat.le_refl _|(dsimp only;omega)|(simp;done)|(simp;omega)) _)|(with_reducible refine Ext.drew ?_)|(with_reducible refine Ext.drewN ?_ _)|(refine Ext.trans ?_ (by with_reducible assumption))))
        have cl0:wi.cell? ⟨w.heap.size,0,none⟩=some (.int .i64 P):=((Blk.new w 25 #[.int .i64 P,.slice q m c2,.slice q2 m2 d2]).ext hX).cell 0
        go_simp
        exact hK _ _ ⟨.int .i64 P,rfl,rfl,Ext.refl _⟩
       refine StepsL.cons (ps:= [(3,some 9),(5,some 11)]) rfl (by kernel_rfl) (fun wi hx=> ?_) ?_
       ·intro v3 h3 v5 h5 K hK
        obtain rfl:=h3
        obtain rfl:=h5
        go_simp
        exact hK _ _ ⟨.bool false,rfl,rfl,Ext.refl _⟩
       refine StepsL.cons (ps:= [(3,some 9),(6,some 12)]) rfl (by kernel_rfl) (fun wi hx=> ?_) ?_
       ·intro v3 h3 v6 h6 K hK
        obtain rfl:=h3
        obtain rfl:=h6
        go_simp
        exact hK _ _ ⟨.bool false,rfl,rfl,Ext.refl _⟩
       refine StepsL.cons (ps:= [(7,some 13)]) rfl (by kernel_rfl) (fun wi hx=> ?_) ?_
       ·intro v7 h7 K hK
        obtain rfl:=h7
        go_simp
        exact hK _ _ ⟨.bool false,rfl,rfl,Ext.refl _⟩
       refine StepsL.cons (ps:= [(8,some 14)]) rfl (by kernel_rfl) (fun wi hx=> ?_) ?_
       ·intro v8 h8 K hK
        obtain rfl:=h8
        go_simp
        exact hK _ _ ⟨.pointer (some ⟨w.heap.size,1,none⟩),rfl,rfl,Ext.refl _⟩
       refine StepsL.cons (ps:= [(8,some 14),(9,some 15)]) rfl (by kernel_rfl) (fun wi hx=> ?_) ?_
       ·intro v8 h8 v9 h9 K hK
        obtain rfl:=h8
        obtain rfl:=h9
        have hX:Ext (w.alloc (.cells #[.int .i64 P,.slice q m c2,.slice q2 m2 d2] 25)) wi:=by(repeat' (first|exact Ext.refl _|(with_reducible assumption)|(with_reducible refine Ext.alloc ?_ _)|(with_reducible refine Ext.setCell ?_ (by first|exact Nat.le_refl _|(dsimp only;omega)|(simp;done)|(simp;omega)) _)|(with_reducible refine Ext.drew ?_)|(with_reducible refine Ext.drewN ?_ _)|(refine Ext.trans ?_ (by with_reducible assumption))))
        have cl0:wi.cell? ⟨w.heap.size,1,none⟩=some (.slice q m c2):=((Blk.new w 25 #[.int .i64 P,.slice q m c2,.slice q2 m2 d2]).ext hX).cell 1
        go_simp
        exact hK _ _ ⟨.slice q m c2,rfl,rfl,Ext.refl _⟩
       refine StepsL.cons (ps:= [(8,some 14),(10,some 16)]) rfl (by kernel_rfl) (fun wi hx=> ?_) ?_
       ·intro v8 h8 v10 h10 K hK
        obtain rfl:=h8
        obtain rfl:=h10
        go_simp
        refine(HB.out _ (Ext.trans (by(repeat' (first|exact Ext.refl _|(with_reducible assumption)|(with_reducible refine Ext.alloc ?_ _)|(with_reducible refine Ext.setCell ?_ (by first|exact Nat.le_refl _|(dsimp only;omega)|(simp;done)|(simp;omega)) _)|(with_reducible refine Ext.drew ?_)|(with_reducible refine Ext.drewN ?_ _)|(refine Ext.trans ?_ (by with_reducible assumption))))) hx.of_drew)).mono ?_
        rintro e w5 ⟨rfl,hx5⟩
        go_simp
        exact hK _ _ ⟨.bool true,rfl,rfl,hx5⟩
       refine StepsL.cons (ps:= [(8,some 14),(11,some 17)]) rfl (by kernel_rfl) (fun wi hx=> ?_) ?_
       ·intro v8 h8 v11 h11 K hK
        obtain rfl:=h8
        obtain rfl:=h11
        go_simp
        exact hK _ _ ⟨.bool false,rfl,rfl,Ext.refl _⟩
       refine StepsL.cons (ps:= [(8,some 14),(12,some 18)]) rfl (by kernel_rfl) (fun wi hx=> ?_) ?_
       ·intro v8 h8 v12 h12 K hK
        obtain rfl:=h8
        obtain rfl:=h12
        go_simp
        exact hK _ _ ⟨.bool false,rfl,rfl,Ext.refl _⟩
       refine StepsL.cons (ps:= [(13,some 19)]) rfl (by kernel_rfl) (fun wi hx=> ?_) ?_
       ·intro v13 h13 K hK
        obtain rfl:=h13
        go_simp
        exact hK _ _ ⟨.bool false,rfl,rfl,Ext.refl _⟩
       refine StepsL.cons (ps:= [(14,some 20)]) rfl (by kernel_rfl) (fun wi hx=> ?_) ?_
       ·intro v14 h14 K hK
        obtain rfl:=h14
        go_simp
        exact hK _ _ ⟨.pointer (some ⟨w.heap.size,1,none⟩),rfl,rfl,Ext.refl _⟩
       refine StepsL.cons (ps:= [(14,some 20),(15,some 21)]) rfl (by kernel_rfl) (fun wi hx=> ?_) ?_
       ·intro v14 h14 v15 h15 K hK
        obtain rfl:=h14
        obtain rfl:=h15
        have hX:Ext (w.alloc (.cells #[.int .i64 P,.slice q m c2,.slice q2 m2 d2] 25)) wi:=by(repeat' (first|exact Ext.refl _|(with_reducible assumption)|(with_reducible refine Ext.alloc ?_ _)|(with_reducible refine Ext.setCell ?_ (by first|exact Nat.le_refl _|(dsimp only;omega)|(simp;done)|(simp;omega)) _)|(with_reducible refine Ext.drew ?_)|(with_reducible refine Ext.drewN ?_ _)|(refine Ext.trans ?_ (by with_reducible assumption))))
        have cl0:wi.cell? ⟨w.heap.size,1,none⟩=some (.slice q m c2):=((Blk.new w 25 #[.int .i64 P,.slice q m c2,.slice q2 m2 d2]).ext hX).cell 1
        go_simp
        exact hK _ _ ⟨.slice q m c2,rfl,rfl,Ext.refl _⟩
       refine StepsL.cons (ps:= [(14,some 20),(16,some 22)]) rfl (by kernel_rfl) (fun wi hx=> ?_) ?_
       ·intro v14 h14 v16 h16 K hK
        obtain rfl:=h14
        obtain rfl:=h16
        go_simp
        refine(HM.out _ (Ext.trans (by(repeat' (first|exact Ext.refl _|(with_reducible assumption)|(with_reducible refine Ext.alloc ?_ _)|(with_reducible refine Ext.setCell ?_ (by first|exact Nat.le_refl _|(dsimp only;omega)|(simp;done)|(simp;omega)) _)|(with_reducible refine Ext.drew ?_)|(with_reducible refine Ext.drewN ?_ _)|(refine Ext.trans ?_ (by with_reducible assumption))))) hx.of_drew)).mono ?_
        rintro e w5 ⟨rfl,hx5⟩
        go_simp
        exact hK _ _ ⟨.int .i64 Mx,rfl,rfl,hx5⟩
       refine StepsL.cons (ps:= [(14,some 20)]) rfl (by kernel_rfl) (fun wi hx=> ?_) ?_
       ·intro v14 h14 K hK
        obtain rfl:=h14
        go_simp
        exact hK _ _ ⟨.pointer (some ⟨w.heap.size,0,none⟩),rfl,rfl,Ext.refl _⟩
       refine StepsL.cons (ps:= [(14,some 20),(18,some 24)]) rfl (by kernel_rfl) (fun wi hx=> ?_) ?_
       ·intro v14 h14 v18 h18 K hK
        obtain rfl:=h14
        obtain rfl:=h18
        have hX:Ext (w.alloc (.cells #[.int .i64 P,.slice q m c2,.slice q2 m2 d2] 25)) wi:=by(repeat' (first|exact Ext.refl _|(with_reducible assumption)|(with_reducible refine Ext.alloc ?_ _)|(with_reducible refine Ext.setCell ?_ (by first|exact Nat.le_refl _|(dsimp only;omega)|(simp;done)|(simp;omega)) _)|(with_reducible refine Ext.drew ?_)|(with_reducible refine Ext.drewN ?_ _)|(refine Ext.trans ?_ (by with_reducible assumption))))
        have cl0:wi.cell? ⟨w.heap.size,0,none⟩=some (.int .i64 P):=((Blk.new w 25 #[.int .i64 P,.slice q m c2,.slice q2 m2 d2]).ext hX).cell 0
        go_simp
        exact hK _ _ ⟨.int .i64 P,rfl,rfl,Ext.refl _⟩
       refine StepsL.cons (ps:= [(14,some 20),(17,some 23),(19,some 25)]) rfl (by kernel_rfl) (fun wi hx=> ?_) ?_
       ·intro v14 h14 v17 h17 v19 h19 K hK
        obtain rfl:=h14
        obtain rfl:=h17
        obtain rfl:=h19
        go_simp
        exact hK _ _ ⟨.bool false,rfl,rfl,Ext.refl _⟩
       refine StepsL.cons (ps:= [(14,some 20),(20,some 26)]) rfl (by kernel_rfl) (fun wi hx=> ?_) ?_
       ·intro v14 h14 v20 h20 K hK
        obtain rfl:=h14
        obtain rfl:=h20
        go_simp
        exact hK _ _ ⟨.bool false,rfl,rfl,Ext.refl _⟩
       refine StepsL.cons (ps:= [(21,some 27)]) rfl (by kernel_rfl) (fun wi hx=> ?_) ?_
       ·intro v21 h21 K hK
        obtain rfl:=h21
        go_simp
        exact hK _ _ ⟨.bool false,rfl,rfl,Ext.refl _⟩
       refine StepsL.cons (ps:= [(22,some 28)]) rfl (by kernel_rfl) (fun wi hx=> ?_) ?_
       ·intro v22 h22 K hK
        obtain rfl:=h22
        go_simp
        exact hK _ _ ⟨.pointer (some ⟨w.heap.size,2,none⟩),rfl,rfl,Ext.refl _⟩
       refine StepsL.cons (ps:= [(22,some 28),(23,some 29)]) rfl (by kernel_rfl) (fun wi hx=> ?_) ?_
       ·intro v22 h22 v23 h23 K hK
        obtain rfl:=h22
        obtain rfl:=h23
        have hX:Ext (w.alloc (.cells #[.int .i64 P,.slice q m c2,.slice q2 m2 d2] 25)) wi:=by(repeat' (first|exact Ext.refl _|(with_reducible assumption)|(with_reducible refine Ext.alloc ?_ _)|(with_reducible refine Ext.setCell ?_ (by first|exact Nat.le_refl _|(dsimp only;omega)|(simp;done)|(simp;omega)) _)|(with_reducible refine Ext.drew ?_)|(with_reducible refine Ext.drewN ?_ _)|(refine Ext.trans ?_ (by with_reducible assumption))))
        have cl0:wi.cell? ⟨w.heap.size,2,none⟩=some (.slice q2 m2 d2):=((Blk.new w 25 #[.int .i64 P,.slice q m c2,.slice q2 m2 d2]).ext hX).cell 2
        go_simp
        exact hK _ _ ⟨.slice q2 m2 d2,rfl,rfl,Ext.refl _⟩
       refine StepsL.cons (ps:= [(22,some 28),(24,some 30)]) rfl (by kernel_rfl) (fun wi hx=> ?_) ?_
       ·intro v22 h22 v24 h24 K hK
        obtain rfl:=h22
        obtain rfl:=h24
        go_simp
        exact hK _ _ ⟨.int .i64 (m2:Int),rfl,rfl,Ext.refl _⟩
       refine StepsL.cons (ps:= [(22,some 28),(25,some 31)]) rfl (by kernel_rfl) (fun wi hx=> ?_) ?_
       ·intro v22 h22 v25 h25 K hK
        obtain rfl:=h22
        obtain rfl:=h25
        go_simp
        exact hK _ _ ⟨.bool false,rfl,rfl,Ext.refl _⟩
       refine StepsL.cons (ps:= [(22,some 28),(26,some 32)]) rfl (by kernel_rfl) (fun wi hx=> ?_) StepsL.nil
       ·intro v22 h22 v26 h26 K hK
        obtain rfl:=h22
        obtain rfl:=h26
        go_simp
        exact hK _ _ ⟨.bool false,rfl,rfl,Ext.refl _⟩
      case fin=>
       intro wi hx v0 h0 v1 h1 v2 h2 v3 h3 v4 h4 v5 h5 v6 h6 v7 h7 v8 h8 v9 h9 v10 h10 v11 h11 v12 h12 v13 h13 v14 h14 v15 h15 v16 h16 v17 h17 v18 h18 v19 h19 v20 h20 v21 h21 v22 h22 v23 h23 v24 h24 v25 h25 v26 h26 v27 h27
       obtain rfl:=h0
       obtain rfl:=h1
       obtain rfl:=h2
       obtain rfl:=h3
       obtain rfl:=h4
       obtain rfl:=h5
       obtain rfl:=h6
       obtain rfl:=h7
       obtain rfl:=h8
       obtain rfl:=h9
       obtain rfl:=h10
       obtain rfl:=h11
       obtain rfl:=h12
       obtain rfl:=h13
       obtain rfl:=h14
       obtain rfl:=h15
       obtain rfl:=h16
       obtain rfl:=h17
       obtain rfl:=h18
       obtain rfl:=h19
       obtain rfl:=h20
       obtain rfl:=h21
       obtain rfl:=h22
       obtain rfl:=h23
       obtain rfl:=h24
       obtain rfl:=h25
       obtain rfl:=h26
       obtain rfl:=h27
       refine wpAny_done (by kernel_rfl) ?_ _
       try simp only[Act.put,List.setIfInBounds_toArray,List.set_cons_zero,List.set_cons_succ]
       have M0:=Lib.hid (show Mem w wi [blkI w.heap.size (w.heap.size) 25 #[.int .i64 P,.slice q m c2,.slice q2 m2 d2]]from((Mem.start w).blkNew 25 _ (w.heap.size) rfl).adv hx.of_drew)
       clear hx
       go_wp2
       go_loopw [3] (fun x wr=> ∃k:Nat,1≤k∧(k≤m∨k=1)∧x= .int .i64 (k:Int)∧(∀j,j+1<k→idAt T j<idAt T (j+1))∧Mem w wr [blkI w.heap.size (w.heap.size) 25 #[.int .i64 P,.slice q m c2,.slice q2 m2 d2]]) (fun x _=>m+1-(intOf x).toNat)
       case atStart=>exact⟨1,Nat.le_refl _,.inr rfl,rfl,fun j h=>by omega,M0.out⟩
       case round=>
        clear M0
        obtain⟨k,hk1,hk,rfl,hup,hM⟩:=hrel
        have HMm:=Lib.hid hM
        have HUP:=Lib.hid hup
        clear hM hup
        obtain⟨ce0,ce1,ce2⟩:=(HMm.out.blk (i:=0) rfl).tri
        by_cases hlt:k<m
        ·obtain⟨b,off,x0,x1,x2,x3,rfl,hv,hb,g0,g1,g2,g3⟩:=visit_at (HS.out.ext HMm.out.ext) hlt
         obtain⟨b9,off9,y0,y1,y2,y3,e9,hv2,hb2,u0,u1,u2,u3⟩:=visit_at (k:=k-1) (HS.out.ext HMm.out.ext) (by omega)
         cases e9
         have hi1:idAt T k=x0:=by simp[idAt,hv]
         have hi2:idAt T (k-1)=y0:=by simp[idAt,hv2]
         have hne:y0≠x0:=by
          intro e
          have hnd:=(((booksOk_iff T).1 HBK.out).2.2)
          have hp:=List.pairwise_iff_getElem.1 hnd (k-1) k (by rw[List.length_map,hl.out];omega) (by rw[List.length_map,hl.out];omega) (by omega)
          obtain⟨h1,h2⟩:=List.getElem?_eq_some_iff.1 hv
          obtain⟨h3,h4⟩:=List.getElem?_eq_some_iff.1 hv2
          simp only[List.getElem_map]at hp
          rw[h2,h4]at hp
          exact hp e
         have HI1:=Lib.hid hi1
         have HI2:=Lib.hid hi2
         clear hv hv2 hi1 hi2
         have i1:(0:Int)≤(k:Int):=by omega
         have i2:(k:Int)<(m:Int):=by omega
         have i3:(k:Int)-1<(m:Int):=by omega
         have i4:((k:Int)-1).toNat=k-1:=by omega
         have i5:(1:Int)≤(k:Int):=by omega
         by_cases hy:y0<x0
         ·have hnx:Hid (∀j,j+1<k+1→idAt T j<idAt T (j+1)):=by
           intro j hj
           by_cases e:j+1=k
           ·have e1:j=k-1:=by omega
            subst e1
            rw[HI2.out,show k-1+1=k by omega,HI1.out];exact hy
           ·exact HUP.out j (by omega)
          have t5:decide (x0<y0)=false:=by simp;omega
          clear hne
          go_wp2
          go_quiet (fail)
          generalize hwi:World.drewN wr _=wi
          have hX:Ext wr wi:=by rw[←hwi];exact Ext.drewN (Ext.refl _) _
          clear hwi
          have HN:=Lib.hid (HMm.out.adv hX)
          clear HMm hX ce0 ce1 ce2 g0 g1 g2 g3 u0 u1 u2 u3 hb hb2
          go_wp2
          go_roundw
          case rel=>exact⟨k+1,by omega,by omega,by go_num,hnx.out,HN.out⟩
          case measure=>simp[intOf];omega
         ·have t5:decide (x0<y0)=true:=by simp;omega
          have hfin:Hid (deskValid ⟨P,T,R⟩=false):=by
           show _=_
           cases hq:deskValid ⟨P,T,R⟩with
           |false=>rfl
           |true=>
            exfalso
            obtain⟨z1,z2,z3,z4,z5,z6⟩:=desk_parts hq
            dsimp only at z1 z2 z3 z4 z5 z6
            have:=idsUp_at z5 (k:=k-1) (by rw[hl.out];omega)
            rw[HI2.out,show k-1+1=k by omega,HI1.out]at this;exact hy this
          clear hne
          go_wp2
          go_quiet (fail)
          generalize hwi:World.drewN wr _=wi
          have hX:Ext wr wi:=by rw[←hwi];exact Ext.drewN (Ext.refl _) _
          clear hwi
          have HN:=Lib.hid (HMm.out.adv hX)
          clear HMm hX ce0 ce1 ce2 g0 g1 g2 g3 u0 u1 u2 u3 hb hb2
          go_wp2
          go_ret
          exact⟨by rw[hfin.out];rfl,HN.out.ext⟩
        ·have hUP:Hid (idsUp T=true):=by
          show _=_
          simp only[idsUp,List.all_eq_true,List.mem_range,decide_eq_true_eq]
          intro j _ hj
          exact HUP.out j (by rw[hl.out]at hj;omega)
         have HUPP:=Lib.hid (idsUp_iff.1 hUP.out)
         go_wp2
         go_loopw [58] (fun x wr=> ∃k:Nat,k≤m2∧x= .int .i64 (k:Int)∧(∀j,j<k→rowOk1 P T R j=true)∧Mem w wr [blkI w.heap.size (w.heap.size) 25 #[.int .i64 P,.slice q m c2,.slice q2 m2 d2]]) (fun x _=>m2-(intOf x).toNat)
         case atStart=>exact⟨0,Nat.zero_le _,rfl,fun j h=>by omega,HMm.out⟩
         case round=>
          clear ce0 ce1 ce2 HMm HUP
          obtain⟨k,hk,rfl,hrow,hM⟩:=hrel
          have HMm:=Lib.hid hM
          have HROW:=Lib.hid hrow
          clear hM hrow
          by_cases hlt2:k<m2
          ·obtain⟨ce0,ce1,ce2⟩:=(HMm.out.blk (i:=0) rfl).tri
           obtain⟨b,off,x0,x1,x2,x3,rfl,hv,hb,g0,g1,g2,g3⟩:=visit_at (HS2.out.ext HMm.out.ext) hlt2
           have HV:=Lib.hid hv
           clear hv
           have i1:(0:Int)≤(k:Int):=by omega
           have i2:(k:Int)<(m2:Int):=by omega
           have i6:k≤d2:=by have:=HS2.out.le;omega
           obtain⟨g9,hg9⟩: ∃g9,g9=wr.heap.size:=⟨_,rfl⟩
           obtain⟨wa,hwa⟩: ∃x,x=wr.alloc (.cells #[.int .i64 x0,.int .i64 x1,.int .i64 x2,.int .i64 x3] TBk):=⟨_,rfl⟩
           have MA:=Lib.hid (show Mem w wa [blkI w.heap.size (g9) TBk #[.int .i64 x0,.int .i64 x1,.int .i64 x2,.int .i64 x3],blkI w.heap.size (w.heap.size) 25 #[.int .i64 P,.slice q m c2,.slice (some ⟨b,off,none⟩) m2 d2]]from by rw[hwa];exact HMm.out.blkNew TBk _ g9 hg9.symm)
           go_wp2
           rw[←hwa,←hg9]
           clear hwa hg9 HMm ce0 ce1 ce2 g0 g1 g2 g3 hb
           have HRNO:Hid (rowOk1 P T R k=false→deskValid ⟨P,T,R⟩=false):=fun hro=>by
            cases hq:deskValid ⟨P,T,R⟩with
            |false=>rfl
            |true=>
             exfalso
             obtain⟨z1,z2,z3,z4,z5,z6⟩:=desk_parts hq
             dsimp only at z6
             have:=rowGo_at z6 (k:=k) (by rw[hl2.out];exact hlt2)
             rw[hro]at this;simp at this
           cases hbv:bookOk (x0,x1,x2,x3)with
           |false=>
            have HBV:Hid (∀w',Calls Tryd.prog 41 #[bookV x0 x1 x2 x3] w' fun e w''=>e= .returned (.bool false)∧Ext w' w''):=fun w'=>by rw[←hbv];exact implBv x0 x1 x2 x3 w'
            have hfin:=Lib.hid (HRNO.out (by unfold rowOk1;rw[HV.out];simp[hbv]))
            clear hbv
            refine region_lin (gl [gEq (.agg #[.int .i64 x0,.int .i64 x1,.int .i64 x2,.int .i64 x3]),gEq (.bool false),gEq (.bool true),gEq (.bool true),gEq (undef),gEq (undef),gEq (undef),gEq (undef),gEq (undef),gEq (undef),gEq (undef),gEq (undef),gEq (.bool true),gEq (.bool true),gEq (undef),gEq (undef),gEq (undef),gEq (undef),gEq (undef),gEq (undef),gEq (.bool true),gEq (.bool true),gEq (undef),gEq (undef),gEq (undef),gEq (.bool true)]) 26 (by kernel_rfl) rfl (by kernel_rfl) (by kernel_rfl) (by kernel_rfl) (gl_mono (gl_cons (gEq_mono _) (gl_cons (gEq_mono _) (gl_cons (gEq_mono _) (gl_cons (gEq_mono _) (gl_cons (gEq_mono _) (gl_cons (gEq_mono _) (gl_cons (gEq_mono _) (gl_cons (gEq_mono _) (gl_cons (gEq_mono _) (gl_cons (gEq_mono _) (gl_cons (gEq_mono _) (gl_cons (gEq_mono _) (gl_cons (gEq_mono _) (gl_cons (gEq_mono _) (gl_cons (gEq_mono _) (gl_cons (gEq_mono _) (gl_cons (gEq_mono _) (gl_cons (gEq_mono _) (gl_cons (gEq_mono _) (gl_cons (gEq_mono _) (gl_cons (gEq_mono _) (gl_cons (gEq_mono _) (gl_cons (gEq_mono _) (gl_cons (gEq_mono _) (gl_cons (gEq_mono _) (gl_cons (gEq_mono _) (gl_nil)))))))))))))))))))))))))))) (k:=26) (by kernel_rfl) (by decide) (ls:= [(0,some 63),(1,some 64),(2,some 65),(3,some 66),(4,some 67),(5,some 68),(6,some 69),(7,some 70),(8,some 71),(9,some 72),(10,some 73),(11,some 74),(12,some 75),(13,some 76),(14,some 77),(15,some 78),(16,some 79),(17,some 80),(18,some 81),(19,some 82),(20,some 83),(21,some 84),(22,some 85),(23,some 86),(24,some 87),(25,some 88)]) (by kernel_rfl) (ir:= [0,1,2,3,4,5,6,7,8,9,10,11,12,13,14,15,16,17,18,19,20,21,22,23,24,25]) (by kernel_rfl) ?steps (tl:=#[true,true,true,true,true,true,true,true,true,true,true,true,true,true,true,true,true,true,true,true,true,true,true,true,true,true]) (by kernel_rfl) ?fin
            case steps=>
             refine StepsL.cons (ps:= []) rfl (by kernel_rfl) (fun wi hx=> ?_) ?_
             ·intro K hK
              have hX:Ext wa wi:=by(repeat' (first|exact Ext.refl _|(with_reducible assumption)|(with_reducible refine Ext.alloc ?_ _)|(with_reducible refine Ext.setCell ?_ (by first|exact Nat.le_refl _|(dsimp only;omega)|(simp;done)|(simp;omega)) _)|(with_reducible refine Ext.drew ?_)|(with_reducible refine Ext.drewN ?_ _)|(refine Ext.trans ?_ (by with_reducible assumption))))
              have cl0:wi.cell? ⟨g9,0,none⟩=some (.int .i64 x0):=((MA.out.blk (i:=0) rfl).ext hX).cell 0
              have cl1:wi.cell? ⟨g9,1,none⟩=some (.int .i64 x1):=((MA.out.blk (i:=0) rfl).ext hX).cell 1
              have cl2:wi.cell? ⟨g9,2,none⟩=some (.int .i64 x2):=((MA.out.blk (i:=0) rfl).ext hX).cell 2
              have cl3:wi.cell? ⟨g9,3,none⟩=some (.int .i64 x3):=((MA.out.blk (i:=0) rfl).ext hX).cell 3
              go_simp
              exact hK _ _ ⟨.agg #[.int .i64 x0,.int .i64 x1,.int .i64 x2,.int .i64 x3],rfl,rfl,Ext.refl _⟩
             refine StepsL.cons (ps:= [(0,some 63)]) rfl (by kernel_rfl) (fun wi hx=> ?_) ?_
             ·intro v0 h0 K hK
              obtain rfl:=h0
              go_simp
              refine(HBV.out _).mono ?_
              rintro e w5 ⟨rfl,hx5⟩
              go_simp
              exact hK _ _ ⟨.bool false,rfl,rfl,hx5⟩
             refine StepsL.cons (ps:= [(1,some 64)]) rfl (by kernel_rfl) (fun wi hx=> ?_) ?_
             ·intro v1 h1 K hK
              obtain rfl:=h1
              go_simp
              exact hK _ _ ⟨.bool true,rfl,rfl,Ext.refl _⟩
             refine StepsL.cons (ps:= [(2,some 65)]) rfl (by kernel_rfl) (fun wi hx=> ?_) ?_
             ·intro v2 h2 K hK
              obtain rfl:=h2
              go_simp
              exact hK _ _ ⟨.bool true,rfl,rfl,Ext.refl _⟩
             refine StepsL.cons (ps:= [(3,some 66)]) rfl (by kernel_rfl) (fun wi hx=> ?_) ?_
             ·intro v3 h3 K hK
              obtain rfl:=h3
              go_simp
              exact hK _ _ ⟨undef,rfl,rfl,Ext.refl _⟩
             refine StepsL.cons (ps:= [(3,some 66),(4,some 67)]) rfl (by kernel_rfl) (fun wi hx=> ?_) ?_
             ·intro v3 h3 v4 h4 K hK
              obtain rfl:=h3
              obtain rfl:=h4
              go_simp
              exact hK _ _ ⟨undef,rfl,rfl,Ext.refl _⟩
             refine StepsL.cons (ps:= [(3,some 66)]) rfl (by kernel_rfl) (fun wi hx=> ?_) ?_
             ·intro v3 h3 K hK
              obtain rfl:=h3
              go_simp
              exact hK _ _ ⟨undef,rfl,rfl,Ext.refl _⟩
             refine StepsL.cons (ps:= [(3,some 66),(5,some 68),(6,some 69)]) rfl (by kernel_rfl) (fun wi hx=> ?_) ?_
             ·intro v3 h3 v5 h5 v6 h6 K hK
              obtain rfl:=h3
              obtain rfl:=h5
              obtain rfl:=h6
              go_simp
              exact hK _ _ ⟨undef,rfl,rfl,Ext.refl _⟩
             refine StepsL.cons (ps:= [(3,some 66)]) rfl (by kernel_rfl) (fun wi hx=> ?_) ?_
             ·intro v3 h3 K hK
              obtain rfl:=h3
              go_simp
              exact hK _ _ ⟨undef,rfl,rfl,Ext.refl _⟩
             refine StepsL.cons (ps:= [(3,some 66),(8,some 71)]) rfl (by kernel_rfl) (fun wi hx=> ?_) ?_
             ·intro v3 h3 v8 h8 K hK
              obtain rfl:=h3
              obtain rfl:=h8
              go_simp
              exact hK _ _ ⟨undef,rfl,rfl,Ext.refl _⟩
             refine StepsL.cons (ps:= [(3,some 66),(7,some 70),(9,some 72)]) rfl (by kernel_rfl) (fun wi hx=> ?_) ?_
             ·intro v3 h3 v7 h7 v9 h9 K hK
              obtain rfl:=h3
              obtain rfl:=h7
              obtain rfl:=h9
              go_simp
              exact hK _ _ ⟨undef,rfl,rfl,Ext.refl _⟩
             refine StepsL.cons (ps:= [(3,some 66),(10,some 73)]) rfl (by kernel_rfl) (fun wi hx=> ?_) ?_
             ·intro v3 h3 v10 h10 K hK
              obtain rfl:=h3
              obtain rfl:=h10
              go_simp
              exact hK _ _ ⟨undef,rfl,rfl,Ext.refl _⟩
             refine StepsL.cons (ps:= [(3,some 66),(11,some 74)]) rfl (by kernel_rfl) (fun wi hx=> ?_) ?_
             ·intro v3 h3 v11 h11 K hK
              obtain rfl:=h3
              obtain rfl:=h11
              go_simp
              exact hK _ _ ⟨.bool true,rfl,rfl,Ext.refl _⟩
             refine StepsL.cons (ps:= [(12,some 75)]) rfl (by kernel_rfl) (fun wi hx=> ?_) ?_
             ·intro v12 h12 K hK
              obtain rfl:=h12
              go_simp
              exact hK _ _ ⟨.bool true,rfl,rfl,Ext.refl _⟩
             refine StepsL.cons (ps:= [(13,some 76)]) rfl (by kernel_rfl) (fun wi hx=> ?_) ?_
             ·intro v13 h13 K hK
              obtain rfl:=h13
              go_simp
              exact hK _ _ ⟨undef,rfl,rfl,Ext.refl _⟩
             refine StepsL.cons (ps:= [(13,some 76),(14,some 77)]) rfl (by kernel_rfl) (fun wi hx=> ?_) ?_
             ·intro v13 h13 v14 h14 K hK
              obtain rfl:=h13
              obtain rfl:=h14
              go_simp
              exact hK _ _ ⟨undef,rfl,rfl,Ext.refl _⟩
             refine StepsL.cons (ps:= [(13,some 76)]) rfl (by kernel_rfl) (fun wi hx=> ?_) ?_
             ·intro v13 h13 K hK
              obtain rfl:=h13
              go_simp
              exact hK _ _ ⟨undef,rfl,rfl,Ext.refl _⟩
             refine StepsL.cons (ps:= [(13,some 76),(16,some 79)]) rfl (by kernel_rfl) (fun wi hx=> ?_) ?_
             ·intro v13 h13 v16 h16 K hK
              obtain rfl:=h13
              obtain rfl:=h16
              go_simp
              exact hK _ _ ⟨undef,rfl,rfl,Ext.refl _⟩
             refine StepsL.cons (ps:= [(13,some 76),(15,some 78),(17,some 80)]) rfl (by kernel_rfl) (fun wi hx=> ?_) ?_
             ·intro v13 h13 v15 h15 v17 h17 K hK
              obtain rfl:=h13
              obtain rfl:=h15
              obtain rfl:=h17
              go_simp
              exact hK _ _ ⟨undef,rfl,rfl,Ext.refl _⟩
             refine StepsL.cons (ps:= [(13,some 76),(18,some 81)]) rfl (by kernel_rfl) (fun wi hx=> ?_) ?_
             ·intro v13 h13 v18 h18 K hK
              obtain rfl:=h13
              obtain rfl:=h18
              go_simp
              exact hK _ _ ⟨undef,rfl,rfl,Ext.refl _⟩
             refine StepsL.cons (ps:= [(13,some 76),(19,some 82)]) rfl (by kernel_rfl) (fun wi hx=> ?_) ?_
             ·intro v13 h13 v19 h19 K hK
              obtain rfl:=h13
              obtain rfl:=h19
              go_simp
              exact hK _ _ ⟨.bool true,rfl,rfl,Ext.refl _⟩
             refine StepsL.cons (ps:= [(20,some 83)]) rfl (by kernel_rfl) (fun wi hx=> ?_) ?_
             ·intro v20 h20 K hK
              obtain rfl:=h20
              go_simp
              exact hK _ _ ⟨.bool true,rfl,rfl,Ext.refl _⟩
             refine StepsL.cons (ps:= [(21,some 84)]) rfl (by kernel_rfl) (fun wi hx=> ?_) ?_
             ·intro v21 h21 K hK
              obtain rfl:=h21
              go_simp
              exact hK _ _ ⟨undef,rfl,rfl,Ext.refl _⟩
             refine StepsL.cons (ps:= [(21,some 84)]) rfl (by kernel_rfl) (fun wi hx=> ?_) ?_
             ·intro v21 h21 K hK
              obtain rfl:=h21
              go_simp
              exact hK _ _ ⟨undef,rfl,rfl,Ext.refl _⟩
             refine StepsL.cons (ps:= [(21,some 84),(22,some 85),(23,some 86)]) rfl (by kernel_rfl) (fun wi hx=> ?_) ?_
             ·intro v21 h21 v22 h22 v23 h23 K hK
              obtain rfl:=h21
              obtain rfl:=h22
              obtain rfl:=h23
              go_simp
              exact hK _ _ ⟨undef,rfl,rfl,Ext.refl _⟩
             refine StepsL.cons (ps:= [(21,some 84),(24,some 87)]) rfl (by kernel_rfl) (fun wi hx=> ?_) StepsL.nil
             ·intro v21 h21 v24 h24 K hK
              obtain rfl:=h21
              obtain rfl:=h24
              go_simp
              exact hK _ _ ⟨.bool true,rfl,rfl,Ext.refl _⟩
            case fin=>
             intro wi hx v0 h0 v1 h1 v2 h2 v3 h3 v4 h4 v5 h5 v6 h6 v7 h7 v8 h8 v9 h9 v10 h10 v11 h11 v12 h12 v13 h13 v14 h14 v15 h15 v16 h16 v17 h17 v18 h18 v19 h19 v20 h20 v21 h21 v22 h22 v23 h23 v24 h24 v25 h25
             obtain rfl:=h0
             obtain rfl:=h1
             obtain rfl:=h2
             obtain rfl:=h3
             obtain rfl:=h4
             obtain rfl:=h5
             obtain rfl:=h6
             obtain rfl:=h7
             obtain rfl:=h8
             obtain rfl:=h9
             obtain rfl:=h10
             obtain rfl:=h11
             obtain rfl:=h12
             obtain rfl:=h13
             obtain rfl:=h14
             obtain rfl:=h15
             obtain rfl:=h16
             obtain rfl:=h17
             obtain rfl:=h18
             obtain rfl:=h19
             obtain rfl:=h20
             obtain rfl:=h21
             obtain rfl:=h22
             obtain rfl:=h23
             obtain rfl:=h24
             obtain rfl:=h25
             refine wpAny_done (by kernel_rfl) ?_ _
             try simp only[Act.put,List.setIfInBounds_toArray,List.set_cons_zero,List.set_cons_succ]
             have hx':=hx.of_drew
             go_wp2
             go_ret
             exact⟨by rw[hfin.out];rfl,MA.out.ext.trans hx'⟩
           |true=>
            have HBV:Hid (∀w',Calls Tryd.prog 41 #[bookV x0 x1 x2 x3] w' fun e w''=>e= .returned (.bool true)∧Ext w' w''):=fun w'=>by rw[←hbv];exact implBv x0 x1 x2 x3 w'
            have HBVK:=Lib.hid hbv
            clear hbv
            cases hnr:noBook x0 (R.take k)with
            |false=>
             have hsk:Sl w (some ⟨b,off,none⟩) k d2 4 ((R.take k).flatMap visitCells):=bk_take HS2.out hk
             obtain⟨X,hX,t6⟩: ∃X,vix x0 (R.take k)=X∧0≤X:=⟨_,rfl,(vix_early (k:=k) (by rw[List.take_take,Nat.min_self];exact hnr)).2⟩
             have HFR:Hid (∀w',Ext w w'→Calls Tryd.prog 42 #[.slice (some ⟨b,off,none⟩) k d2,.int .i64 x0] w' fun e w''=>e= .returned (.int .i64 X)∧Ext w' w''):=fun w' hx=>by rw[←hX];exact bookIndex_any x0 _ k d2 _ w' (hsk.ext hx)
             clear hsk
             have hfin:=Lib.hid (HRNO.out (by unfold rowOk1;rw[HV.out];simp[hnr]))
             clear hnr hX
             refine region_lin (gl [gEq (.agg #[.int .i64 x0,.int .i64 x1,.int .i64 x2,.int .i64 x3]),gEq (.bool true),gEq (.bool false),gEq (.bool false),gEq (.pointer (some ⟨w.heap.size,2,none⟩)),gEq (.slice (some ⟨b,off,none⟩) m2 d2),gEq (.int .i64 (k:Int)),gEq (.slice (some ⟨b,off,none⟩) k d2),gEq (.pointer (some ⟨g9,0,none⟩)),gEq (.int .i64 x0),gEq (.int .i64 X),gEq (.bool true),gEq (.bool true),gEq (.bool true),gEq (undef),gEq (undef),gEq (undef),gEq (undef),gEq (undef),gEq (undef),gEq (.bool true),gEq (.bool true),gEq (undef),gEq (undef),gEq (undef),gEq (.bool true)]) 26 (by kernel_rfl) rfl (by kernel_rfl) (by kernel_rfl) (by kernel_rfl) (gl_mono (gl_cons (gEq_mono _) (gl_cons (gEq_mono _) (gl_cons (gEq_mono _) (gl_cons (gEq_mono _) (gl_cons (gEq_mono _) (gl_cons (gEq_mono _) (gl_cons (gEq_mono _) (gl_cons (gEq_mono _) (gl_cons (gEq_mono _) (gl_cons (gEq_mono _) (gl_cons (gEq_mono _) (gl_cons (gEq_mono _) (gl_cons (gEq_mono _) (gl_cons (gEq_mono _) (gl_cons (gEq_mono _) (gl_cons (gEq_mono _) (gl_cons (gEq_mono _) (gl_cons (gEq_mono _) (gl_cons (gEq_mono _) (gl_cons (gEq_mono _) (gl_cons (gEq_mono _) (gl_cons (gEq_mono _) (gl_cons (gEq_mono _) (gl_cons (gEq_mono _) (gl_cons (gEq_mono _) (gl_cons (gEq_mono _) (gl_nil)))))))))))))))))))))))))))) (k:=26) (by kernel_rfl) (by decide) (ls:= [(0,some 63),(1,some 64),(2,some 65),(3,some 66),(4,some 67),(5,some 68),(6,some 69),(7,some 70),(8,some 71),(9,some 72),(10,some 73),(11,some 74),(12,some 75),(13,some 76),(14,some 77),(15,some 78),(16,some 79),(17,some 80),(18,some 81),(19,some 82),(20,some 83),(21,some 84),(22,some 85),(23,some 86),(24,some 87),(25,some 88)]) (by kernel_rfl) (ir:= [0,1,2,3,4,5,6,7,8,9,10,11,12,13,14,15,16,17,18,19,20,21,22,23,24,25]) (by kernel_rfl) ?steps (tl:=#[true,true,true,true,true,true,true,true,true,true,true,true,true,true,true,true,true,true,true,true,true,true,true,true,true,true]) (by kernel_rfl) ?fin
             case steps=>
              refine StepsL.cons (ps:= []) rfl (by kernel_rfl) (fun wi hx=> ?_) ?_
              ·intro K hK
               have hX:Ext wa wi:=by(repeat' (first|exact Ext.refl _|(with_reducible assumption)|(with_reducible refine Ext.alloc ?_ _)|(with_reducible refine Ext.setCell ?_ (by first|exact Nat.le_refl _|(dsimp only;omega)|(simp;done)|(simp;omega)) _)|(with_reducible refine Ext.drew ?_)|(with_reducible refine Ext.drewN ?_ _)|(refine Ext.trans ?_ (by with_reducible assumption))))
               have cl0:wi.cell? ⟨g9,0,none⟩=some (.int .i64 x0):=((MA.out.blk (i:=0) rfl).ext hX).cell 0
               have cl1:wi.cell? ⟨g9,1,none⟩=some (.int .i64 x1):=((MA.out.blk (i:=0) rfl).ext hX).cell 1
               have cl2:wi.cell? ⟨g9,2,none⟩=some (.int .i64 x2):=((MA.out.blk (i:=0) rfl).ext hX).cell 2
               have cl3:wi.cell? ⟨g9,3,none⟩=some (.int .i64 x3):=((MA.out.blk (i:=0) rfl).ext hX).cell 3
               go_simp
               exact hK _ _ ⟨.agg #[.int .i64 x0,.int .i64 x1,.int .i64 x2,.int .i64 x3],rfl,rfl,Ext.refl _⟩
              refine StepsL.cons (ps:= [(0,some 63)]) rfl (by kernel_rfl) (fun wi hx=> ?_) ?_
              ·intro v0 h0 K hK
               obtain rfl:=h0
               go_simp
               refine(HBV.out _).mono ?_
               rintro e w5 ⟨rfl,hx5⟩
               go_simp
               exact hK _ _ ⟨.bool true,rfl,rfl,hx5⟩
              refine StepsL.cons (ps:= [(1,some 64)]) rfl (by kernel_rfl) (fun wi hx=> ?_) ?_
              ·intro v1 h1 K hK
               obtain rfl:=h1
               go_simp
               exact hK _ _ ⟨.bool false,rfl,rfl,Ext.refl _⟩
              refine StepsL.cons (ps:= [(2,some 65)]) rfl (by kernel_rfl) (fun wi hx=> ?_) ?_
              ·intro v2 h2 K hK
               obtain rfl:=h2
               go_simp
               exact hK _ _ ⟨.bool false,rfl,rfl,Ext.refl _⟩
              refine StepsL.cons (ps:= [(3,some 66)]) rfl (by kernel_rfl) (fun wi hx=> ?_) ?_
              ·intro v3 h3 K hK
               obtain rfl:=h3
               go_simp
               exact hK _ _ ⟨.pointer (some ⟨w.heap.size,2,none⟩),rfl,rfl,Ext.refl _⟩
              refine StepsL.cons (ps:= [(3,some 66),(4,some 67)]) rfl (by kernel_rfl) (fun wi hx=> ?_) ?_
              ·intro v3 h3 v4 h4 K hK
               obtain rfl:=h3
               obtain rfl:=h4
               have hX:Ext wa wi:=by(repeat' (first|exact Ext.refl _|(with_reducible assumption)|(with_reducible refine Ext.alloc ?_ _)|(with_reducible refine Ext.setCell ?_ (by first|exact Nat.le_refl _|(dsimp only;omega)|(simp;done)|(simp;omega)) _)|(with_reducible refine Ext.drew ?_)|(with_reducible refine Ext.drewN ?_ _)|(refine Ext.trans ?_ (by with_reducible assumption))))
               have cl0:wi.cell? ⟨w.heap.size,2,none⟩=some (.slice (some ⟨b,off,none⟩) m2 d2):=((MA.out.blk (i:=1) rfl).ext hX).cell 2
               go_simp
               exact hK _ _ ⟨.slice (some ⟨b,off,none⟩) m2 d2,rfl,rfl,Ext.refl _⟩
              refine StepsL.cons (ps:= [(3,some 66)]) rfl (by kernel_rfl) (fun wi hx=> ?_) ?_
              ·intro v3 h3 K hK
               obtain rfl:=h3
               go_simp
               exact hK _ _ ⟨.int .i64 (k:Int),rfl,rfl,Ext.refl _⟩
              refine StepsL.cons (ps:= [(3,some 66),(5,some 68),(6,some 69)]) rfl (by kernel_rfl) (fun wi hx=> ?_) ?_
              ·intro v3 h3 v5 h5 v6 h6 K hK
               obtain rfl:=h3
               obtain rfl:=h5
               obtain rfl:=h6
               go_simp
               exact hK _ _ ⟨.slice (some ⟨b,off,none⟩) k d2,rfl,rfl,Ext.refl _⟩
              refine StepsL.cons (ps:= [(3,some 66)]) rfl (by kernel_rfl) (fun wi hx=> ?_) ?_
              ·intro v3 h3 K hK
               obtain rfl:=h3
               go_simp
               exact hK _ _ ⟨.pointer (some ⟨g9,0,none⟩),rfl,rfl,Ext.refl _⟩
              refine StepsL.cons (ps:= [(3,some 66),(8,some 71)]) rfl (by kernel_rfl) (fun wi hx=> ?_) ?_
              ·intro v3 h3 v8 h8 K hK
               obtain rfl:=h3
               obtain rfl:=h8
               have hX:Ext wa wi:=by(repeat' (first|exact Ext.refl _|(with_reducible assumption)|(with_reducible refine Ext.alloc ?_ _)|(with_reducible refine Ext.setCell ?_ (by first|exact Nat.le_refl _|(dsimp only;omega)|(simp;done)|(simp;omega)) _)|(with_reducible refine Ext.drew ?_)|(with_reducible refine Ext.drewN ?_ _)|(refine Ext.trans ?_ (by with_reducible assumption))))
               have cl0:wi.cell? ⟨g9,0,none⟩=some (.int .i64 x0):=((MA.out.blk (i:=0) rfl).ext hX).cell 0
               go_simp
               exact hK _ _ ⟨.int .i64 x0,rfl,rfl,Ext.refl _⟩
              refine StepsL.cons (ps:= [(3,some 66),(7,some 70),(9,some 72)]) rfl (by kernel_rfl) (fun wi hx=> ?_) ?_
              ·intro v3 h3 v7 h7 v9 h9 K hK
               obtain rfl:=h3
               obtain rfl:=h7
               obtain rfl:=h9
               go_simp
               refine(HFR.out _ (MA.out.ext.trans hx.of_drew)).mono ?_
               rintro e w5 ⟨rfl,hx5⟩
               go_simp
               exact hK _ _ ⟨.int .i64 X,rfl,rfl,hx5⟩
              refine StepsL.cons (ps:= [(3,some 66),(10,some 73)]) rfl (by kernel_rfl) (fun wi hx=> ?_) ?_
              ·intro v3 h3 v10 h10 K hK
               obtain rfl:=h3
               obtain rfl:=h10
               go_simp
               exact hK _ _ ⟨.bool true,rfl,rfl,Ext.refl _⟩
              refine StepsL.cons (ps:= [(3,some 66),(11,some 74)]) rfl (by kernel_rfl) (fun wi hx=> ?_) ?_
              ·intro v3 h3 v11 h11 K hK
               obtain rfl:=h3
               obtain rfl:=h11
               go_simp
               exact hK _ _ ⟨.bool true,rfl,rfl,Ext.refl _⟩
              refine StepsL.cons (ps:= [(12,some 75)]) rfl (by kernel_rfl) (fun wi hx=> ?_) ?_
              ·intro v12 h12 K hK
               obtain rfl:=h12
               go_simp
               exact hK _ _ ⟨.bool true,rfl,rfl,Ext.refl _⟩
              refine StepsL.cons (ps:= [(13,some 76)]) rfl (by kernel_rfl) (fun wi hx=> ?_) ?_
              ·intro v13 h13 K hK
               obtain rfl:=h13
               go_simp
               exact hK _ _ ⟨undef,rfl,rfl,Ext.refl _⟩
              refine StepsL.cons (ps:= [(13,some 76),(14,some 77)]) rfl (by kernel_rfl) (fun wi hx=> ?_) ?_
              ·intro v13 h13 v14 h14 K hK
               obtain rfl:=h13
               obtain rfl:=h14
               go_simp
               exact hK _ _ ⟨undef,rfl,rfl,Ext.refl _⟩
              refine StepsL.cons (ps:= [(13,some 76)]) rfl (by kernel_rfl) (fun wi hx=> ?_) ?_
              ·intro v13 h13 K hK
               obtain rfl:=h13
               go_simp
               exact hK _ _ ⟨undef,rfl,rfl,Ext.refl _⟩
              refine StepsL.cons (ps:= [(13,some 76),(16,some 79)]) rfl (by kernel_rfl) (fun wi hx=> ?_) ?_
              ·intro v13 h13 v16 h16 K hK
               obtain rfl:=h13
               obtain rfl:=h16
               go_simp
               exact hK _ _ ⟨undef,rfl,rfl,Ext.refl _⟩
              refine StepsL.cons (ps:= [(13,some 76),(15,some 78),(17,some 80)]) rfl (by kernel_rfl) (fun wi hx=> ?_) ?_
              ·intro v13 h13 v15 h15 v17 h17 K hK
               obtain rfl:=h13
               obtain rfl:=h15
               obtain rfl:=h17
               go_simp
               exact hK _ _ ⟨undef,rfl,rfl,Ext.refl _⟩
              refine StepsL.cons (ps:= [(13,some 76),(18,some 81)]) rfl (by kernel_rfl) (fun wi hx=> ?_) ?_
              ·intro v13 h13 v18 h18 K hK
               obtain rfl:=h13
               obtain rfl:=h18
               go_simp
               exact hK _ _ ⟨undef,rfl,rfl,Ext.refl _⟩
              refine StepsL.cons (ps:= [(13,some 76),(19,some 82)]) rfl (by kernel_rfl) (fun wi hx=> ?_) ?_
              ·intro v13 h13 v19 h19 K hK
               obtain rfl:=h13
               obtain rfl:=h19
               go_simp
               exact hK _ _ ⟨.bool true,rfl,rfl,Ext.refl _⟩
              refine StepsL.cons (ps:= [(20,some 83)]) rfl (by kernel_rfl) (fun wi hx=> ?_) ?_
              ·intro v20 h20 K hK
               obtain rfl:=h20
               go_simp
               exact hK _ _ ⟨.bool true,rfl,rfl,Ext.refl _⟩
              refine StepsL.cons (ps:= [(21,some 84)]) rfl (by kernel_rfl) (fun wi hx=> ?_) ?_
              ·intro v21 h21 K hK
               obtain rfl:=h21
               go_simp
               exact hK _ _ ⟨undef,rfl,rfl,Ext.refl _⟩
              refine StepsL.cons (ps:= [(21,some 84)]) rfl (by kernel_rfl) (fun wi hx=> ?_) ?_
              ·intro v21 h21 K hK
               obtain rfl:=h21
               go_simp
               exact hK _ _ ⟨undef,rfl,rfl,Ext.refl _⟩
              refine StepsL.cons (ps:= [(21,some 84),(22,some 85),(23,some 86)]) rfl (by kernel_rfl) (fun wi hx=> ?_) ?_
              ·intro v21 h21 v22 h22 v23 h23 K hK
               obtain rfl:=h21
               obtain rfl:=h22
               obtain rfl:=h23
               go_simp
               exact hK _ _ ⟨undef,rfl,rfl,Ext.refl _⟩
              refine StepsL.cons (ps:= [(21,some 84),(24,some 87)]) rfl (by kernel_rfl) (fun wi hx=> ?_) StepsL.nil
              ·intro v21 h21 v24 h24 K hK
               obtain rfl:=h21
               obtain rfl:=h24
               go_simp
               exact hK _ _ ⟨.bool true,rfl,rfl,Ext.refl _⟩
             case fin=>
              intro wi hx v0 h0 v1 h1 v2 h2 v3 h3 v4 h4 v5 h5 v6 h6 v7 h7 v8 h8 v9 h9 v10 h10 v11 h11 v12 h12 v13 h13 v14 h14 v15 h15 v16 h16 v17 h17 v18 h18 v19 h19 v20 h20 v21 h21 v22 h22 v23 h23 v24 h24 v25 h25
              obtain rfl:=h0
              obtain rfl:=h1
              obtain rfl:=h2
              obtain rfl:=h3
              obtain rfl:=h4
              obtain rfl:=h5
              obtain rfl:=h6
              obtain rfl:=h7
              obtain rfl:=h8
              obtain rfl:=h9
              obtain rfl:=h10
              obtain rfl:=h11
              obtain rfl:=h12
              obtain rfl:=h13
              obtain rfl:=h14
              obtain rfl:=h15
              obtain rfl:=h16
              obtain rfl:=h17
              obtain rfl:=h18
              obtain rfl:=h19
              obtain rfl:=h20
              obtain rfl:=h21
              obtain rfl:=h22
              obtain rfl:=h23
              obtain rfl:=h24
              obtain rfl:=h25
              refine wpAny_done (by kernel_rfl) ?_ _
              try simp only[Act.put,List.setIfInBounds_toArray,List.set_cons_zero,List.set_cons_succ]
              have hx':=hx.of_drew
              go_wp2
              go_ret
              exact⟨by rw[hfin.out];rfl,MA.out.ext.trans hx'⟩
            |true=>
             have hsk:Sl w (some ⟨b,off,none⟩) k d2 4 ((R.take k).flatMap visitCells):=bk_take HS2.out hk
             have HFR:Hid (∀w',Ext w w'→Calls Tryd.prog 42 #[.slice (some ⟨b,off,none⟩) k d2,.int .i64 x0] w' fun e w''=>e= .returned (.int .i64 (-1))∧Ext w' w''):=fun w' hx=>by rw[←vix_neg hnr];exact bookIndex_any x0 _ k d2 _ w' (hsk.ext hx)
             clear hsk
             have HNR:=Lib.hid hnr
             clear hnr
             cases hnt:noBook x0 T with
             |false=>
              obtain⟨k9,_,hX,_⟩:=vix_pos hnt
              obtain⟨X,hX2,t8⟩: ∃X,vix x0 T=X∧0≤X:=⟨_,rfl,by rw[hX];omega⟩
              have HFT:Hid (∀w',Ext w w'→Calls Tryd.prog 42 #[.slice q m c2,.int .i64 x0] w' fun e w''=>e= .returned (.int .i64 X)∧Ext w' w''):=fun w' hx=>by rw[←hX2];exact bookIndex_any x0 q m c2 T w' (HS.out.ext hx)
              have hfin:=Lib.hid (HRNO.out (by unfold rowOk1;rw[HV.out];simp[hnt]))
              clear hnt hX hX2
              refine region_lin (gl [gEq (.agg #[.int .i64 x0,.int .i64 x1,.int .i64 x2,.int .i64 x3]),gEq (.bool true),gEq (.bool false),gEq (.bool false),gEq (.pointer (some ⟨w.heap.size,2,none⟩)),gEq (.slice (some ⟨b,off,none⟩) m2 d2),gEq (.int .i64 (k:Int)),gEq (.slice (some ⟨b,off,none⟩) k d2),gEq (.pointer (some ⟨g9,0,none⟩)),gEq (.int .i64 x0),gEq (.int .i64 (-1)),gEq (.bool false),gEq (.bool false),gEq (.bool false),gEq (.pointer (some ⟨w.heap.size,1,none⟩)),gEq (.slice q m c2),gEq (.pointer (some ⟨g9,0,none⟩)),gEq (.int .i64 x0),gEq (.int .i64 X),gEq (.bool true),gEq (.bool true),gEq (.bool true),gEq (undef),gEq (undef),gEq (undef),gEq (.bool true)]) 26 (by kernel_rfl) rfl (by kernel_rfl) (by kernel_rfl) (by kernel_rfl) (gl_mono (gl_cons (gEq_mono _) (gl_cons (gEq_mono _) (gl_cons (gEq_mono _) (gl_cons (gEq_mono _) (gl_cons (gEq_mono _) (gl_cons (gEq_mono _) (gl_cons (gEq_mono _) (gl_cons (gEq_mono _) (gl_cons (gEq_mono _) (gl_cons (gEq_mono _) (gl_cons (gEq_mono _) (gl_cons (gEq_mono _) (gl_cons (gEq_mono _) (gl_cons (gEq_mono _) (gl_cons (gEq_mono _) (gl_cons (gEq_mono _) (gl_cons (gEq_mono _) (gl_cons (gEq_mono _) (gl_cons (gEq_mono _) (gl_cons (gEq_mono _) (gl_cons (gEq_mono _) (gl_cons (gEq_mono _) (gl_cons (gEq_mono _) (gl_cons (gEq_mono _) (gl_cons (gEq_mono _) (gl_cons (gEq_mono _) (gl_nil)))))))))))))))))))))))))))) (k:=26) (by kernel_rfl) (by decide) (ls:= [(0,some 63),(1,some 64),(2,some 65),(3,some 66),(4,some 67),(5,some 68),(6,some 69),(7,some 70),(8,some 71),(9,some 72),(10,some 73),(11,some 74),(12,some 75),(13,some 76),(14,some 77),(15,some 78),(16,some 79),(17,some 80),(18,some 81),(19,some 82),(20,some 83),(21,some 84),(22,some 85),(23,some 86),(24,some 87),(25,some 88)]) (by kernel_rfl) (ir:= [0,1,2,3,4,5,6,7,8,9,10,11,12,13,14,15,16,17,18,19,20,21,22,23,24,25]) (by kernel_rfl) ?steps (tl:=#[true,true,true,true,true,true,true,true,true,true,true,true,true,true,true,true,true,true,true,true,true,true,true,true,true,true]) (by kernel_rfl) ?fin
              case steps=>
               refine StepsL.cons (ps:= []) rfl (by kernel_rfl) (fun wi hx=> ?_) ?_
               ·intro K hK
                have hX:Ext wa wi:=by(repeat' (first|exact Ext.refl _|(with_reducible assumption)|(with_reducible refine Ext.alloc ?_ _)|(with_reducible refine Ext.setCell ?_ (by first|exact Nat.le_refl _|(dsimp only;omega)|(simp;done)|(simp;omega)) _)|(with_reducible refine Ext.drew ?_)|(with_reducible refine Ext.drewN ?_ _)|(refine Ext.trans ?_ (by with_reducible assumption))))
                have cl0:wi.cell? ⟨g9,0,none⟩=some (.int .i64 x0):=((MA.out.blk (i:=0) rfl).ext hX).cell 0
                have cl1:wi.cell? ⟨g9,1,none⟩=some (.int .i64 x1):=((MA.out.blk (i:=0) rfl).ext hX).cell 1
                have cl2:wi.cell? ⟨g9,2,none⟩=some (.int .i64 x2):=((MA.out.blk (i:=0) rfl).ext hX).cell 2
                have cl3:wi.cell? ⟨g9,3,none⟩=some (.int .i64 x3):=((MA.out.blk (i:=0) rfl).ext hX).cell 3
                go_simp
                exact hK _ _ ⟨.agg #[.int .i64 x0,.int .i64 x1,.int .i64 x2,.int .i64 x3],rfl,rfl,Ext.refl _⟩
               refine StepsL.cons (ps:= [(0,some 63)]) rfl (by kernel_rfl) (fun wi hx=> ?_) ?_
               ·intro v0 h0 K hK
                obtain rfl:=h0
                go_simp
                refine(HBV.out _).mono ?_
                rintro e w5 ⟨rfl,hx5⟩
                go_simp
                exact hK _ _ ⟨.bool true,rfl,rfl,hx5⟩
               refine StepsL.cons (ps:= [(1,some 64)]) rfl (by kernel_rfl) (fun wi hx=> ?_) ?_
               ·intro v1 h1 K hK
                obtain rfl:=h1
                go_simp
                exact hK _ _ ⟨.bool false,rfl,rfl,Ext.refl _⟩
               refine StepsL.cons (ps:= [(2,some 65)]) rfl (by kernel_rfl) (fun wi hx=> ?_) ?_
               ·intro v2 h2 K hK
                obtain rfl:=h2
                go_simp
                exact hK _ _ ⟨.bool false,rfl,rfl,Ext.refl _⟩
               refine StepsL.cons (ps:= [(3,some 66)]) rfl (by kernel_rfl) (fun wi hx=> ?_) ?_
               ·intro v3 h3 K hK
                obtain rfl:=h3
                go_simp
                exact hK _ _ ⟨.pointer (some ⟨w.heap.size,2,none⟩),rfl,rfl,Ext.refl _⟩
               refine StepsL.cons (ps:= [(3,some 66),(4,some 67)]) rfl (by kernel_rfl) (fun wi hx=> ?_) ?_
               ·intro v3 h3 v4 h4 K hK
                obtain rfl:=h3
                obtain rfl:=h4
                have hX:Ext wa wi:=by(repeat' (first|exact Ext.refl _|(with_reducible assumption)|(with_reducible refine Ext.alloc ?_ _)|(with_reducible refine Ext.setCell ?_ (by first|exact Nat.le_refl _|(dsimp only;omega)|(simp;done)|(simp;omega)) _)|(with_reducible refine Ext.drew ?_)|(with_reducible refine Ext.drewN ?_ _)|(refine Ext.trans ?_ (by with_reducible assumption))))
                have cl0:wi.cell? ⟨w.heap.size,2,none⟩=some (.slice (some ⟨b,off,none⟩) m2 d2):=((MA.out.blk (i:=1) rfl).ext hX).cell 2
                go_simp
                exact hK _ _ ⟨.slice (some ⟨b,off,none⟩) m2 d2,rfl,rfl,Ext.refl _⟩
               refine StepsL.cons (ps:= [(3,some 66)]) rfl (by kernel_rfl) (fun wi hx=> ?_) ?_
               ·intro v3 h3 K hK
                obtain rfl:=h3
                go_simp
                exact hK _ _ ⟨.int .i64 (k:Int),rfl,rfl,Ext.refl _⟩
               refine StepsL.cons (ps:= [(3,some 66),(5,some 68),(6,some 69)]) rfl (by kernel_rfl) (fun wi hx=> ?_) ?_
               ·intro v3 h3 v5 h5 v6 h6 K hK
                obtain rfl:=h3
                obtain rfl:=h5
                obtain rfl:=h6
                go_simp
                exact hK _ _ ⟨.slice (some ⟨b,off,none⟩) k d2,rfl,rfl,Ext.refl _⟩
               refine StepsL.cons (ps:= [(3,some 66)]) rfl (by kernel_rfl) (fun wi hx=> ?_) ?_
               ·intro v3 h3 K hK
                obtain rfl:=h3
                go_simp
                exact hK _ _ ⟨.pointer (some ⟨g9,0,none⟩),rfl,rfl,Ext.refl _⟩
               refine StepsL.cons (ps:= [(3,some 66),(8,some 71)]) rfl (by kernel_rfl) (fun wi hx=> ?_) ?_
               ·intro v3 h3 v8 h8 K hK
                obtain rfl:=h3
                obtain rfl:=h8
                have hX:Ext wa wi:=by(repeat' (first|exact Ext.refl _|(with_reducible assumption)|(with_reducible refine Ext.alloc ?_ _)|(with_reducible refine Ext.setCell ?_ (by first|exact Nat.le_refl _|(dsimp only;omega)|(simp;done)|(simp;omega)) _)|(with_reducible refine Ext.drew ?_)|(with_reducible refine Ext.drewN ?_ _)|(refine Ext.trans ?_ (by with_reducible assumption))))
                have cl0:wi.cell? ⟨g9,0,none⟩=some (.int .i64 x0):=((MA.out.blk (i:=0) rfl).ext hX).cell 0
                go_simp
                exact hK _ _ ⟨.int .i64 x0,rfl,rfl,Ext.refl _⟩
               refine StepsL.cons (ps:= [(3,some 66),(7,some 70),(9,some 72)]) rfl (by kernel_rfl) (fun wi hx=> ?_) ?_
               ·intro v3 h3 v7 h7 v9 h9 K hK
                obtain rfl:=h3
                obtain rfl:=h7
                obtain rfl:=h9
                go_simp
                refine(HFR.out _ (MA.out.ext.trans hx.of_drew)).mono ?_
                rintro e w5 ⟨rfl,hx5⟩
                go_simp
                exact hK _ _ ⟨.int .i64 (-1),rfl,rfl,hx5⟩
               refine StepsL.cons (ps:= [(3,some 66),(10,some 73)]) rfl (by kernel_rfl) (fun wi hx=> ?_) ?_
               ·intro v3 h3 v10 h10 K hK
                obtain rfl:=h3
                obtain rfl:=h10
                go_simp
                exact hK _ _ ⟨.bool false,rfl,rfl,Ext.refl _⟩
               refine StepsL.cons (ps:= [(3,some 66),(11,some 74)]) rfl (by kernel_rfl) (fun wi hx=> ?_) ?_
               ·intro v3 h3 v11 h11 K hK
                obtain rfl:=h3
                obtain rfl:=h11
                go_simp
                exact hK _ _ ⟨.bool false,rfl,rfl,Ext.refl _⟩
               refine StepsL.cons (ps:= [(12,some 75)]) rfl (by kernel_rfl) (fun wi hx=> ?_) ?_
               ·intro v12 h12 K hK
                obtain rfl:=h12
                go_simp
                exact hK _ _ ⟨.bool false,rfl,rfl,Ext.refl _⟩
               refine StepsL.cons (ps:= [(13,some 76)]) rfl (by kernel_rfl) (fun wi hx=> ?_) ?_
               ·intro v13 h13 K hK
                obtain rfl:=h13
                go_simp
                exact hK _ _ ⟨.pointer (some ⟨w.heap.size,1,none⟩),rfl,rfl,Ext.refl _⟩
               refine StepsL.cons (ps:= [(13,some 76),(14,some 77)]) rfl (by kernel_rfl) (fun wi hx=> ?_) ?_
               ·intro v13 h13 v14 h14 K hK
                obtain rfl:=h13
                obtain rfl:=h14
                have hX:Ext wa wi:=by(repeat' (first|exact Ext.refl _|(with_reducible assumption)|(with_reducible refine Ext.alloc ?_ _)|(with_reducible refine Ext.setCell ?_ (by first|exact Nat.le_refl _|(dsimp only;omega)|(simp;done)|(simp;omega)) _)|(with_reducible refine Ext.drew ?_)|(with_reducible refine Ext.drewN ?_ _)|(refine Ext.trans ?_ (by with_reducible assumption))))
                have cl0:wi.cell? ⟨w.heap.size,1,none⟩=some (.slice q m c2):=((MA.out.blk (i:=1) rfl).ext hX).cell 1
                go_simp
                exact hK _ _ ⟨.slice q m c2,rfl,rfl,Ext.refl _⟩
               refine StepsL.cons (ps:= [(13,some 76)]) rfl (by kernel_rfl) (fun wi hx=> ?_) ?_
               ·intro v13 h13 K hK
                obtain rfl:=h13
                go_simp
                exact hK _ _ ⟨.pointer (some ⟨g9,0,none⟩),rfl,rfl,Ext.refl _⟩
               refine StepsL.cons (ps:= [(13,some 76),(16,some 79)]) rfl (by kernel_rfl) (fun wi hx=> ?_) ?_
               ·intro v13 h13 v16 h16 K hK
                obtain rfl:=h13
                obtain rfl:=h16
                have hX:Ext wa wi:=by(repeat' (first|exact Ext.refl _|(with_reducible assumption)|(with_reducible refine Ext.alloc ?_ _)|(with_reducible refine Ext.setCell ?_ (by first|exact Nat.le_refl _|(dsimp only;omega)|(simp;done)|(simp;omega)) _)|(with_reducible refine Ext.drew ?_)|(with_reducible refine Ext.drewN ?_ _)|(refine Ext.trans ?_ (by with_reducible assumption))))
                have cl0:wi.cell? ⟨g9,0,none⟩=some (.int .i64 x0):=((MA.out.blk (i:=0) rfl).ext hX).cell 0
                go_simp
                exact hK _ _ ⟨.int .i64 x0,rfl,rfl,Ext.refl _⟩
               refine StepsL.cons (ps:= [(13,some 76),(15,some 78),(17,some 80)]) rfl (by kernel_rfl) (fun wi hx=> ?_) ?_
               ·intro v13 h13 v15 h15 v17 h17 K hK
                obtain rfl:=h13
                obtain rfl:=h15
                obtain rfl:=h17
                go_simp
                refine(HFT.out _ (MA.out.ext.trans hx.of_drew)).mono ?_
                rintro e w5 ⟨rfl,hx5⟩
                go_simp
                exact hK _ _ ⟨.int .i64 X,rfl,rfl,hx5⟩
               refine StepsL.cons (ps:= [(13,some 76),(18,some 81)]) rfl (by kernel_rfl) (fun wi hx=> ?_) ?_
               ·intro v13 h13 v18 h18 K hK
                obtain rfl:=h13
                obtain rfl:=h18
                go_simp
                exact hK _ _ ⟨.bool true,rfl,rfl,Ext.refl _⟩
               refine StepsL.cons (ps:= [(13,some 76),(19,some 82)]) rfl (by kernel_rfl) (fun wi hx=> ?_) ?_
               ·intro v13 h13 v19 h19 K hK
                obtain rfl:=h13
                obtain rfl:=h19
                go_simp
                exact hK _ _ ⟨.bool true,rfl,rfl,Ext.refl _⟩
               refine StepsL.cons (ps:= [(20,some 83)]) rfl (by kernel_rfl) (fun wi hx=> ?_) ?_
               ·intro v20 h20 K hK
                obtain rfl:=h20
                go_simp
                exact hK _ _ ⟨.bool true,rfl,rfl,Ext.refl _⟩
               refine StepsL.cons (ps:= [(21,some 84)]) rfl (by kernel_rfl) (fun wi hx=> ?_) ?_
               ·intro v21 h21 K hK
                obtain rfl:=h21
                go_simp
                exact hK _ _ ⟨undef,rfl,rfl,Ext.refl _⟩
               refine StepsL.cons (ps:= [(21,some 84)]) rfl (by kernel_rfl) (fun wi hx=> ?_) ?_
               ·intro v21 h21 K hK
                obtain rfl:=h21
                go_simp
                exact hK _ _ ⟨undef,rfl,rfl,Ext.refl _⟩
               refine StepsL.cons (ps:= [(21,some 84),(22,some 85),(23,some 86)]) rfl (by kernel_rfl) (fun wi hx=> ?_) ?_
               ·intro v21 h21 v22 h22 v23 h23 K hK
                obtain rfl:=h21
                obtain rfl:=h22
                obtain rfl:=h23
                go_simp
                exact hK _ _ ⟨undef,rfl,rfl,Ext.refl _⟩
               refine StepsL.cons (ps:= [(21,some 84),(24,some 87)]) rfl (by kernel_rfl) (fun wi hx=> ?_) StepsL.nil
               ·intro v21 h21 v24 h24 K hK
                obtain rfl:=h21
                obtain rfl:=h24
                go_simp
                exact hK _ _ ⟨.bool true,rfl,rfl,Ext.refl _⟩
              case fin=>
               intro wi hx v0 h0 v1 h1 v2 h2 v3 h3 v4 h4 v5 h5 v6 h6 v7 h7 v8 h8 v9 h9 v10 h10 v11 h11 v12 h12 v13 h13 v14 h14 v15 h15 v16 h16 v17 h17 v18 h18 v19 h19 v20 h20 v21 h21 v22 h22 v23 h23 v24 h24 v25 h25
               obtain rfl:=h0
               obtain rfl:=h1
               obtain rfl:=h2
               obtain rfl:=h3
               obtain rfl:=h4
               obtain rfl:=h5
               obtain rfl:=h6
               obtain rfl:=h7
               obtain rfl:=h8
               obtain rfl:=h9
               obtain rfl:=h10
               obtain rfl:=h11
               obtain rfl:=h12
               obtain rfl:=h13
               obtain rfl:=h14
               obtain rfl:=h15
               obtain rfl:=h16
               obtain rfl:=h17
               obtain rfl:=h18
               obtain rfl:=h19
               obtain rfl:=h20
               obtain rfl:=h21
               obtain rfl:=h22
               obtain rfl:=h23
               obtain rfl:=h24
               obtain rfl:=h25
               refine wpAny_done (by kernel_rfl) ?_ _
               try simp only[Act.put,List.setIfInBounds_toArray,List.set_cons_zero,List.set_cons_succ]
               have hx':=hx.of_drew
               go_wp2
               go_ret
               exact⟨by rw[hfin.out];rfl,MA.out.ext.trans hx'⟩
             |true=>
              have HFT:Hid (∀w',Ext w w'→Calls Tryd.prog 42 #[.slice q m c2,.int .i64 x0] w' fun e w''=>e= .returned (.int .i64 (-1))∧Ext w' w''):=fun w' hx=>by rw[←vix_neg hnt];exact bookIndex_any x0 q m c2 T w' (HS.out.ext hx)
              have HNT:=Lib.hid hnt
              have hm7:m≤7:=by have:=((booksOk_iff T).1 HBK.out).1;rw[hl.out]at this;exact this
              have HFI0:Hid (∀w',Ext w w'→Calls Tryd.prog 43 #[.agg #[.int .i64 P,.slice q m c2,.slice (some ⟨b,off,none⟩) m2 d2],bookV x0 x1 x2 x3] w' fun e w''=>e= .returned (.bool (deskFits P T (x0,x1,x2,x3)))∧Ext w' w''):=fun w' hx=>canTake_any P q m c2 _ m2 d2 T x0 x1 x2 x3 w' (by omega) (HS.out.ext hx) HUPP (noBook_iff.1 HNT.out)
              clear hnt
              cases hft:deskFits P T (x0,x1,x2,x3)with
              |true=>
               have HFI:Hid (∀w',Ext w w'→Calls Tryd.prog 43 #[.agg #[.int .i64 P,.slice q m c2,.slice (some ⟨b,off,none⟩) m2 d2],bookV x0 x1 x2 x3] w' fun e w''=>e= .returned (.bool true)∧Ext w' w''):=fun w' hx=>by rw[←hft];exact HFI0.out w' hx
               have hfin:=Lib.hid (HRNO.out (by unfold rowOk1;rw[HV.out];simp[hft]))
               clear hft HFI0
               refine region_lin (gl [gEq (.agg #[.int .i64 x0,.int .i64 x1,.int .i64 x2,.int .i64 x3]),gEq (.bool true),gEq (.bool false),gEq (.bool false),gEq (.pointer (some ⟨w.heap.size,2,none⟩)),gEq (.slice (some ⟨b,off,none⟩) m2 d2),gEq (.int .i64 (k:Int)),gEq (.slice (some ⟨b,off,none⟩) k d2),gEq (.pointer (some ⟨g9,0,none⟩)),gEq (.int .i64 x0),gEq (.int .i64 (-1)),gEq (.bool false),gEq (.bool false),gEq (.bool false),gEq (.pointer (some ⟨w.heap.size,1,none⟩)),gEq (.slice q m c2),gEq (.pointer (some ⟨g9,0,none⟩)),gEq (.int .i64 x0),gEq (.int .i64 (-1)),gEq (.bool false),gEq (.bool false),gEq (.bool false),gEq (.agg #[.int .i64 P,.slice q m c2,.slice (some ⟨b,off,none⟩) m2 d2]),gEq (.agg #[.int .i64 x0,.int .i64 x1,.int .i64 x2,.int .i64 x3]),gEq (.bool true),gEq (.bool true)]) 26 (by kernel_rfl) rfl (by kernel_rfl) (by kernel_rfl) (by kernel_rfl) (gl_mono (gl_cons (gEq_mono _) (gl_cons (gEq_mono _) (gl_cons (gEq_mono _) (gl_cons (gEq_mono _) (gl_cons (gEq_mono _) (gl_cons (gEq_mono _) (gl_cons (gEq_mono _) (gl_cons (gEq_mono _) (gl_cons (gEq_mono _) (gl_cons (gEq_mono _) (gl_cons (gEq_mono _) (gl_cons (gEq_mono _) (gl_cons (gEq_mono _) (gl_cons (gEq_mono _) (gl_cons (gEq_mono _) (gl_cons (gEq_mono _) (gl_cons (gEq_mono _) (gl_cons (gEq_mono _) (gl_cons (gEq_mono _) (gl_cons (gEq_mono _) (gl_cons (gEq_mono _) (gl_cons (gEq_mono _) (gl_cons (gEq_mono _) (gl_cons (gEq_mono _) (gl_cons (gEq_mono _) (gl_cons (gEq_mono _) (gl_nil)))))))))))))))))))))))))))) (k:=26) (by kernel_rfl) (by decide) (ls:= [(0,some 63),(1,some 64),(2,some 65),(3,some 66),(4,some 67),(5,some 68),(6,some 69),(7,some 70),(8,some 71),(9,some 72),(10,some 73),(11,some 74),(12,some 75),(13,some 76),(14,some 77),(15,some 78),(16,some 79),(17,some 80),(18,some 81),(19,some 82),(20,some 83),(21,some 84),(22,some 85),(23,some 86),(24,some 87),(25,some 88)]) (by kernel_rfl) (ir:= [0,1,2,3,4,5,6,7,8,9,10,11,12,13,14,15,16,17,18,19,20,21,22,23,24,25]) (by kernel_rfl) ?steps (tl:=#[true,true,true,true,true,true,true,true,true,true,true,true,true,true,true,true,true,true,true,true,true,true,true,true,true,true]) (by kernel_rfl) ?fin
               case steps=>
                refine StepsL.cons (ps:= []) rfl (by kernel_rfl) (fun wi hx=> ?_) ?_
                ·intro K hK
                 have hX:Ext wa wi:=by(repeat' (first|exact Ext.refl _|(with_reducible assumption)|(with_reducible refine Ext.alloc ?_ _)|(with_reducible refine Ext.setCell ?_ (by first|exact Nat.le_refl _|(dsimp only;omega)|(simp;done)|(simp;omega)) _)|(with_reducible refine Ext.drew ?_)|(with_reducible refine Ext.drewN ?_ _)|(refine Ext.trans ?_ (by with_reducible assumption))))
                 have cl0:wi.cell? ⟨g9,0,none⟩=some (.int .i64 x0):=((MA.out.blk (i:=0) rfl).ext hX).cell 0
                 have cl1:wi.cell? ⟨g9,1,none⟩=some (.int .i64 x1):=((MA.out.blk (i:=0) rfl).ext hX).cell 1
                 have cl2:wi.cell? ⟨g9,2,none⟩=some (.int .i64 x2):=((MA.out.blk (i:=0) rfl).ext hX).cell 2
                 have cl3:wi.cell? ⟨g9,3,none⟩=some (.int .i64 x3):=((MA.out.blk (i:=0) rfl).ext hX).cell 3
                 go_simp
                 exact hK _ _ ⟨.agg #[.int .i64 x0,.int .i64 x1,.int .i64 x2,.int .i64 x3],rfl,rfl,Ext.refl _⟩
                refine StepsL.cons (ps:= [(0,some 63)]) rfl (by kernel_rfl) (fun wi hx=> ?_) ?_
                ·intro v0 h0 K hK
                 obtain rfl:=h0
                 go_simp
                 refine(HBV.out _).mono ?_
                 rintro e w5 ⟨rfl,hx5⟩
                 go_simp
                 exact hK _ _ ⟨.bool true,rfl,rfl,hx5⟩
                refine StepsL.cons (ps:= [(1,some 64)]) rfl (by kernel_rfl) (fun wi hx=> ?_) ?_
                ·intro v1 h1 K hK
                 obtain rfl:=h1
                 go_simp
                 exact hK _ _ ⟨.bool false,rfl,rfl,Ext.refl _⟩
                refine StepsL.cons (ps:= [(2,some 65)]) rfl (by kernel_rfl) (fun wi hx=> ?_) ?_
                ·intro v2 h2 K hK
                 obtain rfl:=h2
                 go_simp
                 exact hK _ _ ⟨.bool false,rfl,rfl,Ext.refl _⟩
                refine StepsL.cons (ps:= [(3,some 66)]) rfl (by kernel_rfl) (fun wi hx=> ?_) ?_
                ·intro v3 h3 K hK
                 obtain rfl:=h3
                 go_simp
                 exact hK _ _ ⟨.pointer (some ⟨w.heap.size,2,none⟩),rfl,rfl,Ext.refl _⟩
                refine StepsL.cons (ps:= [(3,some 66),(4,some 67)]) rfl (by kernel_rfl) (fun wi hx=> ?_) ?_
                ·intro v3 h3 v4 h4 K hK
                 obtain rfl:=h3
                 obtain rfl:=h4
                 have hX:Ext wa wi:=by(repeat' (first|exact Ext.refl _|(with_reducible assumption)|(with_reducible refine Ext.alloc ?_ _)|(with_reducible refine Ext.setCell ?_ (by first|exact Nat.le_refl _|(dsimp only;omega)|(simp;done)|(simp;omega)) _)|(with_reducible refine Ext.drew ?_)|(with_reducible refine Ext.drewN ?_ _)|(refine Ext.trans ?_ (by with_reducible assumption))))
                 have cl0:wi.cell? ⟨w.heap.size,2,none⟩=some (.slice (some ⟨b,off,none⟩) m2 d2):=((MA.out.blk (i:=1) rfl).ext hX).cell 2
                 go_simp
                 exact hK _ _ ⟨.slice (some ⟨b,off,none⟩) m2 d2,rfl,rfl,Ext.refl _⟩
                refine StepsL.cons (ps:= [(3,some 66)]) rfl (by kernel_rfl) (fun wi hx=> ?_) ?_
                ·intro v3 h3 K hK
                 obtain rfl:=h3
                 go_simp
                 exact hK _ _ ⟨.int .i64 (k:Int),rfl,rfl,Ext.refl _⟩
                refine StepsL.cons (ps:= [(3,some 66),(5,some 68),(6,some 69)]) rfl (by kernel_rfl) (fun wi hx=> ?_) ?_
                ·intro v3 h3 v5 h5 v6 h6 K hK
                 obtain rfl:=h3
                 obtain rfl:=h5
                 obtain rfl:=h6
                 go_simp
                 exact hK _ _ ⟨.slice (some ⟨b,off,none⟩) k d2,rfl,rfl,Ext.refl _⟩
                refine StepsL.cons (ps:= [(3,some 66)]) rfl (by kernel_rfl) (fun wi hx=> ?_) ?_
                ·intro v3 h3 K hK
                 obtain rfl:=h3
                 go_simp
                 exact hK _ _ ⟨.pointer (some ⟨g9,0,none⟩),rfl,rfl,Ext.refl _⟩
                refine StepsL.cons (ps:= [(3,some 66),(8,some 71)]) rfl (by kernel_rfl) (fun wi hx=> ?_) ?_
                ·intro v3 h3 v8 h8 K hK
                 obtain rfl:=h3
                 obtain rfl:=h8
                 have hX:Ext wa wi:=by(repeat' (first|exact Ext.refl _|(with_reducible assumption)|(with_reducible refine Ext.alloc ?_ _)|(with_reducible refine Ext.setCell ?_ (by first|exact Nat.le_refl _|(dsimp only;omega)|(simp;done)|(simp;omega)) _)|(with_reducible refine Ext.drew ?_)|(with_reducible refine Ext.drewN ?_ _)|(refine Ext.trans ?_ (by with_reducible assumption))))
                 have cl0:wi.cell? ⟨g9,0,none⟩=some (.int .i64 x0):=((MA.out.blk (i:=0) rfl).ext hX).cell 0
                 go_simp
                 exact hK _ _ ⟨.int .i64 x0,rfl,rfl,Ext.refl _⟩
                refine StepsL.cons (ps:= [(3,some 66),(7,some 70),(9,some 72)]) rfl (by kernel_rfl) (fun wi hx=> ?_) ?_
                ·intro v3 h3 v7 h7 v9 h9 K hK
                 obtain rfl:=h3
                 obtain rfl:=h7
                 obtain rfl:=h9
                 go_simp
                 refine(HFR.out _ (MA.out.ext.trans hx.of_drew)).mono ?_
                 rintro e w5 ⟨rfl,hx5⟩
                 go_simp
                 exact hK _ _ ⟨.int .i64 (-1),rfl,rfl,hx5⟩
                refine StepsL.cons (ps:= [(3,some 66),(10,some 73)]) rfl (by kernel_rfl) (fun wi hx=> ?_) ?_
                ·intro v3 h3 v10 h10 K hK
                 obtain rfl:=h3
                 obtain rfl:=h10
                 go_simp
                 exact hK _ _ ⟨.bool false,rfl,rfl,Ext.refl _⟩
                refine StepsL.cons (ps:= [(3,some 66),(11,some 74)]) rfl (by kernel_rfl) (fun wi hx=> ?_) ?_
                ·intro v3 h3 v11 h11 K hK
                 obtain rfl:=h3
                 obtain rfl:=h11
                 go_simp
                 exact hK _ _ ⟨.bool false,rfl,rfl,Ext.refl _⟩
                refine StepsL.cons (ps:= [(12,some 75)]) rfl (by kernel_rfl) (fun wi hx=> ?_) ?_
                ·intro v12 h12 K hK
                 obtain rfl:=h12
                 go_simp
                 exact hK _ _ ⟨.bool false,rfl,rfl,Ext.refl _⟩
                refine StepsL.cons (ps:= [(13,some 76)]) rfl (by kernel_rfl) (fun wi hx=> ?_) ?_
                ·intro v13 h13 K hK
                 obtain rfl:=h13
                 go_simp
                 exact hK _ _ ⟨.pointer (some ⟨w.heap.size,1,none⟩),rfl,rfl,Ext.refl _⟩
                refine StepsL.cons (ps:= [(13,some 76),(14,some 77)]) rfl (by kernel_rfl) (fun wi hx=> ?_) ?_
                ·intro v13 h13 v14 h14 K hK
                 obtain rfl:=h13
                 obtain rfl:=h14
                 have hX:Ext wa wi:=by(repeat' (first|exact Ext.refl _|(with_reducible assumption)|(with_reducible refine Ext.alloc ?_ _)|(with_reducible refine Ext.setCell ?_ (by first|exact Nat.le_refl _|(dsimp only;omega)|(simp;done)|(simp;omega)) _)|(with_reducible refine Ext.drew ?_)|(with_reducible refine Ext.drewN ?_ _)|(refine Ext.trans ?_ (by with_reducible assumption))))
                 have cl0:wi.cell? ⟨w.heap.size,1,none⟩=some (.slice q m c2):=((MA.out.blk (i:=1) rfl).ext hX).cell 1
                 go_simp
                 exact hK _ _ ⟨.slice q m c2,rfl,rfl,Ext.refl _⟩
                refine StepsL.cons (ps:= [(13,some 76)]) rfl (by kernel_rfl) (fun wi hx=> ?_) ?_
                ·intro v13 h13 K hK
                 obtain rfl:=h13
                 go_simp
                 exact hK _ _ ⟨.pointer (some ⟨g9,0,none⟩),rfl,rfl,Ext.refl _⟩
                refine StepsL.cons (ps:= [(13,some 76),(16,some 79)]) rfl (by kernel_rfl) (fun wi hx=> ?_) ?_
                ·intro v13 h13 v16 h16 K hK
                 obtain rfl:=h13
                 obtain rfl:=h16
                 have hX:Ext wa wi:=by(repeat' (first|exact Ext.refl _|(with_reducible assumption)|(with_reducible refine Ext.alloc ?_ _)|(with_reducible refine Ext.setCell ?_ (by first|exact Nat.le_refl _|(dsimp only;omega)|(simp;done)|(simp;omega)) _)|(with_reducible refine Ext.drew ?_)|(with_reducible refine Ext.drewN ?_ _)|(refine Ext.trans ?_ (by with_reducible assumption))))
                 have cl0:wi.cell? ⟨g9,0,none⟩=some (.int .i64 x0):=((MA.out.blk (i:=0) rfl).ext hX).cell 0
                 go_simp
                 exact hK _ _ ⟨.int .i64 x0,rfl,rfl,Ext.refl _⟩
                refine StepsL.cons (ps:= [(13,some 76),(15,some 78),(17,some 80)]) rfl (by kernel_rfl) (fun wi hx=> ?_) ?_
                ·intro v13 h13 v15 h15 v17 h17 K hK
                 obtain rfl:=h13
                 obtain rfl:=h15
                 obtain rfl:=h17
                 go_simp
                 refine(HFT.out _ (MA.out.ext.trans hx.of_drew)).mono ?_
                 rintro e w5 ⟨rfl,hx5⟩
                 go_simp
                 exact hK _ _ ⟨.int .i64 (-1),rfl,rfl,hx5⟩
                refine StepsL.cons (ps:= [(13,some 76),(18,some 81)]) rfl (by kernel_rfl) (fun wi hx=> ?_) ?_
                ·intro v13 h13 v18 h18 K hK
                 obtain rfl:=h13
                 obtain rfl:=h18
                 go_simp
                 exact hK _ _ ⟨.bool false,rfl,rfl,Ext.refl _⟩
                refine StepsL.cons (ps:= [(13,some 76),(19,some 82)]) rfl (by kernel_rfl) (fun wi hx=> ?_) ?_
                ·intro v13 h13 v19 h19 K hK
                 obtain rfl:=h13
                 obtain rfl:=h19
                 go_simp
                 exact hK _ _ ⟨.bool false,rfl,rfl,Ext.refl _⟩
                refine StepsL.cons (ps:= [(20,some 83)]) rfl (by kernel_rfl) (fun wi hx=> ?_) ?_
                ·intro v20 h20 K hK
                 obtain rfl:=h20
                 go_simp
                 exact hK _ _ ⟨.bool false,rfl,rfl,Ext.refl _⟩
                refine StepsL.cons (ps:= [(21,some 84)]) rfl (by kernel_rfl) (fun wi hx=> ?_) ?_
                ·intro v21 h21 K hK
                 obtain rfl:=h21
                 have hX:Ext wa wi:=by(repeat' (first|exact Ext.refl _|(with_reducible assumption)|(with_reducible refine Ext.alloc ?_ _)|(with_reducible refine Ext.setCell ?_ (by first|exact Nat.le_refl _|(dsimp only;omega)|(simp;done)|(simp;omega)) _)|(with_reducible refine Ext.drew ?_)|(with_reducible refine Ext.drewN ?_ _)|(refine Ext.trans ?_ (by with_reducible assumption))))
                 obtain⟨cl0,cl1,cl2⟩:=(((MA.out.blk (i:=1) rfl).ext hX)).tri
                 go_simp
                 exact hK _ _ ⟨.agg #[.int .i64 P,.slice q m c2,.slice (some ⟨b,off,none⟩) m2 d2],rfl,rfl,Ext.refl _⟩
                refine StepsL.cons (ps:= [(21,some 84)]) rfl (by kernel_rfl) (fun wi hx=> ?_) ?_
                ·intro v21 h21 K hK
                 obtain rfl:=h21
                 have hX:Ext wa wi:=by(repeat' (first|exact Ext.refl _|(with_reducible assumption)|(with_reducible refine Ext.alloc ?_ _)|(with_reducible refine Ext.setCell ?_ (by first|exact Nat.le_refl _|(dsimp only;omega)|(simp;done)|(simp;omega)) _)|(with_reducible refine Ext.drew ?_)|(with_reducible refine Ext.drewN ?_ _)|(refine Ext.trans ?_ (by with_reducible assumption))))
                 have cl0:wi.cell? ⟨g9,0,none⟩=some (.int .i64 x0):=((MA.out.blk (i:=0) rfl).ext hX).cell 0
                 have cl1:wi.cell? ⟨g9,1,none⟩=some (.int .i64 x1):=((MA.out.blk (i:=0) rfl).ext hX).cell 1
                 have cl2:wi.cell? ⟨g9,2,none⟩=some (.int .i64 x2):=((MA.out.blk (i:=0) rfl).ext hX).cell 2
                 have cl3:wi.cell? ⟨g9,3,none⟩=some (.int .i64 x3):=((MA.out.blk (i:=0) rfl).ext hX).cell 3
                 go_simp
                 exact hK _ _ ⟨.agg #[.int .i64 x0,.int .i64 x1,.int .i64 x2,.int .i64 x3],rfl,rfl,Ext.refl _⟩
                refine StepsL.cons (ps:= [(21,some 84),(22,some 85),(23,some 86)]) rfl (by kernel_rfl) (fun wi hx=> ?_) ?_
                ·intro v21 h21 v22 h22 v23 h23 K hK
                 obtain rfl:=h21
                 obtain rfl:=h22
                 obtain rfl:=h23
                 go_simp
                 refine(HFI.out _ (MA.out.ext.trans hx.of_drew)).mono ?_
                 rintro e w5 ⟨rfl,hx5⟩
                 go_simp
                 exact hK _ _ ⟨.bool true,rfl,rfl,hx5⟩
                refine StepsL.cons (ps:= [(21,some 84),(24,some 87)]) rfl (by kernel_rfl) (fun wi hx=> ?_) StepsL.nil
                ·intro v21 h21 v24 h24 K hK
                 obtain rfl:=h21
                 obtain rfl:=h24
                 go_simp
                 exact hK _ _ ⟨.bool true,rfl,rfl,Ext.refl _⟩
               case fin=>
                intro wi hx v0 h0 v1 h1 v2 h2 v3 h3 v4 h4 v5 h5 v6 h6 v7 h7 v8 h8 v9 h9 v10 h10 v11 h11 v12 h12 v13 h13 v14 h14 v15 h15 v16 h16 v17 h17 v18 h18 v19 h19 v20 h20 v21 h21 v22 h22 v23 h23 v24 h24 v25 h25
                obtain rfl:=h0
                obtain rfl:=h1
                obtain rfl:=h2
                obtain rfl:=h3
                obtain rfl:=h4
                obtain rfl:=h5
                obtain rfl:=h6
                obtain rfl:=h7
                obtain rfl:=h8
                obtain rfl:=h9
                obtain rfl:=h10
                obtain rfl:=h11
                obtain rfl:=h12
                obtain rfl:=h13
                obtain rfl:=h14
                obtain rfl:=h15
                obtain rfl:=h16
                obtain rfl:=h17
                obtain rfl:=h18
                obtain rfl:=h19
                obtain rfl:=h20
                obtain rfl:=h21
                obtain rfl:=h22
                obtain rfl:=h23
                obtain rfl:=h24
                obtain rfl:=h25
                refine wpAny_done (by kernel_rfl) ?_ _
                try simp only[Act.put,List.setIfInBounds_toArray,List.set_cons_zero,List.set_cons_succ]
                have hx':=hx.of_drew
                go_wp2
                go_ret
                exact⟨by rw[hfin.out];rfl,MA.out.ext.trans hx'⟩
              |false=>
               have HFI:Hid (∀w',Ext w w'→Calls Tryd.prog 43 #[.agg #[.int .i64 P,.slice q m c2,.slice (some ⟨b,off,none⟩) m2 d2],bookV x0 x1 x2 x3] w' fun e w''=>e= .returned (.bool false)∧Ext w' w''):=fun w' hx=>by rw[←hft];exact HFI0.out w' hx
               have hnx:Hid (∀j,j<k+1→rowOk1 P T R j=true):=by
                intro j hj
                by_cases e:j=k
                ·subst e;unfold rowOk1;rw[HV.out];simp[HBVK.out,HNR.out,HNT.out,hft]
                ·exact HROW.out j (by omega)
               clear hft HFI0
               refine region_lin (gl [gEq (.agg #[.int .i64 x0,.int .i64 x1,.int .i64 x2,.int .i64 x3]),gEq (.bool true),gEq (.bool false),gEq (.bool false),gEq (.pointer (some ⟨w.heap.size,2,none⟩)),gEq (.slice (some ⟨b,off,none⟩) m2 d2),gEq (.int .i64 (k:Int)),gEq (.slice (some ⟨b,off,none⟩) k d2),gEq (.pointer (some ⟨g9,0,none⟩)),gEq (.int .i64 x0),gEq (.int .i64 (-1)),gEq (.bool false),gEq (.bool false),gEq (.bool false),gEq (.pointer (some ⟨w.heap.size,1,none⟩)),gEq (.slice q m c2),gEq (.pointer (some ⟨g9,0,none⟩)),gEq (.int .i64 x0),gEq (.int .i64 (-1)),gEq (.bool false),gEq (.bool false),gEq (.bool false),gEq (.agg #[.int .i64 P,.slice q m c2,.slice (some ⟨b,off,none⟩) m2 d2]),gEq (.agg #[.int .i64 x0,.int .i64 x1,.int .i64 x2,.int .i64 x3]),gEq (.bool false),gEq (.bool false)]) 26 (by kernel_rfl) rfl (by kernel_rfl) (by kernel_rfl) (by kernel_rfl) (gl_mono (gl_cons (gEq_mono _) (gl_cons (gEq_mono _) (gl_cons (gEq_mono _) (gl_cons (gEq_mono _) (gl_cons (gEq_mono _) (gl_cons (gEq_mono _) (gl_cons (gEq_mono _) (gl_cons (gEq_mono _) (gl_cons (gEq_mono _) (gl_cons (gEq_mono _) (gl_cons (gEq_mono _) (gl_cons (gEq_mono _) (gl_cons (gEq_mono _) (gl_cons (gEq_mono _) (gl_cons (gEq_mono _) (gl_cons (gEq_mono _) (gl_cons (gEq_mono _) (gl_cons (gEq_mono _) (gl_cons (gEq_mono _) (gl_cons (gEq_mono _) (gl_cons (gEq_mono _) (gl_cons (gEq_mono _) (gl_cons (gEq_mono _) (gl_cons (gEq_mono _) (gl_cons (gEq_mono _) (gl_cons (gEq_mono _) (gl_nil)))))))))))))))))))))))))))) (k:=26) (by kernel_rfl) (by decide) (ls:= [(0,some 63),(1,some 64),(2,some 65),(3,some 66),(4,some 67),(5,some 68),(6,some 69),(7,some 70),(8,some 71),(9,some 72),(10,some 73),(11,some 74),(12,some 75),(13,some 76),(14,some 77),(15,some 78),(16,some 79),(17,some 80),(18,some 81),(19,some 82),(20,some 83),(21,some 84),(22,some 85),(23,some 86),(24,some 87),(25,some 88)]) (by kernel_rfl) (ir:= [0,1,2,3,4,5,6,7,8,9,10,11,12,13,14,15,16,17,18,19,20,21,22,23,24,25]) (by kernel_rfl) ?steps (tl:=#[true,true,true,true,true,true,true,true,true,true,true,true,true,true,true,true,true,true,true,true,true,true,true,true,true,true]) (by kernel_rfl) ?fin
               case steps=>
                refine StepsL.cons (ps:= []) rfl (by kernel_rfl) (fun wi hx=> ?_) ?_
                ·intro K hK
                 have hX:Ext wa wi:=by(repeat' (first|exact Ext.refl _|(with_reducible assumption)|(with_reducible refine Ext.alloc ?_ _)|(with_reducible refine Ext.setCell ?_ (by first|exact Nat.le_refl _|(dsimp only;omega)|(simp;done)|(simp;omega)) _)|(with_reducible refine Ext.drew ?_)|(with_reducible refine Ext.drewN ?_ _)|(refine Ext.trans ?_ (by with_reducible assumption))))
                 have cl0:wi.cell? ⟨g9,0,none⟩=some (.int .i64 x0):=((MA.out.blk (i:=0) rfl).ext hX).cell 0
                 have cl1:wi.cell? ⟨g9,1,none⟩=some (.int .i64 x1):=((MA.out.blk (i:=0) rfl).ext hX).cell 1
                 have cl2:wi.cell? ⟨g9,2,none⟩=some (.int .i64 x2):=((MA.out.blk (i:=0) rfl).ext hX).cell 2
                 have cl3:wi.cell? ⟨g9,3,none⟩=some (.int .i64 x3):=((MA.out.blk (i:=0) rfl).ext hX).cell 3
                 go_simp
                 exact hK _ _ ⟨.agg #[.int .i64 x0,.int .i64 x1,.int .i64 x2,.int .i64 x3],rfl,rfl,Ext.refl _⟩
                refine StepsL.cons (ps:= [(0,some 63)]) rfl (by kernel_rfl) (fun wi hx=> ?_) ?_
                ·intro v0 h0 K hK
                 obtain rfl:=h0
                 go_simp
                 refine(HBV.out _).mono ?_
                 rintro e w5 ⟨rfl,hx5⟩
                 go_simp
                 exact hK _ _ ⟨.bool true,rfl,rfl,hx5⟩
                refine StepsL.cons (ps:= [(1,some 64)]) rfl (by kernel_rfl) (fun wi hx=> ?_) ?_
                ·intro v1 h1 K hK
                 obtain rfl:=h1
                 go_simp
                 exact hK _ _ ⟨.bool false,rfl,rfl,Ext.refl _⟩
                refine StepsL.cons (ps:= [(2,some 65)]) rfl (by kernel_rfl) (fun wi hx=> ?_) ?_
                ·intro v2 h2 K hK
                 obtain rfl:=h2
                 go_simp
                 exact hK _ _ ⟨.bool false,rfl,rfl,Ext.refl _⟩
                refine StepsL.cons (ps:= [(3,some 66)]) rfl (by kernel_rfl) (fun wi hx=> ?_) ?_
                ·intro v3 h3 K hK
                 obtain rfl:=h3
                 go_simp
                 exact hK _ _ ⟨.pointer (some ⟨w.heap.size,2,none⟩),rfl,rfl,Ext.refl _⟩
                refine StepsL.cons (ps:= [(3,some 66),(4,some 67)]) rfl (by kernel_rfl) (fun wi hx=> ?_) ?_
                ·intro v3 h3 v4 h4 K hK
                 obtain rfl:=h3
                 obtain rfl:=h4
                 have hX:Ext wa wi:=by(repeat' (first|exact Ext.refl _|(with_reducible assumption)|(with_reducible refine Ext.alloc ?_ _)|(with_reducible refine Ext.setCell ?_ (by first|exact Nat.le_refl _|(dsimp only;omega)|(simp;done)|(simp;omega)) _)|(with_reducible refine Ext.drew ?_)|(with_reducible refine Ext.drewN ?_ _)|(refine Ext.trans ?_ (by with_reducible assumption))))
                 have cl0:wi.cell? ⟨w.heap.size,2,none⟩=some (.slice (some ⟨b,off,none⟩) m2 d2):=((MA.out.blk (i:=1) rfl).ext hX).cell 2
                 go_simp
                 exact hK _ _ ⟨.slice (some ⟨b,off,none⟩) m2 d2,rfl,rfl,Ext.refl _⟩
                refine StepsL.cons (ps:= [(3,some 66)]) rfl (by kernel_rfl) (fun wi hx=> ?_) ?_
                ·intro v3 h3 K hK
                 obtain rfl:=h3
                 go_simp
                 exact hK _ _ ⟨.int .i64 (k:Int),rfl,rfl,Ext.refl _⟩
                refine StepsL.cons (ps:= [(3,some 66),(5,some 68),(6,some 69)]) rfl (by kernel_rfl) (fun wi hx=> ?_) ?_
                ·intro v3 h3 v5 h5 v6 h6 K hK
                 obtain rfl:=h3
                 obtain rfl:=h5
                 obtain rfl:=h6
                 go_simp
                 exact hK _ _ ⟨.slice (some ⟨b,off,none⟩) k d2,rfl,rfl,Ext.refl _⟩
                refine StepsL.cons (ps:= [(3,some 66)]) rfl (by kernel_rfl) (fun wi hx=> ?_) ?_
                ·intro v3 h3 K hK
                 obtain rfl:=h3
                 go_simp
                 exact hK _ _ ⟨.pointer (some ⟨g9,0,none⟩),rfl,rfl,Ext.refl _⟩
                refine StepsL.cons (ps:= [(3,some 66),(8,some 71)]) rfl (by kernel_rfl) (fun wi hx=> ?_) ?_
                ·intro v3 h3 v8 h8 K hK
                 obtain rfl:=h3
                 obtain rfl:=h8
                 have hX:Ext wa wi:=by(repeat' (first|exact Ext.refl _|(with_reducible assumption)|(with_reducible refine Ext.alloc ?_ _)|(with_reducible refine Ext.setCell ?_ (by first|exact Nat.le_refl _|(dsimp only;omega)|(simp;done)|(simp;omega)) _)|(with_reducible refine Ext.drew ?_)|(with_reducible refine Ext.drewN ?_ _)|(refine Ext.trans ?_ (by with_reducible assumption))))
                 have cl0:wi.cell? ⟨g9,0,none⟩=some (.int .i64 x0):=((MA.out.blk (i:=0) rfl).ext hX).cell 0
                 go_simp
                 exact hK _ _ ⟨.int .i64 x0,rfl,rfl,Ext.refl _⟩
                refine StepsL.cons (ps:= [(3,some 66),(7,some 70),(9,some 72)]) rfl (by kernel_rfl) (fun wi hx=> ?_) ?_
                ·intro v3 h3 v7 h7 v9 h9 K hK
                 obtain rfl:=h3
                 obtain rfl:=h7
                 obtain rfl:=h9
                 go_simp
                 refine(HFR.out _ (MA.out.ext.trans hx.of_drew)).mono ?_
                 rintro e w5 ⟨rfl,hx5⟩
                 go_simp
                 exact hK _ _ ⟨.int .i64 (-1),rfl,rfl,hx5⟩
                refine StepsL.cons (ps:= [(3,some 66),(10,some 73)]) rfl (by kernel_rfl) (fun wi hx=> ?_) ?_
                ·intro v3 h3 v10 h10 K hK
                 obtain rfl:=h3
                 obtain rfl:=h10
                 go_simp
                 exact hK _ _ ⟨.bool false,rfl,rfl,Ext.refl _⟩
                refine StepsL.cons (ps:= [(3,some 66),(11,some 74)]) rfl (by kernel_rfl) (fun wi hx=> ?_) ?_
                ·intro v3 h3 v11 h11 K hK
                 obtain rfl:=h3
                 obtain rfl:=h11
                 go_simp
                 exact hK _ _ ⟨.bool false,rfl,rfl,Ext.refl _⟩
                refine StepsL.cons (ps:= [(12,some 75)]) rfl (by kernel_rfl) (fun wi hx=> ?_) ?_
                ·intro v12 h12 K hK
                 obtain rfl:=h12
                 go_simp
                 exact hK _ _ ⟨.bool false,rfl,rfl,Ext.refl _⟩
                refine StepsL.cons (ps:= [(13,some 76)]) rfl (by kernel_rfl) (fun wi hx=> ?_) ?_
                ·intro v13 h13 K hK
                 obtain rfl:=h13
                 go_simp
                 exact hK _ _ ⟨.pointer (some ⟨w.heap.size,1,none⟩),rfl,rfl,Ext.refl _⟩
                refine StepsL.cons (ps:= [(13,some 76),(14,some 77)]) rfl (by kernel_rfl) (fun wi hx=> ?_) ?_
                ·intro v13 h13 v14 h14 K hK
                 obtain rfl:=h13
                 obtain rfl:=h14
                 have hX:Ext wa wi:=by(repeat' (first|exact Ext.refl _|(with_reducible assumption)|(with_reducible refine Ext.alloc ?_ _)|(with_reducible refine Ext.setCell ?_ (by first|exact Nat.le_refl _|(dsimp only;omega)|(simp;done)|(simp;omega)) _)|(with_reducible refine Ext.drew ?_)|(with_reducible refine Ext.drewN ?_ _)|(refine Ext.trans ?_ (by with_reducible assumption))))
                 have cl0:wi.cell? ⟨w.heap.size,1,none⟩=some (.slice q m c2):=((MA.out.blk (i:=1) rfl).ext hX).cell 1
                 go_simp
                 exact hK _ _ ⟨.slice q m c2,rfl,rfl,Ext.refl _⟩
                refine StepsL.cons (ps:= [(13,some 76)]) rfl (by kernel_rfl) (fun wi hx=> ?_) ?_
                ·intro v13 h13 K hK
                 obtain rfl:=h13
                 go_simp
                 exact hK _ _ ⟨.pointer (some ⟨g9,0,none⟩),rfl,rfl,Ext.refl _⟩
                refine StepsL.cons (ps:= [(13,some 76),(16,some 79)]) rfl (by kernel_rfl) (fun wi hx=> ?_) ?_
                ·intro v13 h13 v16 h16 K hK
                 obtain rfl:=h13
                 obtain rfl:=h16
                 have hX:Ext wa wi:=by(repeat' (first|exact Ext.refl _|(with_reducible assumption)|(with_reducible refine Ext.alloc ?_ _)|(with_reducible refine Ext.setCell ?_ (by first|exact Nat.le_refl _|(dsimp only;omega)|(simp;done)|(simp;omega)) _)|(with_reducible refine Ext.drew ?_)|(with_reducible refine Ext.drewN ?_ _)|(refine Ext.trans ?_ (by with_reducible assumption))))
                 have cl0:wi.cell? ⟨g9,0,none⟩=some (.int .i64 x0):=((MA.out.blk (i:=0) rfl).ext hX).cell 0
                 go_simp
                 exact hK _ _ ⟨.int .i64 x0,rfl,rfl,Ext.refl _⟩
                refine StepsL.cons (ps:= [(13,some 76),(15,some 78),(17,some 80)]) rfl (by kernel_rfl) (fun wi hx=> ?_) ?_
                ·intro v13 h13 v15 h15 v17 h17 K hK
                 obtain rfl:=h13
                 obtain rfl:=h15
                 obtain rfl:=h17
                 go_simp
                 refine(HFT.out _ (MA.out.ext.trans hx.of_drew)).mono ?_
                 rintro e w5 ⟨rfl,hx5⟩
                 go_simp
                 exact hK _ _ ⟨.int .i64 (-1),rfl,rfl,hx5⟩
                refine StepsL.cons (ps:= [(13,some 76),(18,some 81)]) rfl (by kernel_rfl) (fun wi hx=> ?_) ?_
                ·intro v13 h13 v18 h18 K hK
                 obtain rfl:=h13
                 obtain rfl:=h18
                 go_simp
                 exact hK _ _ ⟨.bool false,rfl,rfl,Ext.refl _⟩
                refine StepsL.cons (ps:= [(13,some 76),(19,some 82)]) rfl (by kernel_rfl) (fun wi hx=> ?_) ?_
                ·intro v13 h13 v19 h19 K hK
                 obtain rfl:=h13
                 obtain rfl:=h19
                 go_simp
                 exact hK _ _ ⟨.bool false,rfl,rfl,Ext.refl _⟩
                refine StepsL.cons (ps:= [(20,some 83)]) rfl (by kernel_rfl) (fun wi hx=> ?_) ?_
                ·intro v20 h20 K hK
                 obtain rfl:=h20
                 go_simp
                 exact hK _ _ ⟨.bool false,rfl,rfl,Ext.refl _⟩
                refine StepsL.cons (ps:= [(21,some 84)]) rfl (by kernel_rfl) (fun wi hx=> ?_) ?_
                ·intro v21 h21 K hK
                 obtain rfl:=h21
                 have hX:Ext wa wi:=by(repeat' (first|exact Ext.refl _|(with_reducible assumption)|(with_reducible refine Ext.alloc ?_ _)|(with_reducible refine Ext.setCell ?_ (by first|exact Nat.le_refl _|(dsimp only;omega)|(simp;done)|(simp;omega)) _)|(with_reducible refine Ext.drew ?_)|(with_reducible refine Ext.drewN ?_ _)|(refine Ext.trans ?_ (by with_reducible assumption))))
                 obtain⟨cl0,cl1,cl2⟩:=(((MA.out.blk (i:=1) rfl).ext hX)).tri
                 go_simp
                 exact hK _ _ ⟨.agg #[.int .i64 P,.slice q m c2,.slice (some ⟨b,off,none⟩) m2 d2],rfl,rfl,Ext.refl _⟩
                refine StepsL.cons (ps:= [(21,some 84)]) rfl (by kernel_rfl) (fun wi hx=> ?_) ?_
                ·intro v21 h21 K hK
                 obtain rfl:=h21
                 have hX:Ext wa wi:=by(repeat' (first|exact Ext.refl _|(with_reducible assumption)|(with_reducible refine Ext.alloc ?_ _)|(with_reducible refine Ext.setCell ?_ (by first|exact Nat.le_refl _|(dsimp only;omega)|(simp;done)|(simp;omega)) _)|(with_reducible refine Ext.drew ?_)|(with_reducible refine Ext.drewN ?_ _)|(refine Ext.trans ?_ (by with_reducible assumption))))
                 have cl0:wi.cell? ⟨g9,0,none⟩=some (.int .i64 x0):=((MA.out.blk (i:=0) rfl).ext hX).cell 0
                 have cl1:wi.cell? ⟨g9,1,none⟩=some (.int .i64 x1):=((MA.out.blk (i:=0) rfl).ext hX).cell 1
                 have cl2:wi.cell? ⟨g9,2,none⟩=some (.int .i64 x2):=((MA.out.blk (i:=0) rfl).ext hX).cell 2
                 have cl3:wi.cell? ⟨g9,3,none⟩=some (.int .i64 x3):=((MA.out.blk (i:=0) rfl).ext hX).cell 3
                 go_simp
                 exact hK _ _ ⟨.agg #[.int .i64 x0,.int .i64 x1,.int .i64 x2,.int .i64 x3],rfl,rfl,Ext.refl _⟩
                refine StepsL.cons (ps:= [(21,some 84),(22,some 85),(23,some 86)]) rfl (by kernel_rfl) (fun wi hx=> ?_) ?_
                ·intro v21 h21 v22 h22 v23 h23 K hK
                 obtain rfl:=h21
                 obtain rfl:=h22
                 obtain rfl:=h23
                 go_simp
                 refine(HFI.out _ (MA.out.ext.trans hx.of_drew)).mono ?_
                 rintro e w5 ⟨rfl,hx5⟩
                 go_simp
                 exact hK _ _ ⟨.bool false,rfl,rfl,hx5⟩
                refine StepsL.cons (ps:= [(21,some 84),(24,some 87)]) rfl (by kernel_rfl) (fun wi hx=> ?_) StepsL.nil
                ·intro v21 h21 v24 h24 K hK
                 obtain rfl:=h21
                 obtain rfl:=h24
                 go_simp
                 exact hK _ _ ⟨.bool false,rfl,rfl,Ext.refl _⟩
               case fin=>
                intro wi hx v0 h0 v1 h1 v2 h2 v3 h3 v4 h4 v5 h5 v6 h6 v7 h7 v8 h8 v9 h9 v10 h10 v11 h11 v12 h12 v13 h13 v14 h14 v15 h15 v16 h16 v17 h17 v18 h18 v19 h19 v20 h20 v21 h21 v22 h22 v23 h23 v24 h24 v25 h25
                obtain rfl:=h0
                obtain rfl:=h1
                obtain rfl:=h2
                obtain rfl:=h3
                obtain rfl:=h4
                obtain rfl:=h5
                obtain rfl:=h6
                obtain rfl:=h7
                obtain rfl:=h8
                obtain rfl:=h9
                obtain rfl:=h10
                obtain rfl:=h11
                obtain rfl:=h12
                obtain rfl:=h13
                obtain rfl:=h14
                obtain rfl:=h15
                obtain rfl:=h16
                obtain rfl:=h17
                obtain rfl:=h18
                obtain rfl:=h19
                obtain rfl:=h20
                obtain rfl:=h21
                obtain rfl:=h22
                obtain rfl:=h23
                obtain rfl:=h24
                obtain rfl:=h25
                refine wpAny_done (by kernel_rfl) ?_ _
                try simp only[Act.put,List.setIfInBounds_toArray,List.set_cons_zero,List.set_cons_succ]
                have hx':=hx.of_drew
                have HN:=Lib.hid (show Mem w wi [blkI w.heap.size (w.heap.size) 25 #[.int .i64 P,.slice q m c2,.slice (some ⟨b,off,none⟩) m2 d2]]from(MA.out.adv hx').pick [1] (by decide) rfl)
                clear MA hx hx'
                go_wp2
                go_roundw
                case rel=>exact⟨k+1,by omega,by go_num,hnx.out,HN.out⟩
                case measure=>simp[intOf];omega
          ·obtain rfl:k=m2:=by omega
           have hfin:Hid (deskValid ⟨P,T,R⟩=true):=by
            show _=_
            refine desk_whole ⟨hp1,hp7⟩ HBK.out (by show booksMost T≤P;rw[HMX.out];omega) (by show R.length≤5;rw[hl2.out];omega) hUP.out ?_
            simp only[rowGo,List.all_eq_true,List.mem_range]
            intro j hj
            exact HROW.out j (by rw[hl2.out]at hj;exact hj)
           obtain⟨ce0,ce1,ce2⟩:=(HMm.out.blk (i:=0) rfl).tri
           go_wp2
           go_ret
           exact⟨by rw[hfin.out];rfl,HMm.out.ext⟩
  ·have hfin:Hid (deskValid ⟨P,T,R⟩=false):=by
    show _=_
    cases hq:deskValid ⟨P,T,R⟩with
    |false=>rfl
    |true=>
     exfalso
     obtain⟨z1,z2,z3,z4,z5,z6⟩:=desk_parts hq
     dsimp only at z1 z2 z3 z4 z5 z6
     omega
   have t1:decide (P<1)=false:=by simp;omega
   have t2:decide (7<P)=true:=by simp;omega
   go_enter Tryd.func10,Tryd.ntmps10
   go_wp2
   refine region_lin (gl [gEq (.pointer (some ⟨w.heap.size,0,none⟩)),gEq (.int .i64 P),gEq (.bool false),gEq (.bool false),gEq (.pointer (some ⟨w.heap.size,0,none⟩)),gEq (.int .i64 P),gEq (.bool true),gEq (.bool true),gEq (.bool true),gEq (undef),gEq (undef),gEq (undef),gEq (undef),gEq (.bool true),gEq (.bool true),gEq (undef),gEq (undef),gEq (undef),gEq (undef),gEq (undef),gEq (undef),gEq (.bool true),gEq (.bool true),gEq (undef),gEq (undef),gEq (undef),gEq (undef),gEq (.bool true)]) 28 (by kernel_rfl) rfl (by kernel_rfl) (by kernel_rfl) (by kernel_rfl) (gl_mono (gl_cons (gEq_mono _) (gl_cons (gEq_mono _) (gl_cons (gEq_mono _) (gl_cons (gEq_mono _) (gl_cons (gEq_mono _) (gl_cons (gEq_mono _) (gl_cons (gEq_mono _) (gl_cons (gEq_mono _) (gl_cons (gEq_mono _) (gl_cons (gEq_mono _) (gl_cons (gEq_mono _) (gl_cons (gEq_mono _) (gl_cons (gEq_mono _) (gl_cons (gEq_mono _) (gl_cons (gEq_mono _) (gl_cons (gEq_mono _) (gl_cons (gEq_mono _) (gl_cons (gEq_mono _) (gl_cons (gEq_mono _) (gl_cons (gEq_mono _) (gl_cons (gEq_mono _) (gl_cons (gEq_mono _) (gl_cons (gEq_mono _) (gl_cons (gEq_mono _) (gl_cons (gEq_mono _) (gl_cons (gEq_mono _) (gl_cons (gEq_mono _) (gl_cons (gEq_mono _) (gl_nil)))))))))))))))))))))))))))))) (k:=28) (by kernel_rfl) (by decide) (ls:= [(0,some 6),(1,some 7),(2,some 8),(3,some 9),(4,some 10),(5,some 11),(6,some 12),(7,some 13),(8,some 14),(9,some 15),(10,some 16),(11,some 17),(12,some 18),(13,some 19),(14,some 20),(15,some 21),(16,some 22),(17,some 23),(18,some 24),(19,some 25),(20,some 26),(21,some 27),(22,some 28),(23,some 29),(24,some 30),(25,some 31),(26,some 32),(27,some 33)]) (by kernel_rfl) (ir:= [0,1,2,3,4,5,6,7,8,9,10,11,12,13,14,15,16,17,18,19,20,21,22,23,24,25,26,27]) (by kernel_rfl) ?steps (tl:=#[true,true,true,true,true,true,true,true,true,true,true,true,true,true,true,true,true,true,true,true,true,true,true,true,true,true,true,true]) (by kernel_rfl) ?fin
   case steps=>
    refine StepsL.cons (ps:= []) rfl (by kernel_rfl) (fun wi hx=> ?_) ?_
    ·intro K hK
     go_simp
     exact hK _ _ ⟨.pointer (some ⟨w.heap.size,0,none⟩),rfl,rfl,Ext.refl _⟩
    refine StepsL.cons (ps:= [(0,some 6)]) rfl (by kernel_rfl) (fun wi hx=> ?_) ?_
    ·intro v0 h0 K hK
     obtain rfl:=h0
     have hX:Ext (w.alloc (.cells #[.int .i64 P,.slice q m c2,.slice q2 m2 d2] 25)) wi:=by(repeat' (first|exact Ext.refl _|(with_reducible assumption)|(with_reducible refine Ext.alloc ?_ _)|(with_reducible refine Ext.setCell ?_ (by first|exact Nat.le_refl _|(dsimp only;omega)|(simp;done)|(simp;omega)) _)|(with_reducible refine Ext.drew ?_)|(with_reducible refine Ext.drewN ?_ _)|(refine Ext.trans ?_ (by with_reducible assumption))))
     have cl0:wi.cell? ⟨w.heap.size,0,none⟩=some (.int .i64 P):=((Blk.new w 25 #[.int .i64 P,.slice q m c2,.slice q2 m2 d2]).ext hX).cell 0
     go_simp
     exact hK _ _ ⟨.int .i64 P,rfl,rfl,Ext.refl _⟩
    refine StepsL.cons (ps:= [(1,some 7)]) rfl (by kernel_rfl) (fun wi hx=> ?_) ?_
    ·intro v1 h1 K hK
     obtain rfl:=h1
     go_simp
     exact hK _ _ ⟨.bool false,rfl,rfl,Ext.refl _⟩
    refine StepsL.cons (ps:= [(2,some 8)]) rfl (by kernel_rfl) (fun wi hx=> ?_) ?_
    ·intro v2 h2 K hK
     obtain rfl:=h2
     go_simp
     exact hK _ _ ⟨.bool false,rfl,rfl,Ext.refl _⟩
    refine StepsL.cons (ps:= [(3,some 9)]) rfl (by kernel_rfl) (fun wi hx=> ?_) ?_
    ·intro v3 h3 K hK
     obtain rfl:=h3
     go_simp
     exact hK _ _ ⟨.pointer (some ⟨w.heap.size,0,none⟩),rfl,rfl,Ext.refl _⟩
    refine StepsL.cons (ps:= [(3,some 9),(4,some 10)]) rfl (by kernel_rfl) (fun wi hx=> ?_) ?_
    ·intro v3 h3 v4 h4 K hK
     obtain rfl:=h3
     obtain rfl:=h4
     have hX:Ext (w.alloc (.cells #[.int .i64 P,.slice q m c2,.slice q2 m2 d2] 25)) wi:=by(repeat' (first|exact Ext.refl _|(with_reducible assumption)|(with_reducible refine Ext.alloc ?_ _)|(with_reducible refine Ext.setCell ?_ (by first|exact Nat.le_refl _|(dsimp only;omega)|(simp;done)|(simp;omega)) _)|(with_reducible refine Ext.drew ?_)|(with_reducible refine Ext.drewN ?_ _)|(refine Ext.trans ?_ (by with_reducible assumption))))
     have cl0:wi.cell? ⟨w.heap.size,0,none⟩=some (.int .i64 P):=((Blk.new w 25 #[.int .i64 P,.slice q m c2,.slice q2 m2 d2]).ext hX).cell 0
     go_simp
     exact hK _ _ ⟨.int .i64 P,rfl,rfl,Ext.refl _⟩
    refine StepsL.cons (ps:= [(3,some 9),(5,some 11)]) rfl (by kernel_rfl) (fun wi hx=> ?_) ?_
    ·intro v3 h3 v5 h5 K hK
     obtain rfl:=h3
     obtain rfl:=h5
     go_simp
     exact hK _ _ ⟨.bool true,rfl,rfl,Ext.refl _⟩
    refine StepsL.cons (ps:= [(3,some 9),(6,some 12)]) rfl (by kernel_rfl) (fun wi hx=> ?_) ?_
    ·intro v3 h3 v6 h6 K hK
     obtain rfl:=h3
     obtain rfl:=h6
     go_simp
     exact hK _ _ ⟨.bool true,rfl,rfl,Ext.refl _⟩
    refine StepsL.cons (ps:= [(7,some 13)]) rfl (by kernel_rfl) (fun wi hx=> ?_) ?_
    ·intro v7 h7 K hK
     obtain rfl:=h7
     go_simp
     exact hK _ _ ⟨.bool true,rfl,rfl,Ext.refl _⟩
    refine StepsL.cons (ps:= [(8,some 14)]) rfl (by kernel_rfl) (fun wi hx=> ?_) ?_
    ·intro v8 h8 K hK
     obtain rfl:=h8
     go_simp
     exact hK _ _ ⟨undef,rfl,rfl,Ext.refl _⟩
    refine StepsL.cons (ps:= [(8,some 14),(9,some 15)]) rfl (by kernel_rfl) (fun wi hx=> ?_) ?_
    ·intro v8 h8 v9 h9 K hK
     obtain rfl:=h8
     obtain rfl:=h9
     go_simp
     exact hK _ _ ⟨undef,rfl,rfl,Ext.refl _⟩
    refine StepsL.cons (ps:= [(8,some 14),(10,some 16)]) rfl (by kernel_rfl) (fun wi hx=> ?_) ?_
    ·intro v8 h8 v10 h10 K hK
     obtain rfl:=h8
     obtain rfl:=h10
     go_simp
     exact hK _ _ ⟨undef,rfl,rfl,Ext.refl _⟩
    refine StepsL.cons (ps:= [(8,some 14),(11,some 17)]) rfl (by kernel_rfl) (fun wi hx=> ?_) ?_
    ·intro v8 h8 v11 h11 K hK
     obtain rfl:=h8
     obtain rfl:=h11
     go_simp
     exact hK _ _ ⟨undef,rfl,rfl,Ext.refl _⟩
    refine StepsL.cons (ps:= [(8,some 14),(12,some 18)]) rfl (by kernel_rfl) (fun wi hx=> ?_) ?_
    ·intro v8 h8 v12 h12 K hK
     obtain rfl:=h8
     obtain rfl:=h12
     go_simp
     exact hK _ _ ⟨.bool true,rfl,rfl,Ext.refl _⟩
    refine StepsL.cons (ps:= [(13,some 19)]) rfl (by kernel_rfl) (fun wi hx=> ?_) ?_
    ·intro v13 h13 K hK
     obtain rfl:=h13
     go_simp
     exact hK _ _ ⟨.bool true,rfl,rfl,Ext.refl _⟩
    refine StepsL.cons (ps:= [(14,some 20)]) rfl (by kernel_rfl) (fun wi hx=> ?_) ?_
    ·intro v14 h14 K hK
     obtain rfl:=h14
     go_simp
     exact hK _ _ ⟨undef,rfl,rfl,Ext.refl _⟩
    refine StepsL.cons (ps:= [(14,some 20),(15,some 21)]) rfl (by kernel_rfl) (fun wi hx=> ?_) ?_
    ·intro v14 h14 v15 h15 K hK
     obtain rfl:=h14
     obtain rfl:=h15
     go_simp
     exact hK _ _ ⟨undef,rfl,rfl,Ext.refl _⟩
    refine StepsL.cons (ps:= [(14,some 20),(16,some 22)]) rfl (by kernel_rfl) (fun wi hx=> ?_) ?_
    ·intro v14 h14 v16 h16 K hK
     obtain rfl:=h14
     obtain rfl:=h16
     go_simp
     exact hK _ _ ⟨undef,rfl,rfl,Ext.refl _⟩
    refine StepsL.cons (ps:= [(14,some 20)]) rfl (by kernel_rfl) (fun wi hx=> ?_) ?_
    ·intro v14 h14 K hK
     obtain rfl:=h14
     go_simp
     exact hK _ _ ⟨undef,rfl,rfl,Ext.refl _⟩
    refine StepsL.cons (ps:= [(14,some 20),(18,some 24)]) rfl (by kernel_rfl) (fun wi hx=> ?_) ?_
    ·intro v14 h14 v18 h18 K hK
     obtain rfl:=h14
     obtain rfl:=h18
     go_simp
     exact hK _ _ ⟨undef,rfl,rfl,Ext.refl _⟩
    refine StepsL.cons (ps:= [(14,some 20),(17,some 23),(19,some 25)]) rfl (by kernel_rfl) (fun wi hx=> ?_) ?_
    ·intro v14 h14 v17 h17 v19 h19 K hK
     obtain rfl:=h14
     obtain rfl:=h17
     obtain rfl:=h19
     go_simp
     exact hK _ _ ⟨undef,rfl,rfl,Ext.refl _⟩
    refine StepsL.cons (ps:= [(14,some 20),(20,some 26)]) rfl (by kernel_rfl) (fun wi hx=> ?_) ?_
    ·intro v14 h14 v20 h20 K hK
     obtain rfl:=h14
     obtain rfl:=h20
     go_simp
     exact hK _ _ ⟨.bool true,rfl,rfl,Ext.refl _⟩
    refine StepsL.cons (ps:= [(21,some 27)]) rfl (by kernel_rfl) (fun wi hx=> ?_) ?_
    ·intro v21 h21 K hK
     obtain rfl:=h21
     go_simp
     exact hK _ _ ⟨.bool true,rfl,rfl,Ext.refl _⟩
    refine StepsL.cons (ps:= [(22,some 28)]) rfl (by kernel_rfl) (fun wi hx=> ?_) ?_
    ·intro v22 h22 K hK
     obtain rfl:=h22
     go_simp
     exact hK _ _ ⟨undef,rfl,rfl,Ext.refl _⟩
    refine StepsL.cons (ps:= [(22,some 28),(23,some 29)]) rfl (by kernel_rfl) (fun wi hx=> ?_) ?_
    ·intro v22 h22 v23 h23 K hK
     obtain rfl:=h22
     obtain rfl:=h23
     go_simp
     exact hK _ _ ⟨undef,rfl,rfl,Ext.refl _⟩
    refine StepsL.cons (ps:= [(22,some 28),(24,some 30)]) rfl (by kernel_rfl) (fun wi hx=> ?_) ?_
    ·intro v22 h22 v24 h24 K hK
     obtain rfl:=h22
     obtain rfl:=h24
     go_simp
     exact hK _ _ ⟨undef,rfl,rfl,Ext.refl _⟩
    refine StepsL.cons (ps:= [(22,some 28),(25,some 31)]) rfl (by kernel_rfl) (fun wi hx=> ?_) ?_
    ·intro v22 h22 v25 h25 K hK
     obtain rfl:=h22
     obtain rfl:=h25
     go_simp
     exact hK _ _ ⟨undef,rfl,rfl,Ext.refl _⟩
    refine StepsL.cons (ps:= [(22,some 28),(26,some 32)]) rfl (by kernel_rfl) (fun wi hx=> ?_) StepsL.nil
    ·intro v22 h22 v26 h26 K hK
     obtain rfl:=h22
     obtain rfl:=h26
     go_simp
     exact hK _ _ ⟨.bool true,rfl,rfl,Ext.refl _⟩
   case fin=>
    intro wi hx v0 h0 v1 h1 v2 h2 v3 h3 v4 h4 v5 h5 v6 h6 v7 h7 v8 h8 v9 h9 v10 h10 v11 h11 v12 h12 v13 h13 v14 h14 v15 h15 v16 h16 v17 h17 v18 h18 v19 h19 v20 h20 v21 h21 v22 h22 v23 h23 v24 h24 v25 h25 v26 h26 v27 h27
    obtain rfl:=h0
    obtain rfl:=h1
    obtain rfl:=h2
    obtain rfl:=h3
    obtain rfl:=h4
    obtain rfl:=h5
    obtain rfl:=h6
    obtain rfl:=h7
    obtain rfl:=h8
    obtain rfl:=h9
    obtain rfl:=h10
    obtain rfl:=h11
    obtain rfl:=h12
    obtain rfl:=h13
    obtain rfl:=h14
    obtain rfl:=h15
    obtain rfl:=h16
    obtain rfl:=h17
    obtain rfl:=h18
    obtain rfl:=h19
    obtain rfl:=h20
    obtain rfl:=h21
    obtain rfl:=h22
    obtain rfl:=h23
    obtain rfl:=h24
    obtain rfl:=h25
    obtain rfl:=h26
    obtain rfl:=h27
    refine wpAny_done (by kernel_rfl) ?_ _
    try simp only[Act.put,List.setIfInBounds_toArray,List.set_cons_zero,List.set_cons_succ]
    have hx':=hx.of_drew
    go_wp2
    go_ret
    exact⟨by rw[hfin.out];rfl,Ext.trans (by(repeat' (first|exact Ext.refl _|(with_reducible assumption)|(with_reducible refine Ext.alloc ?_ _)|(with_reducible refine Ext.setCell ?_ (by first|exact Nat.le_refl _|(dsimp only;omega)|(simp;done)|(simp;omega)) _)|(with_reducible refine Ext.drew ?_)|(with_reducible refine Ext.drewN ?_ _)|(refine Ext.trans ?_ (by with_reducible assumption))))) hx'⟩
 ·have hfin:Hid (deskValid ⟨P,T,R⟩=false):=by
   show _=_
   cases hq:deskValid ⟨P,T,R⟩with
   |false=>rfl
   |true=>
    exfalso
    obtain⟨z1,z2,z3,z4,z5,z6⟩:=desk_parts hq
    dsimp only at z1 z2 z3 z4 z5 z6
    omega
  have t1:decide (P<1)=true:=by simp;omega
  go_enter Tryd.func10,Tryd.ntmps10
  go_wp2
  refine region_lin (gl [gEq (.pointer (some ⟨w.heap.size,0,none⟩)),gEq (.int .i64 P),gEq (.bool true),gEq (.bool true),gEq (undef),gEq (undef),gEq (undef),gEq (.bool true),gEq (.bool true),gEq (undef),gEq (undef),gEq (undef),gEq (undef),gEq (.bool true),gEq (.bool true),gEq (undef),gEq (undef),gEq (undef),gEq (undef),gEq (undef),gEq (undef),gEq (.bool true),gEq (.bool true),gEq (undef),gEq (undef),gEq (undef),gEq (undef),gEq (.bool true)]) 28 (by kernel_rfl) rfl (by kernel_rfl) (by kernel_rfl) (by kernel_rfl) (gl_mono (gl_cons (gEq_mono _) (gl_cons (gEq_mono _) (gl_cons (gEq_mono _) (gl_cons (gEq_mono _) (gl_cons (gEq_mono _) (gl_cons (gEq_mono _) (gl_cons (gEq_mono _) (gl_cons (gEq_mono _) (gl_cons (gEq_mono _) (gl_cons (gEq_mono _) (gl_cons (gEq_mono _) (gl_cons (gEq_mono _) (gl_cons (gEq_mono _) (gl_cons (gEq_mono _) (gl_cons (gEq_mono _) (gl_cons (gEq_mono _) (gl_cons (gEq_mono _) (gl_cons (gEq_mono _) (gl_cons (gEq_mono _) (gl_cons (gEq_mono _) (gl_cons (gEq_mono _) (gl_cons (gEq_mono _) (gl_cons (gEq_mono _) (gl_cons (gEq_mono _) (gl_cons (gEq_mono _) (gl_cons (gEq_mono _) (gl_cons (gEq_mono _) (gl_cons (gEq_mono _) (gl_nil)))))))))))))))))))))))))))))) (k:=28) (by kernel_rfl) (by decide) (ls:= [(0,some 6),(1,some 7),(2,some 8),(3,some 9),(4,some 10),(5,some 11),(6,some 12),(7,some 13),(8,some 14),(9,some 15),(10,some 16),(11,some 17),(12,some 18),(13,some 19),(14,some 20),(15,some 21),(16,some 22),(17,some 23),(18,some 24),(19,some 25),(20,some 26),(21,some 27),(22,some 28),(23,some 29),(24,some 30),(25,some 31),(26,some 32),(27,some 33)]) (by kernel_rfl) (ir:= [0,1,2,3,4,5,6,7,8,9,10,11,12,13,14,15,16,17,18,19,20,21,22,23,24,25,26,27]) (by kernel_rfl) ?steps (tl:=#[true,true,true,true,true,true,true,true,true,true,true,true,true,true,true,true,true,true,true,true,true,true,true,true,true,true,true,true]) (by kernel_rfl) ?fin
  case steps=>
   refine StepsL.cons (ps:= []) rfl (by kernel_rfl) (fun wi hx=> ?_) ?_
   ·intro K hK
    go_simp
    exact hK _ _ ⟨.pointer (some ⟨w.heap.size,0,none⟩),rfl,rfl,Ext.refl _⟩
   refine StepsL.cons (ps:= [(0,some 6)]) rfl (by kernel_rfl) (fun wi hx=> ?_) ?_
   ·intro v0 h0 K hK
    obtain rfl:=h0
    have hX:Ext (w.alloc (.cells #[.int .i64 P,.slice q m c2,.slice q2 m2 d2] 25)) wi:=by(repeat' (first|exact Ext.refl _|(with_reducible assumption)|(with_reducible refine Ext.alloc ?_ _)|(with_reducible refine Ext.setCell ?_ (by first|exact Nat.le_refl _|(dsimp only;omega)|(simp;done)|(simp;omega)) _)|(with_reducible refine Ext.drew ?_)|(with_reducible refine Ext.drewN ?_ _)|(refine Ext.trans ?_ (by with_reducible assumption))))
    have cl0:wi.cell? ⟨w.heap.size,0,none⟩=some (.int .i64 P):=((Blk.new w 25 #[.int .i64 P,.slice q m c2,.slice q2 m2 d2]).ext hX).cell 0
    go_simp
    exact hK _ _ ⟨.int .i64 P,rfl,rfl,Ext.refl _⟩
   refine StepsL.cons (ps:= [(1,some 7)]) rfl (by kernel_rfl) (fun wi hx=> ?_) ?_
   ·intro v1 h1 K hK
    obtain rfl:=h1
    go_simp
    exact hK _ _ ⟨.bool true,rfl,rfl,Ext.refl _⟩
   refine StepsL.cons (ps:= [(2,some 8)]) rfl (by kernel_rfl) (fun wi hx=> ?_) ?_
   ·intro v2 h2 K hK
    obtain rfl:=h2
    go_simp
    exact hK _ _ ⟨.bool true,rfl,rfl,Ext.refl _⟩
   refine StepsL.cons (ps:= [(3,some 9)]) rfl (by kernel_rfl) (fun wi hx=> ?_) ?_
   ·intro v3 h3 K hK
    obtain rfl:=h3
    go_simp
    exact hK _ _ ⟨undef,rfl,rfl,Ext.refl _⟩
   refine StepsL.cons (ps:= [(3,some 9),(4,some 10)]) rfl (by kernel_rfl) (fun wi hx=> ?_) ?_
   ·intro v3 h3 v4 h4 K hK
    obtain rfl:=h3
    obtain rfl:=h4
    go_simp
    exact hK _ _ ⟨undef,rfl,rfl,Ext.refl _⟩
   refine StepsL.cons (ps:= [(3,some 9),(5,some 11)]) rfl (by kernel_rfl) (fun wi hx=> ?_) ?_
   ·intro v3 h3 v5 h5 K hK
    obtain rfl:=h3
    obtain rfl:=h5
    go_simp
    exact hK _ _ ⟨undef,rfl,rfl,Ext.refl _⟩
   refine StepsL.cons (ps:= [(3,some 9),(6,some 12)]) rfl (by kernel_rfl) (fun wi hx=> ?_) ?_
   ·intro v3 h3 v6 h6 K hK
    obtain rfl:=h3
    obtain rfl:=h6
    go_simp
    exact hK _ _ ⟨.bool true,rfl,rfl,Ext.refl _⟩
   refine StepsL.cons (ps:= [(7,some 13)]) rfl (by kernel_rfl) (fun wi hx=> ?_) ?_
   ·intro v7 h7 K hK
    obtain rfl:=h7
    go_simp
    exact hK _ _ ⟨.bool true,rfl,rfl,Ext.refl _⟩
   refine StepsL.cons (ps:= [(8,some 14)]) rfl (by kernel_rfl) (fun wi hx=> ?_) ?_
   ·intro v8 h8 K hK
    obtain rfl:=h8
    go_simp
    exact hK _ _ ⟨undef,rfl,rfl,Ext.refl _⟩
   refine StepsL.cons (ps:= [(8,some 14),(9,some 15)]) rfl (by kernel_rfl) (fun wi hx=> ?_) ?_
   ·intro v8 h8 v9 h9 K hK
    obtain rfl:=h8
    obtain rfl:=h9
    go_simp
    exact hK _ _ ⟨undef,rfl,rfl,Ext.refl _⟩
   refine StepsL.cons (ps:= [(8,some 14),(10,some 16)]) rfl (by kernel_rfl) (fun wi hx=> ?_) ?_
   ·intro v8 h8 v10 h10 K hK
    obtain rfl:=h8
    obtain rfl:=h10
    go_simp
    exact hK _ _ ⟨undef,rfl,rfl,Ext.refl _⟩
   refine StepsL.cons (ps:= [(8,some 14),(11,some 17)]) rfl (by kernel_rfl) (fun wi hx=> ?_) ?_
   ·intro v8 h8 v11 h11 K hK
    obtain rfl:=h8
    obtain rfl:=h11
    go_simp
    exact hK _ _ ⟨undef,rfl,rfl,Ext.refl _⟩
   refine StepsL.cons (ps:= [(8,some 14),(12,some 18)]) rfl (by kernel_rfl) (fun wi hx=> ?_) ?_
   ·intro v8 h8 v12 h12 K hK
    obtain rfl:=h8
    obtain rfl:=h12
    go_simp
    exact hK _ _ ⟨.bool true,rfl,rfl,Ext.refl _⟩
   refine StepsL.cons (ps:= [(13,some 19)]) rfl (by kernel_rfl) (fun wi hx=> ?_) ?_
   ·intro v13 h13 K hK
    obtain rfl:=h13
    go_simp
    exact hK _ _ ⟨.bool true,rfl,rfl,Ext.refl _⟩
   refine StepsL.cons (ps:= [(14,some 20)]) rfl (by kernel_rfl) (fun wi hx=> ?_) ?_
   ·intro v14 h14 K hK
    obtain rfl:=h14
    go_simp
    exact hK _ _ ⟨undef,rfl,rfl,Ext.refl _⟩
   refine StepsL.cons (ps:= [(14,some 20),(15,some 21)]) rfl (by kernel_rfl) (fun wi hx=> ?_) ?_
   ·intro v14 h14 v15 h15 K hK
    obtain rfl:=h14
    obtain rfl:=h15
    go_simp
    exact hK _ _ ⟨undef,rfl,rfl,Ext.refl _⟩
   refine StepsL.cons (ps:= [(14,some 20),(16,some 22)]) rfl (by kernel_rfl) (fun wi hx=> ?_) ?_
   ·intro v14 h14 v16 h16 K hK
    obtain rfl:=h14
    obtain rfl:=h16
    go_simp
    exact hK _ _ ⟨undef,rfl,rfl,Ext.refl _⟩
   refine StepsL.cons (ps:= [(14,some 20)]) rfl (by kernel_rfl) (fun wi hx=> ?_) ?_
   ·intro v14 h14 K hK
    obtain rfl:=h14
    go_simp
    exact hK _ _ ⟨undef,rfl,rfl,Ext.refl _⟩
   refine StepsL.cons (ps:= [(14,some 20),(18,some 24)]) rfl (by kernel_rfl) (fun wi hx=> ?_) ?_
   ·intro v14 h14 v18 h18 K hK
    obtain rfl:=h14
    obtain rfl:=h18
    go_simp
    exact hK _ _ ⟨undef,rfl,rfl,Ext.refl _⟩
   refine StepsL.cons (ps:= [(14,some 20),(17,some 23),(19,some 25)]) rfl (by kernel_rfl) (fun wi hx=> ?_) ?_
   ·intro v14 h14 v17 h17 v19 h19 K hK
    obtain rfl:=h14
    obtain rfl:=h17
    obtain rfl:=h19
    go_simp
    exact hK _ _ ⟨undef,rfl,rfl,Ext.refl _⟩
   refine StepsL.cons (ps:= [(14,some 20),(20,some 26)]) rfl (by kernel_rfl) (fun wi hx=> ?_) ?_
   ·intro v14 h14 v20 h20 K hK
    obtain rfl:=h14
    obtain rfl:=h20
    go_simp
    exact hK _ _ ⟨.bool true,rfl,rfl,Ext.refl _⟩
   refine StepsL.cons (ps:= [(21,some 27)]) rfl (by kernel_rfl) (fun wi hx=> ?_) ?_
   ·intro v21 h21 K hK
    obtain rfl:=h21
    go_simp
    exact hK _ _ ⟨.bool true,rfl,rfl,Ext.refl _⟩
   refine StepsL.cons (ps:= [(22,some 28)]) rfl (by kernel_rfl) (fun wi hx=> ?_) ?_
   ·intro v22 h22 K hK
    obtain rfl:=h22
    go_simp
    exact hK _ _ ⟨undef,rfl,rfl,Ext.refl _⟩
   refine StepsL.cons (ps:= [(22,some 28),(23,some 29)]) rfl (by kernel_rfl) (fun wi hx=> ?_) ?_
   ·intro v22 h22 v23 h23 K hK
    obtain rfl:=h22
    obtain rfl:=h23
    go_simp
    exact hK _ _ ⟨undef,rfl,rfl,Ext.refl _⟩
   refine StepsL.cons (ps:= [(22,some 28),(24,some 30)]) rfl (by kernel_rfl) (fun wi hx=> ?_) ?_
   ·intro v22 h22 v24 h24 K hK
    obtain rfl:=h22
    obtain rfl:=h24
    go_simp
    exact hK _ _ ⟨undef,rfl,rfl,Ext.refl _⟩
   refine StepsL.cons (ps:= [(22,some 28),(25,some 31)]) rfl (by kernel_rfl) (fun wi hx=> ?_) ?_
   ·intro v22 h22 v25 h25 K hK
    obtain rfl:=h22
    obtain rfl:=h25
    go_simp
    exact hK _ _ ⟨undef,rfl,rfl,Ext.refl _⟩
   refine StepsL.cons (ps:= [(22,some 28),(26,some 32)]) rfl (by kernel_rfl) (fun wi hx=> ?_) StepsL.nil
   ·intro v22 h22 v26 h26 K hK
    obtain rfl:=h22
    obtain rfl:=h26
    go_simp
    exact hK _ _ ⟨.bool true,rfl,rfl,Ext.refl _⟩
  case fin=>
   intro wi hx v0 h0 v1 h1 v2 h2 v3 h3 v4 h4 v5 h5 v6 h6 v7 h7 v8 h8 v9 h9 v10 h10 v11 h11 v12 h12 v13 h13 v14 h14 v15 h15 v16 h16 v17 h17 v18 h18 v19 h19 v20 h20 v21 h21 v22 h22 v23 h23 v24 h24 v25 h25 v26 h26 v27 h27
   obtain rfl:=h0
   obtain rfl:=h1
   obtain rfl:=h2
   obtain rfl:=h3
   obtain rfl:=h4
   obtain rfl:=h5
   obtain rfl:=h6
   obtain rfl:=h7
   obtain rfl:=h8
   obtain rfl:=h9
   obtain rfl:=h10
   obtain rfl:=h11
   obtain rfl:=h12
   obtain rfl:=h13
   obtain rfl:=h14
   obtain rfl:=h15
   obtain rfl:=h16
   obtain rfl:=h17
   obtain rfl:=h18
   obtain rfl:=h19
   obtain rfl:=h20
   obtain rfl:=h21
   obtain rfl:=h22
   obtain rfl:=h23
   obtain rfl:=h24
   obtain rfl:=h25
   obtain rfl:=h26
   obtain rfl:=h27
   refine wpAny_done (by kernel_rfl) ?_ _
   try simp only[Act.put,List.setIfInBounds_toArray,List.set_cons_zero,List.set_cons_succ]
   have hx':=hx.of_drew
   go_wp2
   go_ret
   exact⟨by rw[hfin.out];rfl,Ext.trans (by(repeat' (first|exact Ext.refl _|(with_reducible assumption)|(with_reducible refine Ext.alloc ?_ _)|(with_reducible refine Ext.setCell ?_ (by first|exact Nat.le_refl _|(dsimp only;omega)|(simp;done)|(simp;omega)) _)|(with_reducible refine Ext.drew ?_)|(with_reducible refine Ext.drewN ?_ _)|(refine Ext.trans ?_ (by with_reducible assumption))))) hx'⟩
end Go.Proofs.YtndcnflchkfaeaaDoor

