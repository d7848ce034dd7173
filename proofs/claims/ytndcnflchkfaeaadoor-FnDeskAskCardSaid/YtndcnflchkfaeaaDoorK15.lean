/-
  Texts of this proof, packed (@packed).
-/
import Derived.Test.YtndcnflchkfaeaaDoorK10
import Derived.Test.YtndcnflchkfaeaaDoorK11
namespace Go.Proofs.YtndcnflchkfaeaaDoor
open Go.RowKit
set_option linter.unusedVariables false
set_option linter.unusedSimpArgs false
theorem desk_parts {d:DeskD}(h:deskValid d=true):(1≤d.places∧d.places≤7)∧booksOk d.taken=true∧booksMost d.taken≤d.places∧d.row.length≤5∧idsUp d.taken=true∧rowGo d.places d.taken d.row=true:=by
 simpa only[deskValid,Bool.and_eq_true,decide_eq_true_eq,and_assoc]using h
theorem desk_whole {d:DeskD}(h1:1≤d.places∧d.places≤7)(h2:booksOk d.taken=true)(h3:booksMost d.taken≤d.places)(h4:d.row.length≤5)(h5:idsUp d.taken=true)(h6:rowGo d.places d.taken d.row=true):deskValid d=true:=by
 simp only[deskValid,Bool.and_eq_true,decide_eq_true_eq]
 exact⟨⟨⟨⟨⟨h1,h2⟩,h3⟩,h4⟩,h5⟩,h6⟩
theorem idsUp_at {T:List Visit4}(h:idsUp T=true){k:Nat}(hk:k+1<T.length):idAt T k<idAt T (k+1):=by
 simp only[idsUp,List.all_eq_true,List.mem_range,decide_eq_true_eq]at h
 exact h k (by omega) hk
theorem rowGo_at {p:Int}{T R:List Visit4}(h:rowGo p T R=true){k:Nat}(hk:k<R.length):rowOk1 p T R k=true:=by
 simp only[rowGo,List.all_eq_true,List.mem_range]at h
 exact h k hk
set_option maxRecDepth 100000 in
set_option maxHeartbeats 8000000 in
theorem specDv (P:Int)(q:Option Addr)(m c2:Nat)(q2:Option Addr)(m2 d2:Nat)(T R:List Visit4)(w:World)(hS:Sl w q m c2 4 (T.flatMap visitCells))(hS2:Sl w q2 m2 d2 4 (R.flatMap visitCells)):
  Calls Tryd.prog 11 #[.agg #[.int .i64 P,.slice q m c2,.slice q2 m2 d2]] w fun e w'=>e= .returned (.bool (deskValid ⟨P,T,R⟩))∧Ext w w':=by
 have hn:=hS.bd
 have hn2:=hS2.bd
 have hl:Hid (T.length=m):=by
  have:=hS.len;rw[flat_len visitCells 4 (fun _=>rfl)]at this;exact(by omega:T.length=m)
 have hl2:Hid (R.length=m2):=by
  have:=hS2.len;rw[flat_len visitCells 4 (fun _=>rfl)]at this;exact(by omega:R.length=m2)
 have HS:=Lib.hid hS
 have HS2:=Lib.hid hS2
 clear hS hS2
 by_cases hp1:1≤P
 ·by_cases hp7:P≤7
  ·have HB0:=Lib.hid (fun w' (hx:Ext w w')=>specBsv q m c2 T w' (HS.out.ext hx))
   have HM0:=Lib.hid (fun w' (hx:Ext w w')=>specBm q m c2 T w' (HS.out.ext hx))
   have HI:Hid (∀w,Calls Tryd.prog 44 #[.int .i64 P,.int .i64 1,.int .i64 7] w fun e w'=>e= .returned (.bool true)∧w=w'):=fun w=>l1In_yes P 1 7 w hp1 hp7
   cases hbk:booksOk T with
   |false=>
    have HB:Hid (∀w',Ext w w'→Calls Tryd.prog 28 #[.slice q m c2] w' fun e w''=>e= .returned (.bool false)∧Ext w' w''):=fun w' hx=>by rw[←hbk];exact HB0.out w' hx
    have hfin:Hid (deskValid ⟨P,T,R⟩=false):=by
     show _=_
     cases hq:deskValid ⟨P,T,R⟩with
     |false=>rfl
     |true=>
      exfalso
      obtain⟨z1,z2,z3,z4,z5,z6⟩:=desk_parts hq
      dsimp only at z1 z2 z3 z4 z5 z6
      rw[hbk]at z2;simp at z2
    clear hbk HB0 HM0
    go_enter Tryd.func11,Tryd.ntmps11
    go_wp2
    refine region_lin (gl [gEq (.pointer (some ⟨w.heap.size,0,none⟩)),gEq (.int .i64 P),gEq (.bool true),gEq (.bool false),gEq (.bool false),gEq (.pointer (some ⟨w.heap.size,1,none⟩)),gEq (.slice q m c2),gEq (.bool false),gEq (.bool true),gEq (.bool true),gEq (.bool true),gEq (undef),gEq (undef),gEq (undef),gEq (undef),gEq (undef),gEq (undef),gEq (.bool true),gEq (.bool true),gEq (undef),gEq (undef),gEq (undef),gEq (undef),gEq (.bool true)]) 24 (by kernel_rfl) rfl (by kernel_rfl) (by kernel_rfl) (by kernel_rfl) (gl_mono (gl_cons (gEq_mono _) (gl_cons (gEq_mono _) (gl_cons (gEq_mono _) (gl_cons (gEq_mono _) (gl_cons (gEq_mono _) (gl_cons (gEq_mono _) (gl_cons (gEq_mono _) (gl_cons (gEq_mono _) (gl_cons (gEq_mono _) (gl_cons (gEq_mono _) (gl_cons (gEq_mono _) (gl_cons (gEq_mono _) (gl_cons (gEq_mono _) (gl_cons (gEq_mono _) (gl_cons (gEq_mono _) (gl_cons (gEq_mono _) (gl_cons (gEq_mono _) (gl_cons (gEq_mono _) (gl_cons (gEq_mono _) (gl_cons (gEq_mono _) (gl_cons (gEq_mono _) (gl_cons (gEq_mono _) (gl_cons (gEq_mono _) (gl_cons (gEq_mono _) (gl_nil)))))))))))))))))))))))))) (k:=24) (by kernel_rfl) (by decide) (ls:= [(0,some 6),(1,some 7),(2,some 8),(3,some 9),(4,some 10),(5,some 11),(6,some 12),(7,some 13),(8,some 14),(9,some 15),(10,some 16),(11,some 17),(12,some 18),(13,some 19),(14,some 20),(15,some 21),(16,some 22),(17,some 23),(18,some 24),(19,some 25),(20,some 26),(21,some 27),(22,some 28),(23,some 29)]) (by kernel_rfl) (ir:= [0,1,2,3,4,5,6,7,8,9,10,11,12,13,14,15,16,17,18,19,20,21,22,23]) (by kernel_rfl) ?steps (tl:=#[true,true,true,true,true,true,true,true,true,true,true,true,true,true,true,true,true,true,true,true,true,true,true,true]) (by kernel_rfl) ?fin
    case steps=>
     refine StepsL.cons (ps:= []) rfl (by kernel_rfl) (fun wi hx=> ?_) ?_
     ·intro K hK
      go_simp
      exact hK _ _ ⟨.pointer (some ⟨w.heap.size,0,none⟩),rfl,rfl,Ext.refl _⟩
     refine StepsL.cons (ps:= [(0,some 6)]) rfl (by kernel_rfl) (fun wi hx=> ?_) ?_
     ·intro v0 h0 K hK
      obtain rfl:=h0
      have hX:Ext (w.alloc (.cells #[.int .i64 P,.slice q m c2,.slice q2 m2 d2] 25)) wi:=by(repeat' (first|exact Ext.refl _|(with_reducible assumption)|(with_reducible refine Ext.alloc ?_ _)|(with_reducible refine Ext.setCell ?_ (by first|exact Nat.le_refl _|(dsimp only;omega)|(simp;done)|(simp;omega)) _)|(with_reducible refine Ext.drew ?_)|(with_reducible refine Ext.drewN ?_ _)|(refine Ext.trans ?_ (by with_reducible assumption))))
      have cl0:wi.cell? ⟨w.heap.size,0,none⟩=some (.int .i64 P):=((Blk.new w 25 #[.int .i64 P,.slice q m c2,.slice q2 m2 d2]).ext hX).cell 0
      go_simp
      exact hK _ _ ⟨.int .i64 P,rfl,rfl,Ext.refl _⟩
     refine StepsL.cons (ps:= [(1,some 7)]) rfl (by kernel_rfl) (fun wi hx=> ?_) ?_
     ·intro v1 h1 K hK
      obtain rfl:=h1
      go_simp
      refine(HI.out _).mono ?_
      rintro e w5 ⟨rfl,rfl⟩
      go_simp
      exact hK _ _ ⟨.bool true,rfl,rfl,Ext.refl _⟩
     refine StepsL.cons (ps:= [(2,some 8)]) rfl (by kernel_rfl) (fun wi hx=> ?_) ?_
     ·intro v2 h2 K hK
      obtain rfl:=h2
      go_simp
      exact hK _ _ ⟨.bool false,rfl,rfl,Ext.refl _⟩
     refine StepsL.cons (ps:= [(3,some 9)]) rfl (by kernel_rfl) (fun wi hx=> ?_) ?_
     ·intro v3 h3 K hK
      obtain rfl:=h3
      go_simp
      exact hK _ _ ⟨.bool false,rfl,rfl,Ext.refl _⟩
     refine StepsL.cons (ps:= [(4,some 10)]) rfl (by kernel_rfl) (fun wi hx=> ?_) ?_
     ·intro v4 h4 K hK
      obtain rfl:=h4
      go_simp
      exact hK _ _ ⟨.pointer (some ⟨w.heap.size,1,none⟩),rfl,rfl,Ext.refl _⟩
     refine StepsL.cons (ps:= [(4,some 10),(5,some 11)]) rfl (by kernel_rfl) (fun wi hx=> ?_) ?_
     ·intro v4 h4 v5 h5 K hK
      obtain rfl:=h4
      obtain rfl:=h5
      have hX:Ext (w.alloc (.cells #[.int .i64 P,.slice q m c2,.slice q2 m2 d2] 25)) wi:=by(repeat' (first|exact Ext.refl _|(with_reducible assumption)|(with_reducible refine Ext.alloc ?_ _)|(with_reducible refine Ext.setCell ?_ (by first|exact Nat.le_refl _|(dsimp only;omega)|(simp;done)|(simp;omega)) _)|(with_reducible refine Ext.drew ?_)|(with_reducible refine Ext.drewN ?_ _)|(refine Ext.trans ?_ (by with_reducible assumption))))
      have cl0:wi.cell? ⟨w.heap.size,1,none⟩=some (.slice q m c2):=((Blk.new w 25 #[.int .i64 P,.slice q m c2,.slice q2 m2 d2]).ext hX).cell 1
      go_simp
      exact hK _ _ ⟨.slice q m c2,rfl,rfl,Ext.refl _⟩
     refine StepsL.cons (ps:= [(4,some 10),(6,some 12)]) rfl (by kernel_rfl) (fun wi hx=> ?_) ?_
     ·intro v4 h4 v6 h6 K hK
      obtain rfl:=h4
      obtain rfl:=h6
      go_simp
      refine(HB.out _ (Ext.trans (by(repeat' (first|exact Ext.refl _|(with_reducible assumption)|(with_reducible refine Ext.alloc ?_ _)|(with_reducible refine Ext.setCell ?_ (by first|exact Nat.le_refl _|(dsimp only;omega)|(simp;done)|(simp;omega)) _)|(with_reducible refine Ext.drew ?_)|(with_reducible refine Ext.drewN ?_ _)|(refine Ext.trans ?_ (by with_reducible assumption))))) hx.of_drew)).mono ?_
      rintro e w5 ⟨rfl,hx5⟩
      go_simp
      exact hK _ _ ⟨.bool false,rfl,rfl,hx5⟩
     refine StepsL.cons (ps:= [(4,some 10),(7,some 13)]) rfl (by kernel_rfl) (fun wi hx=> ?_) ?_
     ·intro v4 h4 v7 h7 K hK
      obtain rfl:=h4
      obtain rfl:=h7
      go_simp
      exact hK _ _ ⟨.bool true,rfl,rfl,Ext.refl _⟩
     refine StepsL.cons (ps:= [(4,some 10),(8,some 14)]) rfl (by kernel_rfl) (fun wi hx=> ?_) ?_
     ·intro v4 h4 v8 h8 K hK
      obtain rfl:=h4
      obtain rfl:=h8
      go_simp
      exact hK _ _ ⟨.bool true,rfl,rfl,Ext.refl _⟩
     refine StepsL.cons (ps:= [(9,some 15)]) rfl (by kernel_rfl) (fun wi hx=> ?_) ?_
     ·intro v9 h9 K hK
      obtain rfl:=h9
      go_simp
      exact hK _ _ ⟨.bool true,rfl,rfl,Ext.refl _⟩
     refine StepsL.cons (ps:= [(10,some 16)]) rfl (by kernel_rfl) (fun wi hx=> ?_) ?_
     ·intro v10 h10 K hK
      obtain rfl:=h10
      go_simp
      exact hK _ _ ⟨undef,rfl,rfl,Ext.refl _⟩
     refine StepsL.cons (ps:= [(10,some 16),(11,some 17)]) rfl (by kernel_rfl) (fun wi hx=> ?_) ?_
     ·intro v10 h10 v11 h11 K hK
      obtain rfl:=h10
      obtain rfl:=h11
      go_simp
      exact hK _ _ ⟨undef,rfl,rfl,Ext.refl _⟩
     refine StepsL.cons (ps:= [(10,some 16),(12,some 18)]) rfl (by kernel_rfl) (fun wi hx=> ?_) ?_
     ·intro v10 h10 v12 h12 K hK
      obtain rfl:=h10
      obtain rfl:=h12
      go_simp
      exact hK _ _ ⟨undef,rfl,rfl,Ext.refl _⟩
     refine StepsL.cons (ps:= [(10,some 16)]) rfl (by kernel_rfl) (fun wi hx=> ?_) ?_
     ·intro v10 h10 K hK
      obtain rfl:=h10
      go_simp
      exact hK _ _ ⟨undef,rfl,rfl,Ext.refl _⟩
     refine StepsL.cons (ps:= [(10,some 16),(14,some 20)]) rfl (by kernel_rfl) (fun wi hx=> ?_) ?_
     ·intro v10 h10 v14 h14 K hK
      obtain rfl:=h10
      obtain rfl:=h14
      go_simp
      exact hK _ _ ⟨undef,rfl,rfl,Ext.refl _⟩
     refine StepsL.cons (ps:= [(10,some 16),(13,some 19),(15,some 21)]) rfl (by kernel_rfl) (fun wi hx=> ?_) ?_
     ·intro v10 h10 v13 h13 v15 h15 K hK
      obtain rfl:=h10
      obtain rfl:=h13
      obtain rfl:=h15
      go_simp
      exact hK _ _ ⟨undef,rfl,rfl,Ext.refl _⟩
     refine StepsL.cons (ps:= [(10,some 16),(16,some 22)]) rfl (by kernel_rfl) (fun wi hx=> ?_) ?_
     ·intro v10 h10 v16 h16 K hK
      obtain rfl:=h10
      obtain rfl:=h16
      go_simp
      exact hK _ _ ⟨.bool true,rfl,rfl,Ext.refl _⟩
     refine StepsL.cons (ps:= [(17,some 23)]) rfl (by kernel_rfl) (fun wi hx=> ?_) ?_
     ·intro v17 h17 K hK
      obtain rfl:=h17
      go_simp
      exact hK _ _ ⟨.bool true,rfl,rfl,Ext.refl _⟩
     refine StepsL.cons (ps:= [(18,some 24)]) rfl (by kernel_rfl) (fun wi hx=> ?_) ?_
     ·intro v18 h18 K hK
      obtain rfl:=h18
      go_simp
      exact hK _ _ ⟨undef,rfl,rfl,Ext.refl _⟩
     refine StepsL.cons (ps:= [(18,some 24),(19,some 25)]) rfl (by kernel_rfl) (fun wi hx=> ?_) ?_
     ·intro v18 h18 v19 h19 K hK
      obtain rfl:=h18
      obtain rfl:=h19
      go_simp
      exact hK _ _ ⟨undef,rfl,rfl,Ext.refl _⟩
     refine StepsL.cons (ps:= [(18,some 24),(20,some 26)]) rfl (by kernel_rfl) (fun wi hx=> ?_) ?_
     ·intro v18 h18 v20 h20 K hK
      obtain rfl:=h18
      obtain rfl:=h20
      go_simp
      exact hK _ _ ⟨undef,rfl,rfl,Ext.refl _⟩
     refine StepsL.cons (ps:= [(18,some 24),(21,some 27)]) rfl (by kernel_rfl) (fun wi hx=> ?_) ?_
     ·intro v18 h18 v21 h21 K hK
      obtain rfl:=h18
      obtain rfl:=h21
      go_simp
      exact hK _ _ ⟨undef,rfl,rfl,Ext.refl _⟩
     refine StepsL.cons (ps:= [(18,some 24),(22,some 28)]) rfl (by kernel_rfl) (fun wi hx=> ?_) StepsL.nil
     ·intro v18 h18 v22 h22 K hK
      obtain rfl:=h18
      obtain rfl:=h22
      go_simp
      exact hK _ _ ⟨.bool true,rfl,rfl,Ext.refl _⟩
    case fin=>
     intro wi hx v0 h0 v1 h1 v2 h2 v3 h3 v4 h4 v5 h5 v6 h6 v7 h7 v8 h8 v9 h9 v10 h10 v11 h11 v12 h12 v13 h13 v14 h14 v15 h15 v16 h16 v17 h17 v18 h18 v19 h19 v20 h20 v21 h21 v22 h22 v23 h23
     obtain rfl:=h0
     obtain rfl:=h1
     obtain rfl:=h2
     obtain rfl:=h3
     obtain rfl:=h4
     obtain rfl:=h5
     obtain rfl:=h6
     obtain rfl:=h7
     obtain rfl:=h8
     obtain rfl:=h9
     obtain rfl:=h10
     obtain rfl:=h11
     obtain rfl:=h12
     obtain rfl:=h13
     obtain rfl:=h14
     obtain rfl:=h15
     obtain rfl:=h16
     obtain rfl:=h17
     obtain rfl:=h18
     obtain rfl:=h19
     obtain rfl:=h20
     obtain rfl:=h21
     obtain rfl:=h22
     obtain rfl:=h23
     refine wpAny_done (by kernel_rfl) ?_ _
     try simp only[Act.put,List.setIfInBounds_toArray,List.set_cons_zero,List.set_cons_succ]
     have hx':=hx.of_drew
     go_wp2
     go_ret
     exact⟨by rw[hfin.out];rfl,Ext.trans (by(repeat' (first|exact Ext.refl _|(with_reducible assumption)|(with_reducible refine Ext.alloc ?_ _)|(with_reducible refine Ext.setCell ?_ (by first|exact Nat.le_refl _|(dsimp only;omega)|(simp;done)|(simp;omega)) _)|(with_reducible refine Ext.drew ?_)|(with_reducible refine Ext.drewN ?_ _)|(refine Ext.trans ?_ (by with_reducible assumption))))) hx'⟩
   |true=>
    have HB:Hid (∀w',Ext w w'→Calls Tryd.prog 28 #[.slice q m c2] w' fun e w''=>e= .returned (.bool true)∧Ext w' w''):=fun w' hx=>by rw[←hbk];exact HB0.out w' hx
    obtain⟨Mx,hMx⟩: ∃M,booksMost T=M:=⟨_,rfl⟩
    have HM:Hid (∀w',Ext w w'→Calls Tryd.prog 45 #[.slice q m c2] w' fun e w''=>e= .returned (.int .i64 Mx)∧Ext w' w''):=fun w' hx=>by rw[←hMx];exact HM0.out w' hx
    have HMX:=Lib.hid hMx
    have HBK:=Lib.hid hbk
    clear hMx hbk HB0 HM0
    by_cases hmx:P<Mx
    ·have hfin:Hid (deskValid ⟨P,T,R⟩=false):=by
      show _=_
      cases hq:deskValid ⟨P,T,R⟩with
      |false=>rfl
      |true=>
       exfalso
       obtain⟨z1,z2,z3,z4,z5,z6⟩:=desk_parts hq
       dsimp only at z1 z2 z3 z4 z5 z6
       rw[HMX.out]at z3;omega
     have t3:decide (P<Mx)=true:=by simp[hmx]
     go_enter Tryd.func11,Tryd.ntmps11
     go_wp2
     refine region_lin (gl [gEq (.pointer (some ⟨w.heap.size,0,none⟩)),gEq (.int .i64 P),gEq (.bool true),gEq (.bool false),gEq (.bool false),gEq (.pointer (some ⟨w.heap.size,1,none⟩)),gEq (.slice q m c2),gEq (.bool true),gEq (.bool false),gEq (.bool false),gEq (.bool false),gEq (.pointer (some ⟨w.heap.size,1,none⟩)),gEq (.slice q m c2),gEq (.int .i64 Mx),gEq (.pointer (some ⟨w.heap.size,0,none⟩)),gEq (.int .i64 P),gEq (.bool true),gEq (.bool true),gEq (.bool true),gEq (undef),gEq (undef),gEq (undef),gEq (undef),gEq (.bool true)]) 24 (by kernel_rfl) rfl (by kernel_rfl) (by kernel_rfl) (by kernel_rfl) (gl_mono (gl_cons (gEq_mono _) (gl_cons (gEq_mono _) (gl_cons (gEq_mono _) (gl_cons (gEq_mono _) (gl_cons (gEq_mono _) (gl_cons (gEq_mono _) (gl_cons (gEq_mono _) (gl_cons (gEq_mono _) (gl_cons (gEq_mono _) (gl_cons (gEq_mono _) (gl_cons (gEq_mono _) (gl_cons (gEq_mono _) (gl_cons (gEq_mono _) (gl_cons (gEq_mono _) (gl_cons (gEq_mono _) (gl_cons (gEq_mono _) (gl_cons (gEq_mono _) (gl_cons (gEq_mono _) (gl_cons (gEq_mono _) (gl_cons (gEq_mono _) (gl_cons (gEq_mono _) (gl_cons (gEq_mono _) (gl_cons (gEq_mono _) (gl_cons (gEq_mono _) (gl_nil)))))))))))))))))))))))))) (k:=24) (by kernel_rfl) (by decide) (ls:= [(0,some 6),(1,some 7),(2,some 8),(3,some 9),(4,some 10),(5,some 11),(6,some 12),(7,some 13),(8,some 14),(9,some 15),(10,some 16),(11,some 17),(12,some 18),(13,some 19),(14,some 20),(15,some 21),(16,some 22),(17,some 23),(18,some 24),(19,some 25),(20,some 26),(21,some 27),(22,some 28),(23,some 29)]) (by kernel_rfl) (ir:= [0,1,2,3,4,5,6,7,8,9,10,11,12,13,14,15,16,17,18,19,20,21,22,23]) (by kernel_rfl) ?steps (tl:=#[true,true,true,true,true,true,true,true,true,true,true,true,true,true,true,true,true,true,true,true,true,true,true,true]) (by kernel_rfl) ?fin
     case steps=>
      refine StepsL.cons (ps:= []) rfl (by kernel_rfl) (fun wi hx=> ?_) ?_
      ·intro K hK
       go_simp
       exact hK _ _ ⟨.pointer (some ⟨w.heap.size,0,none⟩),rfl,rfl,Ext.refl _⟩
      refine StepsL.cons (ps:= [(0,some 6)]) rfl (by kernel_rfl) (fun wi hx=> ?_) ?_
      ·intro v0 h0 K hK
       obtain rfl:=h0
       have hX:Ext (w.alloc (.cells #[.int .i64 P,.slice q m c2,.slice q2 m2 d2] 25)) wi:=by(repeat' (first|exact Ext.refl _|(with_reducible assumption)|(with_reducible refine Ext.alloc ?_ _)|(with_reducible refine Ext.setCell ?_ (by first|exact Nat.le_refl _|(dsimp only;omega)|(simp;done)|(simp;omega)) _)|(with_reducible refine Ext.drew ?_)|(with_reducible refine Ext.drewN ?_ _)|(refine Ext.trans ?_ (by with_reducible assumption))))
       have cl0:wi.cell? ⟨w.heap.size,0,none⟩=some (.int .i64 P):=((Blk.new w 25 #[.int .i64 P,.slice q m c2,.slice q2 m2 d2]).ext hX).cell 0
       go_simp
       exact hK _ _ ⟨.int .i64 P,rfl,rfl,Ext.refl _⟩
      refine StepsL.cons (ps:= [(1,some 7)]) rfl (by kernel_rfl) (fun wi hx=> ?_) ?_
      ·intro v1 h1 K hK
       obtain rfl:=h1
       go_simp
       refine(HI.out _).mono ?_
       rintro e w5 ⟨rfl,rfl⟩
       go_simp
       exact hK _ _ ⟨.bool true,rfl,rfl,Ext.refl _⟩
      refine StepsL.cons (ps:= [(2,some 8)]) rfl (by kernel_rfl) (fun wi hx=> ?_) ?_
      ·intro v2 h2 K hK
       obtain rfl:=h2
       go_simp
       exact hK _ _ ⟨.bool false,rfl,rfl,Ext.refl _⟩
      refine StepsL.cons (ps:= [(3,some 9)]) rfl (by kernel_rfl) (fun wi hx=> ?_) ?_
      ·intro v3 h3 K hK
       obtain rfl:=h3
       go_simp
       exact hK _ _ ⟨.bool false,rfl,rfl,Ext.refl _⟩
      refine StepsL.cons (ps:= [(4,some 10)]) rfl (by kernel_rfl) (fun wi hx=> ?_) ?_
      ·intro v4 h4 K hK
       obtain rfl:=h4
       go_simp
       exact hK _ _ ⟨.pointer (some ⟨w.heap.size,1,none⟩),rfl,rfl,Ext.refl _⟩
      refine StepsL.cons (ps:= [(4,some 10),(5,some 11)]) rfl (by kernel_rfl) (fun wi hx=> ?_) ?_
      ·intro v4 h4 v5 h5 K hK
       obtain rfl:=h4
       obtain rfl:=h5
       have hX:Ext (w.alloc (.cells #[.int .i64 P,.slice q m c2,.slice q2 m2 d2] 25)) wi:=by(repeat' (first|exact Ext.refl _|(with_reducible assumption)|(with_reducible refine Ext.alloc ?_ _)|(with_reducible refine Ext.setCell ?_ (by first|exact Nat.le_refl _|(dsimp only;omega)|(simp;done)|(simp;omega)) _)|(with_reducible refine Ext.drew ?_)|(with_reducible refine Ext.drewN ?_ _)|(refine Ext.trans ?_ (by with_reducible assumption))))
       have cl0:wi.cell? ⟨w.heap.size,1,none⟩=some (.slice q m c2):=((Blk.new w 25 #[.int .i64 P,.slice q m c2,.slice q2 m2 d2]).ext hX).cell 1
       go_simp
       exact hK _ _ ⟨.slice q m c2,rfl,rfl,Ext.refl _⟩
      refine StepsL.cons (ps:= [(4,some 10),(6,some 12)]) rfl (by kernel_rfl) (fun wi hx=> ?_) ?_
      ·intro v4 h4 v6 h6 K hK
       obtain rfl:=h4
       obtain rfl:=h6
       go_simp
       refine(HB.out _ (Ext.trans (by(repeat' (first|exact Ext.refl _|(with_reducible assumption)|(with_reducible refine Ext.alloc ?_ _)|(with_reducible refine Ext.setCell ?_ (by first|exact Nat.le_refl _|(dsimp only;omega)|(simp;done)|(simp;omega)) _)|(with_reducible refine Ext.drew ?_)|(with_reducible refine Ext.drewN ?_ _)|(refine Ext.trans ?_ (by with_reducible assumption))))) hx.of_drew)).mono ?_
       rintro e w5 ⟨rfl,hx5⟩
       go_simp
       exact hK _ _ ⟨.bool true,rfl,rfl,hx5⟩
      refine StepsL.cons (ps:= [(4,some 10),(7,some 13)]) rfl (by kernel_rfl) (fun wi hx=> ?_) ?_
      ·intro v4 h4 v7 h7 K hK
       obtain rfl:=h4
       obtain rfl:=h7
       go_simp
       exact hK _ _ ⟨.bool false,rfl,rfl,Ext.refl _⟩
      refine StepsL.cons (ps:= [(4,some 10),(8,some 14)]) rfl (by kernel_rfl) (fun wi hx=> ?_) ?_
      ·intro v4 h4 v8 h8 K hK
       obtain rfl:=h4
       obtain rfl:=h8
       go_simp
       exact hK _ _ ⟨.bool false,rfl,rfl,Ext.refl _⟩
      refine StepsL.cons (ps:= [(9,some 15)]) rfl (by kernel_rfl) (fun wi hx=> ?_) ?_
      ·intro v9 h9 K hK
       obtain rfl:=h9
       go_simp
       exact hK _ _ ⟨.bool false,rfl,rfl,Ext.refl _⟩
      refine StepsL.cons (ps:= [(10,some 16)]) rfl (by kernel_rfl) (fun wi hx=> ?_) ?_
      ·intro v10 h10 K hK
       obtain rfl:=h10
       go_simp
       exact hK _ _ ⟨.pointer (some ⟨w.heap.size,1,none⟩),rfl,rfl,Ext.refl _⟩
      refine StepsL.cons (ps:= [(10,some 16),(11,some 17)]) rfl (by kernel_rfl) (fun wi hx=> ?_) ?_
      ·intro v10 h10 v11 h11 K hK
       obtain rfl:=h10
       obtain rfl:=h11
       have hX:Ext (w.alloc (.cells #[.int .i64 P,.slice q m c2,.slice q2 m2 d2] 25)) wi:=by(repeat' (first|exact Ext.refl _|(with_reducible assumption)|(with_reducible refine Ext.alloc ?_ _)|(with_reducible refine Ext.setCell ?_ (by first|exact Nat.le_refl _|(dsimp only;omega)|(simp;done)|(simp;omega)) _)|(with_reducible refine Ext.drew ?_)|(with_reducible refine Ext.drewN ?_ _)|(refine Ext.trans ?_ (by with_reducible assumption))))
       have cl0:wi.cell? ⟨w.heap.size,1,none⟩=some (.slice q m c2):=((Blk.new w 25 #[.int .i64 P,.slice q m c2,.slice q2 m2 d2]).ext hX).cell 1
       go_simp
       exact hK _ _ ⟨.slice q m c2,rfl,rfl,Ext.refl _⟩
      refine StepsL.cons (ps:= [(10,some 16),(12,some 18)]) rfl (by kernel_rfl) (fun wi hx=> ?_) ?_
      ·intro v10 h10 v12 h12 K hK
       obtain rfl:=h10
       obtain rfl:=h12
       go_simp
       refine(HM.out _ (Ext.trans (by(repeat' (first|exact Ext.refl _|(with_reducible assumption)|(with_reducible refine Ext.alloc ?_ _)|(with_reducible refine Ext.setCell ?_ (by first|exact Nat.le_refl _|(dsimp only;omega)|(simp;done)|(simp;omega)) _)|(with_reducible refine Ext.drew ?_)|(with_reducible refine Ext.drewN ?_ _)|(refine Ext.trans ?_ (by with_reducible assumption))))) hx.of_drew)).mono ?_
       rintro e w5 ⟨rfl,hx5⟩
       go_simp
       exact hK _ _ ⟨.int .i64 Mx,rfl,rfl,hx5⟩
      refine StepsL.cons (ps:= [(10,some 16)]) rfl (by kernel_rfl) (fun wi hx=> ?_) ?_
      ·intro v10 h10 K hK
       obtain rfl:=h10
       go_simp
       exact hK _ _ ⟨.pointer (some ⟨w.heap.size,0,none⟩),rfl,rfl,Ext.refl _⟩
      refine StepsL.cons (ps:= [(10,some 16),(14,some 20)]) rfl (by kernel_rfl) (fun wi hx=> ?_) ?_
      ·intro v10 h10 v14 h14 K hK
       obtain rfl:=h10
       obtain rfl:=h14
       have hX:Ext (w.alloc (.cells #[.int .i64 P,.slice q m c2,.slice q2 m2 d2] 25)) wi:=by(repeat' (first|exact Ext.refl _|(with_reducible assumption)|(with_reducible refine Ext.alloc ?_ _)|(with_reducible refine Ext.setCell ?_ (by first|exact Nat.le_refl _|(dsimp only;omega)|(simp;done)|(simp;omega)) _)|(with_reducible refine Ext.drew ?_)|(with_reducible refine Ext.drewN ?_ _)|(refine Ext.trans ?_ (by with_reducible assumption))))
       have cl0:wi.cell? ⟨w.heap.size,0,none⟩=some (.int .i64 P):=((Blk.new w 25 #[.int .i64 P,.slice q m c2,.slice q2 m2 d2]).ext hX).cell 0
       go_simp
       exact hK _ _ ⟨.int .i64 P,rfl,rfl,Ext.refl _⟩
      refine StepsL.cons (ps:= [(10,some 16),(13,some 19),(15,some 21)]) rfl (by kernel_rfl) (fun wi hx=> ?_) ?_
      ·intro v10 h10 v13 h13 v15 h15 K hK
       obtain rfl:=h10
       obtain rfl:=h13
       obtain rfl:=h15
       go_simp
       exact hK _ _ ⟨.bool true,rfl,rfl,Ext.refl _⟩
      refine StepsL.cons (ps:= [(10,some 16),(16,some 22)]) rfl (by kernel_rfl) (fun wi hx=> ?_) ?_
      ·intro v10 h10 v16 h16 K hK
       obtain rfl:=h10
       obtain rfl:=h16
       go_simp
       exact hK _ _ ⟨.bool true,rfl,rfl,Ext.refl _⟩
      refine StepsL.cons (ps:= [(17,some 23)]) rfl (by kernel_rfl) (fun wi hx=> ?_) ?_
      ·intro v17 h17 K hK
       obtain rfl:=h17
       go_simp
       exact hK _ _ ⟨.bool true,rfl,rfl,Ext.refl _⟩
      refine StepsL.cons (ps:= [(18,some 24)]) rfl (by kernel_rfl) (fun wi hx=> ?_) ?_
      ·intro v18 h18 K hK
       obtain rfl:=h18
       go_simp
       exact hK _ _ ⟨undef,rfl,rfl,Ext.refl _⟩
      refine StepsL.cons (ps:= [(18,some 24),(19,some 25)]) rfl (by kernel_rfl) (fun wi hx=> ?_) ?_
      ·intro v18 h18 v19 h19 K hK
       obtain rfl:=h18
       obtain rfl:=h19
       go_simp
       exact hK _ _ ⟨undef,rfl,rfl,Ext.refl _⟩
      refine StepsL.cons (ps:= [(18,some 24),(20,some 26)]) rfl (by kernel_rfl) (fun wi hx=> ?_) ?_
      ·intro v18 h18 v20 h20 K hK
       obtain rfl:=h18
       obtain rfl:=h20
       go_simp
       exact hK _ _ ⟨undef,rfl,rfl,Ext.refl _⟩
      refine StepsL.cons (ps:= [(18,some 24),(21,some 27)]) rfl (by kernel_rfl) (fun wi hx=> ?_) ?_
      ·intro v18 h18 v21 h21 K hK
       obtain rfl:=h18
       obtain rfl:=h21
       go_simp
       exact hK _ _ ⟨undef,rfl,rfl,Ext.refl _⟩
      refine StepsL.cons (ps:= [(18,some 24),(22,some 28)]) rfl (by kernel_rfl) (fun wi hx=> ?_) StepsL.nil
      ·intro v18 h18 v22 h22 K hK
       obtain rfl:=h18
       obtain rfl:=h22
       go_simp
       exact hK _ _ ⟨.bool true,rfl,rfl,Ext.refl _⟩
     case fin=>
      intro wi hx v0 h0 v1 h1 v2 h2 v3 h3 v4 h4 v5 h5 v6 h6 v7 h7 v8 h8 v9 h9 v10 h10 v11 h11 v12 h12 v13 h13 v14 h14 v15 h15 v16 h16 v17 h17 v18 h18 v19 h19 v20 h20 v21 h21 v22 h22 v23 h23
      obtain rfl:=h0
      obtain rfl:=h1
      obtain rfl:=h2
      obtain rfl:=h3
      obtain rfl:=h4
      obtain rfl:=h5
      obtain rfl:=h6
      obtain rfl:=h7
      obtain rfl:=h8
      obtain rfl:=h9
      obtain rfl:=h10
      obtain rfl:=h11
      obtain rfl:=h12
      obtain rfl:=h13
      obtain rfl:=h14
      obtain rfl:=h15
      obtain rfl:=h16
      obtain rfl:=h17
      obtain rfl:=h18
      obtain rfl:=h19
      obtain rfl:=h20
      obtain rfl:=h21
      obtain rfl:=h22
      obtain rfl:=h23
      refine wpAny_done (by kernel_rfl) ?_ _
      try simp only[Act.put,List.setIfInBounds_toArray,List.set_cons_zero,List.set_cons_succ]
      have hx':=hx.of_drew
      go_wp2
      go_ret
      exact⟨by rw[hfin.out];rfl,Ext.trans (by(repeat' (first|exact Ext.refl _|(with_reducible assumption)|(with_reducible refine Ext.alloc ?_ _)|(with_reducible refine Ext.setCell ?_ (by first|exact Nat.le_refl _|(dsimp only;omega)|(simp;done)|(simp;omega)) _)|(with_reducible refine Ext.drew ?_)|(with_reducible refine Ext.drewN ?_ _)|(refine Ext.trans ?_ (by with_reducible assumption))))) hx'⟩
    ·have t3:decide (P<Mx)=false:=by simp;omega
     by_cases h5:5<m2
     ·have hfin:Hid (deskValid ⟨P,T,R⟩=false):=by
       show _=_
       cases hq:deskValid ⟨P,T,R⟩with
       |false=>rfl
       |true=>
        exfalso
        obtain⟨z1,z2,z3,z4,z5,z6⟩:=desk_parts hq
        dsimp only at z1 z2 z3 z4 z5 z6
        rw[hl2.out]at z4;omega
      have t4:decide ((5:Int)<(m2:Int))=true:=by simp;omega
      go_enter Tryd.func11,Tryd.ntmps11
      go_wp2
      refine region_lin (gl [gEq (.pointer (some ⟨w.heap.size,0,none⟩)),gEq (.int .i64 P),gEq (.bool true),gEq (.bool false),gEq (.bool false),gEq (.pointer (some ⟨w.heap.size,1,none⟩)),gEq (.slice q m c2),gEq (.bool true),gEq (.bool false),gEq (.bool false),gEq (.bool false),gEq (.pointer (some ⟨w.heap.size,1,none⟩)),gEq (.slice q m c2),gEq (.int .i64 Mx),gEq (.pointer (some ⟨w.heap.size,0,none⟩)),gEq (.int .i64 P),gEq (.bool false),gEq (.bool false),gEq (.bool false),gEq (.pointer (some ⟨w.heap.size,2,none⟩)),gEq (.slice q2 m2 d2),gEq (.int .i64 (m2:Int)),gEq (.bool true),gEq (.bool true)]) 24 (by kernel_rfl) rfl (by kernel_rfl) (by kernel_rfl) (by kernel_rfl) (gl_mono (gl_cons (gEq_mono _) (gl_cons (gEq_mono _) (gl_cons (gEq_mono _) (gl_cons (gEq_mono _) (gl_cons (gEq_mono _) (gl_cons (gEq_mono _) (gl_cons (gEq_mono _) (gl_cons (gEq_mono _) (gl_cons (gEq_mono _) (gl_cons (gEq_mono _) (gl_cons (gEq_mono _) (gl_cons (gEq_mono _) (gl_cons (gEq_mono _) (gl_cons (gEq_mono _) (gl_cons (gEq_mono _) (gl_cons (gEq_mono _) (gl_cons (gEq_mono _) (gl_cons (gEq_mono _) (gl_cons (gEq_mono _) (gl_cons (gEq_mono _) (gl_cons (gEq_mono _) (gl_cons (gEq_mono _) (gl_cons (gEq_mono _) (gl_cons (gEq_mono _) (gl_nil)))))))))))))))))))))))))) (k:=24) (by kernel_rfl) (by decide) (ls:= [(0,some 6),(1,some 7),(2,some 8),(3,some 9),(4,some 10),(5,some 11),(6,some 12),(7,some 13),(8,some 14),(9,some 15),(10,some 16),(11,some 17),(12,some 18),(13,some 19),(14,some 20),(15,some 21),(16,some 22),(17,some 23),(18,some 24),(19,some 25),(20,some 26),(21,some 27),(22,some 28),(23,some 29)]) (by kernel_rfl) (ir:= [0,1,2,3,4,5,6,7,8,9,10,11,12,13,14,15,16,17,18,19,20,21,22,23]) (by kernel_rfl) ?steps (tl:=#[true,true,true,true,true,true,true,true,true,true,true,true,true,true,true,true,true,true,true,true,true,true,true,true]) (by kernel_rfl) ?fin
      case steps=>
       refine StepsL.cons (ps:= []) rfl (by kernel_rfl) (fun wi hx=> ?_) ?_
       ·intro K hK
        go_simp
        exact hK _ _ ⟨.pointer (some ⟨w.heap.size,0,none⟩),rfl,rfl,Ext.refl _⟩
       refine StepsL.cons (ps:= [(0,some 6)]) rfl (by kernel_rfl) (fun wi hx=> ?_) ?_
       ·intro v0 h0 K hK
        obtain rfl:=h0
        have hX:Ext (w.alloc (.cells #[.int .i64 P,.slice q m c2,.slice q2 m2 d2] 25)) wi:=by(repeat' (first|exact Ext.refl _|(with_reducible assumption)|(with_reducible refine Ext.alloc ?_ _)|(with_reducible refine Ext.setCell ?_ (by first|exact Nat.le_refl _|(dsimp only;omega)|(simp;done)|(simp;omega)) _)|(with_reducible refine Ext.drew ?_)|(with_reducible refine Ext.drewN ?_ _)|(refine Ext.trans ?_ (by with_reducible assumption))))
        have cl0:wi.cell? ⟨w.heap.size,0,none⟩=some (.int .i64 P):=((Blk.new w 25 #[.int .i64 P,.slice q m c2,.slice q2 m2 d2]).ext hX).cell 0
        go_simp
        exact hK _ _ ⟨.int .i64 P,rfl,rfl,Ext.refl _⟩
       refine StepsL.cons (ps:= [(1,some 7)]) rfl (by kernel_rfl) (fun wi hx=> ?_) ?_
       ·intro v1 h1 K hK
        obtain rfl:=h1
        go_simp
        refine(HI.out _).mono ?_
        rintro e w5 ⟨rfl,rfl⟩
        go_simp
        exact hK _ _ ⟨.bool true,rfl,rfl,Ext.refl _⟩
       refine StepsL.cons (ps:= [(2,some 8)]) rfl (by kernel_rfl) (fun wi hx=> ?_) ?_
       ·intro v2 h2 K hK
        obtain rfl:=h2
        go_simp
        exact hK _ _ ⟨.bool false,rfl,rfl,Ext.refl _⟩
       refine StepsL.cons (ps:= [(3,some 9)]) rfl (by kernel_rfl) (fun wi hx=> ?_) ?_
       ·intro v3 h3 K hK
        obtain rfl:=h3
        go_simp
        exact hK _ _ ⟨.bool false,rfl,rfl,Ext.refl _⟩
       refine StepsL.cons (ps:= [(4,some 10)]) rfl (by kernel_rfl) (fun wi hx=> ?_) ?_
       ·intro v4 h4 K hK
        obtain rfl:=h4
        go_simp
        exact hK _ _ ⟨.pointer (some ⟨w.heap.size,1,none⟩),rfl,rfl,Ext.refl _⟩
       refine StepsL.cons (ps:= [(4,some 10),(5,some 11)]) rfl (by kernel_rfl) (fun wi hx=> ?_) ?_
       ·intro v4 h4 v5 h5 K hK
        obtain rfl:=h4
        obtain rfl:=h5
        have hX:Ext (w.alloc (.cells #[.int .i64 P,.slice q m c2,.slice q2 m2 d2] 25)) wi:=by(repeat' (first|exact Ext.refl _|(with_reducible assumption)|(with_reducible refine Ext.alloc ?_ _)|(with_reducible refine Ext.setCell ?_ (by first|exact Nat.le_refl _|(dsimp only;omega)|(simp;done)|(simp;omega)) _)|(with_reducible refine Ext.drew ?_)|(with_reducible refine Ext.drewN ?_ _)|(refine Ext.trans ?_ (by with_reducible assumption))))
        have cl0:wi.cell? ⟨w.heap.size,1,none⟩=some (.slice q m c2):=((Blk.new w 25 #[.int .i64 P,.slice q m c2,.slice q2 m2 d2]).ext hX).cell 1
        go_simp
        exact hK _ _ ⟨.slice q m c2,rfl,rfl,Ext.refl _⟩
       refine StepsL.cons (ps:= [(4,some 10),(6,some 12)]) rfl (by kernel_rfl) (fun wi hx=> ?_) ?_
       ·intro v4 h4 v6 h6 K hK
        obtain rfl:=h4
        obtain rfl:=h6
        go_simp
        refine(HB.out _ (Ext.trans (by(repeat' (first|exact Ext.refl _|(with_reducible assumption)|(with_reducible refine Ext.alloc ?_ _)|(with_reducible refine Ext.setCell ?_ (by first|exact Nat.le_refl _|(dsimp only;omega)|(simp;done)|(simp;omega)) _)|(with_reducible refine Ext.drew ?_)|(with_reducible refine Ext.drewN ?_ _)|(refine Ext.trans ?_ (by with_reducible assumption))))) hx.of_drew)).mono ?_
        rintro e w5 ⟨rfl,hx5⟩
        go_simp
        exact hK _ _ ⟨.bool true,rfl,rfl,hx5⟩
       refine StepsL.cons (ps:= [(4,some 10),(7,some 13)]) rfl (by kernel_rfl) (fun wi hx=> ?_) ?_
       ·intro v4 h4 v7 h7 K hK
        obtain rfl:=h4
        obtain rfl:=h7
        go_simp
        exact hK _ _ ⟨.bool false,rfl,rfl,Ext.refl _⟩
       refine StepsL.cons (ps:= [(4,some 10),(8,some 14)]) rfl (by kernel_rfl) (fun wi hx=> ?_) ?_
       ·intro v4 h4 v8 h8 K hK
        obtain rfl:=h4
        obtain rfl:=h8
        go_simp
        exact hK _ _ ⟨.bool false,rfl,rfl,Ext.refl _⟩
       refine StepsL.cons (ps:= [(9,some 15)]) rfl (by kernel_rfl) (fun wi hx=> ?_) ?_
       ·intro v9 h9 K hK
        obtain rfl:=h9
        go_simp
        exact hK _ _ ⟨.bool false,rfl,rfl,Ext.refl _⟩
       refine StepsL.cons (ps:= [(10,some 16)]) rfl (by kernel_rfl) (fun wi hx=> ?_) ?_
       ·intro v10 h10 K hK
        obtain rfl:=h10
        go_simp
        exact hK _ _ ⟨.pointer (some ⟨w.heap.size,1,none⟩),rfl,rfl,Ext.refl _⟩
       refine StepsL.cons (ps:= [(10,some 16),(11,some 17)]) rfl (by kernel_rfl) (fun wi hx=> ?_) ?_
       ·intro v10 h10 v11 h11 K hK
        obtain rfl:=h10
        obtain rfl:=h11
        have hX:Ext (w.alloc (.cells #[.int .i64 P,.slice q m c2,.slice q2 m2 d2] 25)) wi:=by(repeat' (first|exact Ext.refl _|(with_reducible assumption)|(with_reducible refine Ext.alloc ?_ _)|(with_reducible refine Ext.setCell ?_ (by first|exact Nat.le_refl _|(dsimp only;omega)|(simp;done)|(simp;omega)) _)|(with_reducible refine Ext.drew ?_)|(with_reducible refine Ext.drewN ?_ _)|(refine Ext.trans ?_ (by with_reducible assumption))))
        have cl0:wi.cell? ⟨w.heap.size,1,none⟩=some (.slice q m c2):=((Blk.new w 25 #[.int .i64 P,.slice q m c2,.slice q2 m2 d2]).ext hX).cell 1
        go_simp
        exact hK _ _ ⟨.slice q m c2,rfl,rfl,Ext.refl _⟩
       refine StepsL.cons (ps:= [(10,some 16),(12,some 18)]) rfl (by kernel_rfl) (fun wi hx=> ?_) ?_
       ·intro v10 h10 v12 h12 K hK
        obtain rfl:=h10
        obtain rfl:=h12
        go_simp
        refine(HM.out _ (Ext.trans (by(repeat' (first|exact Ext.refl _|(with_reducible assumption)|(with_reducible refine Ext.alloc ?_ _)|(with_reducible refine Ext.setCell ?_ (by first|exact Nat.le_refl _|(dsimp only;omega)|(simp;done)|(simp;omega)) _)|(with_reducible refine Ext.drew ?_)|(with_reducible refine Ext.drewN ?_ _)|(refine Ext.trans ?_ (by with_reducible assumption))))) hx.of_drew)).mono ?_
        rintro e w5 ⟨rfl,hx5⟩
        go_simp
        exact hK _ _ ⟨.int .i64 Mx,rfl,rfl,hx5⟩
       refine StepsL.cons (ps:= [(10,some 16)]) rfl (by kernel_rfl) (fun wi hx=> ?_) ?_
       ·intro v10 h10 K hK
        obtain rfl:=h10
        go_simp
        exact hK _ _ ⟨.pointer (some ⟨w.heap.size,0,none⟩),rfl,rfl,Ext.refl _⟩
       refine StepsL.cons (ps:= [(10,some 16),(14,some 20)]) rfl (by kernel_rfl) (fun wi hx=> ?_) ?_
       ·intro v10 h10 v14 h14 K hK
        obtain rfl:=h10
        obtain rfl:=h14
        have hX:Ext (w.alloc (.cells #[.int .i64 P,.slice q m c2,.slice q2 m2 d2] 25)) wi:=by(repeat' (first|exact Ext.refl _|(with_reducible assumption)|(with_reducible refine Ext.alloc ?_ _)|(with_reducible refine Ext.setCell ?_ (by first|exact Nat.le_refl _|(dsimp only;omega)|(simp;done)|(simp;omega)) _)|(with_reducible refine Ext.drew ?_)|(with_reducible refine Ext.drewN ?_ _)|(refine Ext.trans ?_ (by with_reducible assumption))))
        have cl0:wi.cell? ⟨w.heap.size,0,none⟩=some (.int .i64 P):=((Blk.new w 25 #[.int .i64 P,.slice q m c2,.slice q2 m2 d2]).ext hX).cell 0
        go_simp
        exact hK _ _ ⟨.int .i64 P,rfl,rfl,Ext.refl _⟩
       refine StepsL.cons (ps:= [(10,some 16),(13,some 19),(15,some 21)]) rfl (by kernel_rfl) (fun wi hx=> ?_) ?_
       ·intro v10 h10 v13 h13 v15 h15 K hK
        obtain rfl:=h10
        obtain rfl:=h13
        obtain rfl:=h15
        go_simp
        exact hK _ _ ⟨.bool false,rfl,rfl,Ext.refl _⟩
       refine StepsL.cons (ps:= [(10,some 16),(16,some 22)]) rfl (by kernel_rfl) (fun wi hx=> ?_) ?_
       ·intro v10 h10 v16 h16 K hK
        obtain rfl:=h10
        obtain rfl:=h16
        go_simp
        exact hK _ _ ⟨.bool false,rfl,rfl,Ext.refl _⟩
       refine StepsL.cons (ps:= [(17,some 23)]) rfl (by kernel_rfl) (fun wi hx=> ?_) ?_
       ·intro v17 h17 K hK
        obtain rfl:=h17
        go_simp
        exact hK _ _ ⟨.bool false,rfl,rfl,Ext.refl _⟩
       refine StepsL.cons (ps:= [(18,some 24)]) rfl (by kernel_rfl) (fun wi hx=> ?_) ?_
       ·intro v18 h18 K hK
        obtain rfl:=h18
        go_simp
        exact hK _ _ ⟨.pointer (some ⟨w.heap.size,2,none⟩),rfl,rfl,Ext.refl _⟩
       refine StepsL.cons (ps:= [(18,some 24),(19,some 25)]) rfl (by kernel_rfl) (fun wi hx=> ?_) ?_
       ·intro v18 h18 v19 h19 K hK
        obtain rfl:=h18
        obtain rfl:=h19
        have hX:Ext (w.alloc (.cells #[.int .i64 P,.slice q m c2,.slice q2 m2 d2] 25)) wi:=by(repeat' (first|exact Ext.refl _|(with_reducible assumption)|(with_reducible refine Ext.alloc ?_ _)|(with_reducible refine Ext.setCell ?_ (by first|exact Nat.le_refl _|(dsimp only;omega)|(simp;done)|(simp;omega)) _)|(with_reducible refine Ext.drew ?_)|(with_reducible refine Ext.drewN ?_ _)|(refine Ext.trans ?_ (by with_reducible assumption))))
        have cl0:wi.cell? ⟨w.heap.size,2,none⟩=some (.slice q2 m2 d2):=((Blk.new w 25 #[.int .i64 P,.slice q m c2,.slice q2 m2 d2]).ext hX).cell 2
        go_simp
        exact hK _ _ ⟨.slice q2 m2 d2,rfl,rfl,Ext.refl _⟩
       refine StepsL.cons (ps:= [(18,some 24),(20,some 26)]) rfl (by kernel_rfl) (fun wi hx=> ?_) ?_
       ·intro v18 h18 v20 h20 K hK
        obtain rfl:=h18
        obtain rfl:=h20
        go_simp
        exact hK _ _ ⟨.int .i64 (m2:Int),rfl,rfl,Ext.refl _⟩
       refine StepsL.cons (ps:= [(18,some 24),(21,some 27)]) rfl (by kernel_rfl) (fun wi hx=> ?_) ?_
       ·intro v18 h18 v21 h21 K hK
        obtain rfl:=h18
        obtain rfl:=h21
        go_simp
        exact hK _ _ ⟨.bool true,rfl,rfl,Ext.refl _⟩
       refine StepsL.cons (ps:= [(18,some 24),(22,some 28)]) rfl (by kernel_rfl) (fun wi hx=> ?_) StepsL.nil
       ·intro v18 h18 v22 h22 K hK
        obtain rfl:=h18
        obtain rfl:=h22
        go_simp
        exact hK _ _ ⟨.bool true,rfl,rfl,Ext.refl _⟩
      case fin=>
       intro wi hx v0 h0 v1 h1 v2 h2 v3 h3 v4 h4 v5 h5 v6 h6 v7 h7 v8 h8 v9 h9 v10 h10 v11 h11 v12 h12 v13 h13 v14 h14 v15 h15 v16 h16 v17 h17 v18 h18 v19 h19 v20 h20 v21 h21 v22 h22 v23 h23
       obtain rfl:=h0
       obtain rfl:=h1
       obtain rfl:=h2
       obtain rfl:=h3
       obtain rfl:=h4
       obtain rfl:=h5
       obtain rfl:=h6
       obtain rfl:=h7
       obtain rfl:=h8
       obtain rfl:=h9
       obtain rfl:=h10
       obtain rfl:=h11
       obtain rfl:=h12
       obtain rfl:=h13
       obtain rfl:=h14
       obtain rfl:=h15
       obtain rfl:=h16
       obtain rfl:=h17
       obtain rfl:=h18
       obtain rfl:=h19
       obtain rfl:=h20
       obtain rfl:=h21
       obtain rfl:=h22
       obtain rfl:=h23
       refine wpAny_done (by kernel_rfl) ?_ _
       try simp only[Act.put,List.setIfInBounds_toArray,List.set_cons_zero,List.set_cons_succ]
       have hx':=hx.of_drew
       go_wp2
       go_ret
       exact⟨by rw[hfin.out];rfl,Ext.trans (by(repeat' (first|exact Ext.refl _|(with_reducible assumption)|(with_reducible refine Ext.alloc ?_ _)|(with_reducible refine Ext.setCell ?_ (by first|exact Nat.le_refl _|(dsimp only;omega)|(simp;done)|(simp;omega)) _)|(with_reducible refine Ext.drew ?_)|(with_reducible refine Ext.drewN ?_ _)|(refine Ext.trans ?_ (by with_reducible assumption))))) hx'⟩
     ·have t4:decide ((5:Int)<(m2:Int))=false:=by simp;omega
      go_enter Tryd.func11,Tryd.ntmps11
      go_wp2
      refine region_lin (gl [gEq (.pointer (some ⟨w.heap.size,0,none⟩)),gEq (.int .i64 P),gEq (.bool true),gEq (.bool false),gEq (.bool false),gEq (.pointer (some ⟨w.heap.size,1,none⟩)),gEq (.slice q m c2),gEq (.bool true),gEq (.bool false),gEq (.bool false),gEq (.bool false),gEq (.pointer (some ⟨w.heap.size,1,none⟩)),gEq (.slice q m c2),gEq (.int .i64 Mx),gEq (.pointer (some ⟨w.heap.size,0,none⟩)),gEq (.int .i64 P),gEq (.bool false),gEq (.bool false),gEq (.bool false),gEq (.pointer (some ⟨w.heap.size,2,none⟩)),gEq (.slice q2 m2 d2),gEq (.int .i64 (m2:Int)),gEq (.bool false),gEq (.bool false)]) 24 (by kernel_rfl) rfl (by kernel_rfl) (by kernel_rfl) (by kernel_rfl) (gl_mono (gl_cons (gEq_mono _) (gl_cons (gEq_mono _) (gl_cons (gEq_mono _) (gl_cons (gEq_mono _) (gl_cons (gEq_mono _) (gl_cons (gEq_mono _) (gl_cons (gEq_mono _) (gl_cons (gEq_mono _) (gl_cons (gEq_mono _) (gl_cons (gEq_mono _) (gl_cons (gEq_mono _) (gl_cons (gEq_mono _) (gl_cons (gEq_mono _) (gl_cons (gEq_mono _) (gl_cons (gEq_mono _) (gl_cons (gEq_mono _) (gl_cons (gEq_mono _) (gl_cons (gEq_mono _) (gl_cons (gEq_mono _) (gl_cons (gEq_mono _) (gl_cons (gEq_mono _) (gl_cons (gEq_mono _) (gl_cons (gEq_mono _) (gl_cons (gEq_mono _) (gl_nil)))))))))))))))))))))))))) (k:=24) (by kernel_rfl) (by decide) (ls:= [(0,some 6),(1,some 7),(2,some 8),(3,some 9),(4,some 10),(5,some 11),(6,some 12),(7,some 13),(8,some 14),(9,some 15),(10,some 16),(11,some 17),(12,some 18),(13,some 19),(14,some 20),(15,some 21),(16,some 22),(17,some 23),(18,some 24),(19,some 25),(20,some 26),(21,some 27),(22,some 28),(23,some 29)]) (by kernel_rfl) (ir:= [0,1,2,3,4,5,6,7,8,9,10,11,12,13,14,15,16,17,18,19,20,21,22,23]) (by kernel_rfl) ?steps (tl:=#[true,true,true,true,true,true,true,true,true,true,true,true,true,true,true,true,true,true,true,true,true,true,true,true]) (by kernel_rfl) ?fin
      case steps=>
       refine StepsL.cons (ps:= []) rfl (by kernel_rfl) (fun wi hx=> ?_) ?_
       ·intro K hK
        go_simp
        exact hK _ _ ⟨.pointer (some ⟨w.heap.size,0,none⟩),rfl,rfl,Ext.refl _⟩
       refine StepsL.cons (ps:= [(0,some 6)]) rfl (by kernel_rfl) (fun wi hx=> ?_) ?_
       ·intro v0 h0 K hK
        obtain rfl:=h0
        have hX:Ext (w.alloc (.cells #[.int .i64 P,.slice q m c2,.slice q2 m2 d2] 25)) wi:=by(repeat' (first|exact Ext.refl _|(with_reducible assumption)|(with_reducible refine Ext.alloc ?_ _)|(with_reducible refine Ext.setCell ?_ (by first|exact Nat.le_refl _|(dsimp only;omega)|(simp;done)|(simp;omega)) _)|(with_reducible refine Ext.drew ?_)|(with_reducible refine Ext.drewN ?_ _)|(refine Ext.trans ?_ (by with_reducible assumption))))
        have cl0:wi.cell? ⟨w.heap.size,0,none⟩=some (.int .i64 P):=((Blk.new w 25 #[.int .i64 P,.slice q m c2,.slice q2 m2 d2]).ext hX).cell 0
        go_simp
        exact hK _ _ ⟨.int .i64 P,rfl,rfl,Ext.refl _⟩
       refine StepsL.cons (ps:= [(1,some 7)]) rfl (by kernel_rfl) (fun wi hx=> ?_) ?_
       ·intro v1 h1 K hK
        obtain rfl:=h1
        go_simp
        refine(HI.out _).mono ?_
        rintro e w5 ⟨rfl,rfl⟩
        go_simp
        exact hK _ _ ⟨.bool true,rfl,rfl,Ext.refl _⟩
       refine StepsL.cons (ps:= [(2,some 8)]) rfl (by kernel_rfl) (fun wi hx=> ?_) ?_
       ·intro v2 h2 K hK
        obtain rfl:=h2
        go_simp
        exact hK _ _ ⟨.bool false,rfl,rfl,Ext.refl _⟩
       refine StepsL.cons (ps:= [(3,some 9)]) rfl (by kernel_rfl) (fun wi hx=> ?_) ?_
       ·intro v3 h3 K hK
        obtain rfl:=h3
        go_simp
        exact hK _ _ ⟨.bool false,rfl,rfl,Ext.refl _⟩
       refine StepsL.cons (ps:= [(4,some 10)]) rfl (by kernel_rfl) (fun wi hx=> ?_) ?_
       ·intro v4 h4 K hK
        obtain rfl:=h4
        go_simp
        exact hK _ _ ⟨.pointer (some ⟨w.heap.size,1,none⟩),rfl,rfl,Ext.refl _⟩
       refine StepsL.cons (ps:= [(4,some 10),(5,some 11)]) rfl (by kernel_rfl) (fun wi hx=> ?_) ?_
       ·intro v4 h4 v5 h5 K hK
        obtain rfl:=h4
        obtain rfl:=h5
        have hX:Ext (w.alloc (.cells #[.int .i64 P,.slice q m c2,.slice q2 m2 d2] 25)) wi:=by(repeat' (first|exact Ext.refl _|(with_reducible assumption)|(with_reducible refine Ext.alloc ?_ _)|(with_reducible refine Ext.setCell ?_ (by first|exact Nat.le_refl _|(dsimp only;omega)|(simp;done)|(simp;omega)) _)|(with_reducible refine Ext.drew ?_)|(with_reducible refine Ext.drewN ?_ _)|(refine Ext.trans ?_ (by with_reducible assumption))))
        have cl0:wi.cell? ⟨w.heap.size,1,none⟩=some (.slice q m c2):=((Blk.new w 25 #[.int .i64 P,.slice q m c2,.slice q2 m2 d2]).ext hX).cell 1
        go_simp
        exact hK _ _ ⟨.slice q m c2,rfl,rfl,Ext.refl _⟩
       refine StepsL.cons (ps:= [(4,some 10),(6,some 12)]) rfl (by kernel_rfl) (fun wi hx=> ?_) ?_
       ·intro v4 h4 v6 h6 K hK
        obtain rfl:=h4
        obtain rfl:=h6
        go_simp
        refine(HB.out _ (Ext.trans (by(repeat' (first|exact Ext.refl _|(with_reducible assumption)|(with_reducible refine Ext.alloc ?_ _)|(with_reducible refine Ext.setCell ?_ (by first|exact Nat.le_refl _|(dsimp only;omega)|(simp;done)|(simp;omega)) _)|(with_reducible refine Ext.drew ?_)|(with_reducible refine Ext.drewN ?_ _)|(refine Ext.trans ?_ (by with_reducible assumption))))) hx.of_drew)).mono ?_
        rintro e w5 ⟨rfl,hx5⟩
        go_simp
        exact hK _ _ ⟨.bool true,rfl,rfl,hx5⟩
       refine StepsL.cons (ps:= [(4,some 10),(7,some 13)]) rfl (by kernel_rfl) (fun wi hx=> ?_) ?_
       ·intro v4 h4 v7 h7 K hK
        obtain rfl:=h4
        obtain rfl:=h7
        go_simp
        exact hK _ _ ⟨.bool false,rfl,rfl,Ext.refl _⟩
       refine StepsL.cons (ps:= [(4,some 10),(8,some 14)]) rfl (by kernel_rfl) (fun wi hx=> ?_) ?_
       ·intro v4 h4 v8 h8 K hK
        obtain rfl:=h4
        obtain rfl:=h8
        go_simp
        exact hK _ _ ⟨.bool false,rfl,rfl,Ext.refl _⟩
       refine StepsL.cons (ps:= [(9,some 15)]) rfl (by kernel_rfl) (fun wi hx=> ?_) ?_
       ·intro v9 h9 K hK
        obtain rfl:=h9
        go_simp
        exact hK _ _ ⟨.bool false,rfl,rfl,Ext.refl _⟩
       refine StepsL.cons (ps:= [(10,some 16)]) rfl (by kernel_rfl) (fun wi hx=> ?_) ?_
       ·intro v10 h10 K hK
        obtain rfl:=h10
        go_simp
        exact hK _ _ ⟨.pointer (some ⟨w.heap.size,1,none⟩),rfl,rfl,Ext.refl _⟩
       refine StepsL.cons (ps:= [(10,some 16),(11,some 17)]) rfl (by kernel_rfl) (fun wi hx=> ?_) ?_
       ·intro v10 h10 v11 h11 K hK
        obtain rfl:=h10
        obtain rfl:=h11
        have hX:Ext (w.alloc (.cells #[.int .i64 P,.slice q m c2,.slice q2 m2 d2] 25)) wi:=by(repeat' (first|exact Ext.refl _|(with_reducible assumption)|(with_reducible refine Ext.alloc ?_ _)|(with_reducible refine Ext.setCell ?_ (by first|exact Nat.le_refl _|(dsimp only;omega)|(simp;done)|(simp;omega)) _)|(with_reducible refine Ext.drew ?_)|(with_reducible refine Ext.drewN ?_ _)|(refine Ext.trans ?_ (by with_reducible assumption))))
        have cl0:wi.cell? ⟨w.heap.size,1,none⟩=some (.slice q m c2):=((Blk.new w 25 #[.int .i64 P,.slice q m c2,.slice q2 m2 d2]).ext hX).cell 1
        go_simp
        exact hK _ _ ⟨.slice q m c2,rfl,rfl,Ext.refl _⟩
       refine StepsL.cons (ps:= [(10,some 16),(12,some 18)]) rfl (by kernel_rfl) (fun wi hx=> ?_) ?_
       ·intro v10 h10 v12 h12 K hK
        obtain rfl:=h10
        obtain rfl:=h12
        go_simp
        refine(HM.out _ (Ext.trans (by(repeat' (first|exact Ext.refl _|(with_reducible assumption)|(with_reducible refine Ext.alloc ?_ _)|(with_reducible refine Ext.setCell ?_ (by first|exact Nat.le_refl _|(dsimp only;omega)|(simp;done)|(simp;omega)) _)|(with_reducible refine Ext.drew ?_)|(with_reducible refine Ext.drewN ?_ _)|(refine Ext.trans ?_ (by with_reducible assumption))))) hx.of_drew)).mono ?_
        rintro e w5 ⟨rfl,hx5⟩
        go_simp
        exact hK _ _ ⟨.int .i64 Mx,rfl,rfl,hx5⟩
       refine StepsL.cons (ps:= [(10,some 16)]) rfl (by kernel_rfl) (fun wi hx=> ?_) ?_
       ·intro v10 h10 K hK
        obtain rfl:=h10
        go_simp
        exact hK _ _ ⟨.pointer (some ⟨w.heap.size,0,none⟩),rfl,rfl,Ext.refl _⟩
       refine StepsL.cons (ps:= [(10,some 16),(14,some 20)]) rfl (by kernel_rfl) (fun wi hx=> ?_) ?_
       ·intro v10 h10 v14 h14 K hK
        obtain rfl:=h10
        obtain rfl:=h14
        have hX:Ext (w.alloc (.cells #[.int .i64 P,.slice q m c2,.slice q2 m2 d2] 25)) wi:=by(repeat' (first|exact Ext.refl _|(with_reducible assumption)|(with_reducible refine Ext.alloc ?_ _)|(with_reducible refine Ext.setCell ?_ (by first|exact Nat.le_refl _|(dsimp only;omega)|(simp;done)|(simp;omega)) _)|(with_reducible refine Ext.drew ?_)|(with_reducible refine Ext.drewN ?_ _)|(refine Ext.trans ?_ (by with_reducible assumption))))
        have cl0:wi.cell? ⟨w.heap.size,0,none⟩=some (.int .i64 P):=((Blk.new w 25 #[.int .i64 P,.slice q m c2,.slice q2 m2 d2]).ext hX).cell 0
        go_simp
        exact hK _ _ ⟨.int .i64 P,rfl,rfl,Ext.refl _⟩
       refine StepsL.cons (ps:= [(10,some 16),(13,some 19),(15,some 21)]) rfl (by kernel_rfl) (fun wi hx=> ?_) ?_
       ·intro v10 h10 v13 h13 v15 h15 K hK
        obtain rfl:=h10
        obtain rfl:=h13
        obtain rfl:=h15
        go_simp
        exact hK _ _ ⟨.bool false,rfl,rfl,Ext.refl _⟩
       refine StepsL.cons (ps:= [(10,some 16),(16,some 22)]) rfl (by kernel_rfl) (fun wi hx=> ?_) ?_
       ·intro v10 h10 v16 h16 K hK
        obtain rfl:=h10
        obtain rfl:=h16
        go_simp
        exact hK _ _ ⟨.bool false,rfl,rfl,Ext.refl _⟩
       refine StepsL.cons (ps:= [(17,some 23)]) rfl (by kernel_rfl) (fun wi hx=> ?_) ?_
       ·intro v17 h17 K hK
        obtain rfl:=h17
        go_simp
        exact hK _ _ ⟨.bool false,rfl,rfl,Ext.refl _⟩
       refine StepsL.cons (ps:= [(18,some 24)]) rfl (by kernel_rfl) (fun wi hx=> ?_) ?_
       ·intro v18 h18 K hK
        obtain rfl:=h18
        go_simp
        exact hK _ _ ⟨.pointer (some ⟨w.heap.size,2,none⟩),rfl,rfl,Ext.refl _⟩
       refine StepsL.cons (ps:= [(18,some 24),(19,some 25)]) rfl (by kernel_rfl) (fun wi hx=> ?_) ?_
       ·intro v18 h18 v19 h19 K hK
        obtain rfl:=h18
        obtain rfl:=h19
        have hX:Ext (w.alloc (.cells #[.int .i64 P,.slice q m c2,.slice q2 m2 d2] 25)) wi:=by(repeat' (first|exact Ext.refl _|(with_reducible assumption)|(with_reducible refine Ext.alloc ?_ _)|(with_reducible refine Ext.setCell ?_ (by first|exact Nat.le_refl _|(dsimp only;omega)|(simp;done)|(simp;omega)) _)|(with_reducible refine Ext.drew ?_)|(with_reducible refine Ext.drewN ?_ _)|(refine Ext.trans ?_ (by with_reducible assumption))))
        have cl0:wi.cell? ⟨w.heap.size,2,none⟩=some (.slice q2 m2 d2):=((Blk.new w 25 #[.int .i64 P,.slice q m c2,.slice q2 m2 d2]).ext hX).cell 2
        go_simp
        exact hK _ _ ⟨.slice q2 m2 d2,rfl,rfl,Ext.refl _⟩
       refine StepsL.cons (ps:= [(18,some 24),(20,some 26)]) rfl (by kernel_rfl) (fun wi hx=> ?_) ?_
       ·intro v18 h18 v20 h20 K hK
        obtain rfl:=h18
        obtain rfl:=h20
        go_simp
        exact hK _ _ ⟨.int .i64 (m2:Int),rfl,rfl,Ext.refl _⟩
       refine StepsL.cons (ps:= [(18,some 24),(21,some 27)]) rfl (by kernel_rfl) (fun wi hx=> ?_) ?_
       ·intro v18 h18 v21 h21 K hK
        obtain rfl:=h18
        obtain rfl:=h21
        go_simp
        exact hK _ _ ⟨.bool false,rfl,rfl,Ext.refl _⟩
       refine StepsL.cons (ps:= [(18,some 24),(22,some 28)]) rfl (by kernel_rfl) (fun wi hx=> ?_) StepsL.nil
       ·intro v18 h18 v22 h22 K hK
        obtain rfl:=h18
        obtain rfl:=h22
        go_simp
        exact hK _ _ ⟨.bool false,rfl,rfl,Ext.refl _⟩
      case fin=>
       intro wi hx v0 h0 v1 h1 v2 h2 v3 h3 v4 h4 v5 h5 v6 h6 v7 h7 v8 h8 v9 h9 v10 h10 v11 h11 v12 h12 v13 h13 v14 h14 v15 h15 v16 h16 v17 h17 v18 h18 v19 h19 v20 h20 v21 h21 v22 h22 v23 h23
       obtain rfl:=h0
       obtain rfl:=h1
       obtain rfl:=h2
       obtain rfl:=h3
       obtain rfl:=h4
       obtain rfl:=h5
       obtain rfl:=h6
       obtain rfl:=h7
       obtain rfl:=h8
       obtain rfl:=h9
       obtain rfl:=h10
       obtain rfl:=h11
       obtain rfl:=h12
       obtain rfl:=h13
       obtain rfl:=h14
       obtain rfl:=h15
       obtain rfl:=h16
       obtain rfl:=h17
       obtain rfl:=h18
       obtain rfl:=h19
       obtain rfl:=h20
       obtain rfl:=h21
       obtain rfl:=h22
       obtain rfl:=h23
       refine wpAny_done (by kernel_rfl) ?_ _
       try simp only[Act.put,List.setIfInBounds_toArray,List.set_cons_zero,List.set_cons_succ]
       have M0:=Lib.hid (show Mem w wi [blkI w.heap.size (w.heap.size) 25 #[.int .i64 P,.slice q m c2,.slice q2 m2 d2]]from((Mem.start w).blkNew 25 _ (w.heap.size) rfl).adv hx.of_drew)
       clear hx
       go_wp2
       go_loopw [3] (fun x wr=> ∃k:Nat,1≤k∧(k≤m∨k=1)∧x= .int .i64 (k:Int)∧(∀j,j+1<k→idAt T j<idAt T (j+1))∧Mem w wr [blkI w.heap.size (w.heap.size) 25 #[.int .i64 P,.slice q m c2,.slice q2 m2 d2]]) (fun x _=>m+1-(intOf x).toNat)
       case atStart=>exact⟨1,Nat.le_refl _,.inr rfl,rfl,fun j h=>by omega,M0.out⟩
       case round=>
        clear M0
        obtain⟨k,hk1,hk,rfl,hup,hM⟩:=hrel
        have HMm:=Lib.hid hM
        have HUP:=Lib.hid hup
        clear hM hup
        obtain⟨ce0,ce1,ce2⟩:=(HMm.out.blk (i:=0) rfl).tri
        by_cases hlt:k<m
        ·obtain⟨b,off,x0,x1,x2,x3,rfl,hv,hb,g0,g1,g2,g3⟩:=visit_at (HS.out.ext HMm.out.ext) hlt
         obtain⟨b9,off9,y0,y1,y2,y3,e9,hv2,hb2,u0,u1,u2,u3⟩:=visit_at (k:=k-1) (HS.out.ext HMm.out.ext) (by omega)
         cases e9
         have hi1:idAt T k=x0:=by simp[idAt,hv]
         have hi2:idAt T (k-1)=y0:=by simp[idAt,hv2]
         have hne:y0≠x0:=by
          intro e
          have hnd:=(((booksOk_iff T).1 HBK.out).2.2)
          have hp:=List.pairwise_iff_getElem.1 hnd (k-1) k (by rw[List.length_map,hl.out];omega) (by rw[List.length_map,hl.out];omega) (by omega)
          obtain⟨h1,h2⟩:=List.getElem?_eq_some_iff.1 hv
          obtain⟨h3,h4⟩:=List.getElem?_eq_some_iff.1 hv2
          simp only[List.getElem_map]at hp
          rw[h2,h4]at hp
          exact hp e
         have HI1:=Lib.hid hi1
         have HI2:=Lib.hid hi2
         clear hv hv2 hi1 hi2
         have i1:(0:Int)≤(k:Int):=by omega
         have i2:(k:Int)<(m:Int):=by omega
         have i3:(k:Int)-1<(m:Int):=by omega
         have i4:((k:Int)-1).toNat=k-1:=by omega
         have i5:(1:Int)≤(k:Int):=by omega
         by_cases hy:y0<x0
         ·have hnx:Hid (∀j,j+1<k+1→idAt T j<idAt T (j+1)):=by
           intro j hj
           by_cases e:j+1=k
           ·have e1:j=k-1:=by omega
            subst e1
            rw[HI2.out,show k-1+1=k by omega,HI1.out];exact hy
           ·exact HUP.out j (by omega)
          have t5:decide (x0≤y0)=false:=by simp;omega
          clear hne
          go_wp2
          go_quiet (fail)
          generalize hwi:World.drewN wr _=wi
          have hX:Ext wr wi:=by rw[←hwi];exact Ext.drewN (Ext.refl _) _
          clear hwi
          have HN:=Lib.hid (HMm.out.adv hX)
          clear HMm hX ce0 ce1 ce2 g0 g1 g2 g3 u0 u1 u2 u3 hb hb2
          go_wp2
          go_roundw
          case rel=>exact⟨k+1,by omega,by omega,by go_num,hnx.out,HN.out⟩
          case measure=>simp[intOf];omega
         ·have t5:decide (x0≤y0)=true:=by simp;omega
          have hfin:Hid (deskValid ⟨P,T,R⟩=false):=by
           show _=_
           cases hq:deskValid ⟨P,T,R⟩with
           |false=>rfl
           |true=>
            exfalso
            obtain⟨z1,z2,z3,z4,z5,z6⟩:=desk_parts hq
            dsimp only at z1 z2 z3 z4 z5 z6
            have:=idsUp_at z5 (k:=k-1) (by rw[hl.out];omega)
            rw[HI2.out,show k-1+1=k by omega,HI1.out]at this;exact hy this
          clear hne
          go_wp2
          go_quiet (fail)
          generalize hwi:World.drewN wr _=wi
          have hX:Ext wr wi:=by rw[←hwi];exact Ext.drewN (Ext.refl _) _
          clear hwi
          have HN:=Lib.hid (HMm.out.adv hX)
          clear HMm hX ce0 ce1 ce2 g0 g1 g2 g3 u0 u1 u2 u3 hb hb2
          go_wp2
          go_ret
          exact⟨by rw[hfin.out];rfl,HN.out.ext⟩
        ·have hUP:Hid (idsUp T=true):=by
          show _=_
          simp only[idsUp,List.all_eq_true,List.mem_range,decide_eq_true_eq]
          intro j _ hj
          exact HUP.out j (by rw[hl.out]at hj;omega)
         have HUPP:=Lib.hid (idsUp_iff.1 hUP.out)
         go_wp2
         go_loopw [4] (fun x wr=> ∃k:Nat,k≤m2∧x= .int .i64 (k:Int)∧(∀j,j<k→rowOk1 P T R j=true)∧Mem w wr [blkI w.heap.size (w.heap.size) 25 #[.int .i64 P,.slice q m c2,.slice q2 m2 d2]]) (fun x _=>m2-(intOf x).toNat)
         case atStart=>exact⟨0,Nat.zero_le _,rfl,fun j h=>by omega,HMm.out⟩
         case round=>
          clear ce0 ce1 ce2 HMm HUP
          obtain⟨k,hk,rfl,hrow,hM⟩:=hrel
          have HMm:=Lib.hid hM
          have HROW:=Lib.hid hrow
          clear hM hrow
          by_cases hlt2:k<m2
          ·obtain⟨ce0,ce1,ce2⟩:=(HMm.out.blk (i:=0) rfl).tri
           obtain⟨b,off,x0,x1,x2,x3,rfl,hv,hb,g0,g1,g2,g3⟩:=visit_at (HS2.out.ext HMm.out.ext) hlt2
           have HV:=Lib.hid hv
           clear hv
           have i1:(0:Int)≤(k:Int):=by omega
           have i2:(k:Int)<(m2:Int):=by omega
           have i6:k≤d2:=by have:=HS2.out.le;omega
           obtain⟨g9,hg9⟩: ∃g9,g9=wr.heap.size:=⟨_,rfl⟩
           obtain⟨wa,hwa⟩: ∃x,x=wr.alloc (.cells #[.int .i64 x0,.int .i64 x1,.int .i64 x2,.int .i64 x3] TBk):=⟨_,rfl⟩
           have MA:=Lib.hid (show Mem w wa [blkI w.heap.size (g9) TBk #[.int .i64 x0,.int .i64 x1,.int .i64 x2,.int .i64 x3],blkI w.heap.size (w.heap.size) 25 #[.int .i64 P,.slice q m c2,.slice (some ⟨b,off,none⟩) m2 d2]]from by rw[hwa];exact HMm.out.blkNew TBk _ g9 hg9.symm)
           go_wp2_with fail
           rw[←hwa,←hg9]
           clear hwa hg9 HMm ce0 ce1 ce2 g0 g1 g2 g3 hb
           have HRNO:Hid (rowOk1 P T R k=false→deskValid ⟨P,T,R⟩=false):=fun hro=>by
            cases hq:deskValid ⟨P,T,R⟩with
            |false=>rfl
            |true=>
             exfalso
             obtain⟨z1,z2,z3,z4,z5,z6⟩:=desk_parts hq
             dsimp only at z6
             have:=rowGo_at z6 (k:=k) (by rw[hl2.out];exact hlt2)
             rw[hro]at this;simp at this
           cases hbv:bookOk (x0,x1,x2,x3)with
           |false=>
            have HBV:Hid (∀w',Calls Tryd.prog 46 #[bookV x0 x1 x2 x3] w' fun e w''=>e= .returned (.bool false)∧Ext w' w''):=fun w'=>by rw[←hbv];exact specBv x0 x1 x2 x3 w'
            have hfin:=Lib.hid (HRNO.out (by unfold rowOk1;rw[HV.out];simp[hbv]))
            clear hbv
            refine(HBV.out _).mono ?_
            rintro e w1 ⟨rfl,hxw1⟩
            replace MA:=Lib.hid (MA.out.adv hxw1)
            clear hxw1
            go_wp2
            go_ret
            exact⟨by rw[hfin.out];rfl,MA.out.ext⟩
           |true=>
            have HBV:Hid (∀w',Calls Tryd.prog 46 #[bookV x0 x1 x2 x3] w' fun e w''=>e= .returned (.bool true)∧Ext w' w''):=fun w'=>by rw[←hbv];exact specBv x0 x1 x2 x3 w'
            have HBVK:=Lib.hid hbv
            clear hbv
            cases hnr:noBook x0 (R.take k)with
            |false=>
             obtain⟨X,hX,t6,t7⟩: ∃X,vix x0 R=X∧X<(k:Int)∧0≤X:=⟨_,rfl,vix_early hnr⟩
             have HFR:Hid (∀w',Ext w w'→Calls Tryd.prog 47 #[.slice (some ⟨b,off,none⟩) m2 d2,.int .i64 x0] w' fun e w''=>e= .returned (.int .i64 X)∧Ext w' w''):=fun w' hx=>by rw[←hX];exact l6Find_any x0 _ m2 d2 R w' (HS2.out.ext hx)
             have hfin:=Lib.hid (HRNO.out (by unfold rowOk1;rw[HV.out];simp[hnr]))
             clear hnr hX
             refine(HBV.out _).mono ?_
             rintro e w1 ⟨rfl,hxw1⟩
             replace MA:=Lib.hid (MA.out.adv hxw1)
             clear hxw1
             have cb0:w1.cell? ⟨g9,0,none⟩=some (.int .i64 x0):=(MA.out.blk (i:=0) rfl).cell 0
             obtain⟨ce0,ce1,ce2⟩:=(MA.out.blk (i:=1) rfl).tri
             go_wp2_with fail
             clear cb0 ce0 ce1 ce2
             refine(HFR.out _ MA.out.ext).mono ?_
             rintro e w2 ⟨rfl,hxw2⟩
             replace MA:=Lib.hid (MA.out.adv hxw2)
             clear hxw2
             go_wp2
             go_ret
             exact⟨by rw[hfin.out];rfl,MA.out.ext⟩
            |true=>
             have HFR:Hid (∀w',Ext w w'→Calls Tryd.prog 47 #[.slice (some ⟨b,off,none⟩) m2 d2,.int .i64 x0] w' fun e w''=>e= .returned (.int .i64 (k:Int))∧Ext w' w''):=fun w' hx=>by rw[←vix_self HV.out hnr];exact l6Find_any x0 _ m2 d2 R w' (HS2.out.ext hx)
             have HNR:=Lib.hid hnr
             clear hnr
             cases hnt:noBook x0 T with
             |false=>
              obtain⟨k9,_,hX,_⟩:=vix_pos hnt
              obtain⟨X,hX2,t8⟩: ∃X,vix x0 T=X∧0≤X:=⟨_,rfl,by rw[hX];omega⟩
              have HFT:Hid (∀w',Ext w w'→Calls Tryd.prog 47 #[.slice q m c2,.int .i64 x0] w' fun e w''=>e= .returned (.int .i64 X)∧Ext w' w''):=fun w' hx=>by rw[←hX2];exact l6Find_any x0 q m c2 T w' (HS.out.ext hx)
              have hfin:=Lib.hid (HRNO.out (by unfold rowOk1;rw[HV.out];simp[hnt]))
              clear hnt hX hX2
              refine(HBV.out _).mono ?_
              rintro e w1 ⟨rfl,hxw1⟩
              replace MA:=Lib.hid (MA.out.adv hxw1)
              clear hxw1
              have cb0:w1.cell? ⟨g9,0,none⟩=some (.int .i64 x0):=(MA.out.blk (i:=0) rfl).cell 0
              obtain⟨ce0,ce1,ce2⟩:=(MA.out.blk (i:=1) rfl).tri
              go_wp2_with fail
              clear cb0 ce0 ce1 ce2
              refine(HFR.out _ MA.out.ext).mono ?_
              rintro e w2 ⟨rfl,hxw2⟩
              replace MA:=Lib.hid (MA.out.adv hxw2)
              clear hxw2
              have cb0:w2.cell? ⟨g9,0,none⟩=some (.int .i64 x0):=(MA.out.blk (i:=0) rfl).cell 0
              obtain⟨ce0,ce1,ce2⟩:=(MA.out.blk (i:=1) rfl).tri
              go_wp2_with fail
              clear cb0 ce0 ce1 ce2
              refine(HFT.out _ MA.out.ext).mono ?_
              rintro e w3 ⟨rfl,hxw3⟩
              replace MA:=Lib.hid (MA.out.adv hxw3)
              clear hxw3
              go_wp2
              go_ret
              exact⟨by rw[hfin.out];rfl,MA.out.ext⟩
             |true=>
              have HFT:Hid (∀w',Ext w w'→Calls Tryd.prog 47 #[.slice q m c2,.int .i64 x0] w' fun e w''=>e= .returned (.int .i64 (-1))∧Ext w' w''):=fun w' hx=>by rw[←vix_neg hnt];exact l6Find_any x0 q m c2 T w' (HS.out.ext hx)
              have HNT:=Lib.hid hnt
              have hm7:m≤7:=by have:=((booksOk_iff T).1 HBK.out).1;rw[hl.out]at this;exact this
              have HFI0:Hid (∀w',Ext w w'→Calls Tryd.prog 48 #[.agg #[.int .i64 P,.slice q m c2,.slice (some ⟨b,off,none⟩) m2 d2],bookV x0 x1 x2 x3] w' fun e w''=>e= .returned (.bool (deskFits P T (x0,x1,x2,x3)))∧Ext w' w''):=fun w' hx=>l6Fits_any P q m c2 _ m2 d2 T x0 x1 x2 x3 w' (by omega) (HS.out.ext hx)
              clear hnt
              cases hft:deskFits P T (x0,x1,x2,x3)with
              |true=>
               have HFI:Hid (∀w',Ext w w'→Calls Tryd.prog 48 #[.agg #[.int .i64 P,.slice q m c2,.slice (some ⟨b,off,none⟩) m2 d2],bookV x0 x1 x2 x3] w' fun e w''=>e= .returned (.bool true)∧Ext w' w''):=fun w' hx=>by rw[←hft];exact HFI0.out w' hx
               have hfin:=Lib.hid (HRNO.out (by unfold rowOk1;rw[HV.out];simp[hft]))
               clear hft HFI0
               refine(HBV.out _).mono ?_
               rintro e w1 ⟨rfl,hxw1⟩
               replace MA:=Lib.hid (MA.out.adv hxw1)
               clear hxw1
               have cb0:w1.cell? ⟨g9,0,none⟩=some (.int .i64 x0):=(MA.out.blk (i:=0) rfl).cell 0
               obtain⟨ce0,ce1,ce2⟩:=(MA.out.blk (i:=1) rfl).tri
               go_wp2_with fail
               clear cb0 ce0 ce1 ce2
               refine(HFR.out _ MA.out.ext).mono ?_
               rintro e w2 ⟨rfl,hxw2⟩
               replace MA:=Lib.hid (MA.out.adv hxw2)
               clear hxw2
               have cb0:w2.cell? ⟨g9,0,none⟩=some (.int .i64 x0):=(MA.out.blk (i:=0) rfl).cell 0
               obtain⟨ce0,ce1,ce2⟩:=(MA.out.blk (i:=1) rfl).tri
               go_wp2_with fail
               clear cb0 ce0 ce1 ce2
               refine(HFT.out _ MA.out.ext).mono ?_
               rintro e w3 ⟨rfl,hxw3⟩
               replace MA:=Lib.hid (MA.out.adv hxw3)
               clear hxw3
               have cb0:w3.cell? ⟨g9,0,none⟩=some (.int .i64 x0):=(MA.out.blk (i:=0) rfl).cell 0
               have cb1:w3.cell? ⟨g9,1,none⟩=some (.int .i64 x1):=(MA.out.blk (i:=0) rfl).cell 1
               have cb2:w3.cell? ⟨g9,2,none⟩=some (.int .i64 x2):=(MA.out.blk (i:=0) rfl).cell 2
               have cb3:w3.cell? ⟨g9,3,none⟩=some (.int .i64 x3):=(MA.out.blk (i:=0) rfl).cell 3
               obtain⟨ce0,ce1,ce2⟩:=(MA.out.blk (i:=1) rfl).tri
               go_wp2_with fail
               clear cb0 cb1 cb2 cb3 ce0 ce1 ce2
               refine(HFI.out _ MA.out.ext).mono ?_
               rintro e w4 ⟨rfl,hxw4⟩
               replace MA:=Lib.hid (MA.out.adv hxw4)
               clear hxw4
               go_wp2
               go_ret
               exact⟨by rw[hfin.out];rfl,MA.out.ext⟩
              |false=>
               have HFI:Hid (∀w',Ext w w'→Calls Tryd.prog 48 #[.agg #[.int .i64 P,.slice q m c2,.slice (some ⟨b,off,none⟩) m2 d2],bookV x0 x1 x2 x3] w' fun e w''=>e= .returned (.bool false)∧Ext w' w''):=fun w' hx=>by rw[←hft];exact HFI0.out w' hx
               have hnx:Hid (∀j,j<k+1→rowOk1 P T R j=true):=by
                intro j hj
                by_cases e:j=k
                ·subst e;unfold rowOk1;rw[HV.out];simp[HBVK.out,HNR.out,HNT.out,hft]
                ·exact HROW.out j (by omega)
               clear hft HFI0
               refine(HBV.out _).mono ?_
               rintro e w1 ⟨rfl,hxw1⟩
               replace MA:=Lib.hid (MA.out.adv hxw1)
               clear hxw1
               have cb0:w1.cell? ⟨g9,0,none⟩=some (.int .i64 x0):=(MA.out.blk (i:=0) rfl).cell 0
               obtain⟨ce0,ce1,ce2⟩:=(MA.out.blk (i:=1) rfl).tri
               go_wp2_with fail
               clear cb0 ce0 ce1 ce2
               refine(HFR.out _ MA.out.ext).mono ?_
               rintro e w2 ⟨rfl,hxw2⟩
               replace MA:=Lib.hid (MA.out.adv hxw2)
               clear hxw2
               have cb0:w2.cell? ⟨g9,0,none⟩=some (.int .i64 x0):=(MA.out.blk (i:=0) rfl).cell 0
               obtain⟨ce0,ce1,ce2⟩:=(MA.out.blk (i:=1) rfl).tri
               go_wp2_with fail
               clear cb0 ce0 ce1 ce2
               refine(HFT.out _ MA.out.ext).mono ?_
               rintro e w3 ⟨rfl,hxw3⟩
               replace MA:=Lib.hid (MA.out.adv hxw3)
               clear hxw3
               have cb0:w3.cell? ⟨g9,0,none⟩=some (.int .i64 x0):=(MA.out.blk (i:=0) rfl).cell 0
               have cb1:w3.cell? ⟨g9,1,none⟩=some (.int .i64 x1):=(MA.out.blk (i:=0) rfl).cell 1
               have cb2:w3.cell? ⟨g9,2,none⟩=some (.int .i64 x2):=(MA.out.blk (i:=0) rfl).cell 2
               have cb3:w3.cell? ⟨g9,3,none⟩=some (.int .i64 x3):=(MA.out.blk (i:=0) rfl).cell 3
               obtain⟨ce0,ce1,ce2⟩:=(MA.out.blk (i:=1) rfl).tri
               go_wp2_with fail
               clear cb0 cb1 cb2 cb3 ce0 ce1 ce2
               refine(HFI.out _ MA.out.ext).mono ?_
               rintro e w4 ⟨rfl,hxw4⟩
               replace MA:=Lib.hid (MA.out.adv hxw4)
               clear hxw4
               have HN:=Lib.hid (show Mem w w4 [blkI w.heap.size (w.heap.size) 25 #[.int .i64 P,.slice q m c2,.slice (some ⟨b,off,none⟩) m2 d2]]from MA.out.pick [1] (by decide) rfl)
               clear MA
               go_wp2
               go_roundw
               case rel=>exact⟨k+1,by omega,by go_num,hnx.out,HN.out⟩
               case measure=>simp[intOf];omega
          ·obtain rfl:k=m2:=by omega
           have hfin:Hid (deskValid ⟨P,T,R⟩=true):=by
            show _=_
            refine desk_whole ⟨hp1,hp7⟩ HBK.out (by show booksMost T≤P;rw[HMX.out];omega) (by show R.length≤5;rw[hl2.out];omega) hUP.out ?_
            simp only[rowGo,List.all_eq_true,List.mem_range]
            intro j hj
            exact HROW.out j (by rw[hl2.out]at hj;exact hj)
           obtain⟨ce0,ce1,ce2⟩:=(HMm.out.blk (i:=0) rfl).tri
           go_wp2
           go_ret
           exact⟨by rw[hfin.out];rfl,HMm.out.ext⟩
  ·have hfin:Hid (deskValid ⟨P,T,R⟩=false):=by
    show _=_
    cases hq:deskValid ⟨P,T,R⟩with
    |false=>rfl
    |true=>
     exfalso
     obtain⟨z1,z2,z3,z4,z5,z6⟩:=desk_parts hq
     dsimp only at z1 z2 z3 z4 z5 z6
     omega
   have HI:Hid (∀w,Calls Tryd.prog 44 #[.int .i64 P,.int .i64 1,.int .i64 7] w fun e w'=>e= .returned (.bool false)∧w=w'):=fun w=>l1In_no P 1 7 w (.inr ⟨hp1,by omega⟩)
   go_enter Tryd.func11,Tryd.ntmps11
   go_wp2
   refine region_lin (gl [gEq (.pointer (some ⟨w.heap.size,0,none⟩)),gEq (.int .i64 P),gEq (.bool false),gEq (.bool true),gEq (.bool true),gEq (undef),gEq (undef),gEq (undef),gEq (undef),gEq (.bool true),gEq (.bool true),gEq (undef),gEq (undef),gEq (undef),gEq (undef),gEq (undef),gEq (undef),gEq (.bool true),gEq (.bool true),gEq (undef),gEq (undef),gEq (undef),gEq (undef),gEq (.bool true)]) 24 (by kernel_rfl) rfl (by kernel_rfl) (by kernel_rfl) (by kernel_rfl) (gl_mono (gl_cons (gEq_mono _) (gl_cons (gEq_mono _) (gl_cons (gEq_mono _) (gl_cons (gEq_mono _) (gl_cons (gEq_mono _) (gl_cons (gEq_mono _) (gl_cons (gEq_mono _) (gl_cons (gEq_mono _) (gl_cons (gEq_mono _) (gl_cons (gEq_mono _) (gl_cons (gEq_mono _) (gl_cons (gEq_mono _) (gl_cons (gEq_mono _) (gl_cons (gEq_mono _) (gl_cons (gEq_mono _) (gl_cons (gEq_mono _) (gl_cons (gEq_mono _) (gl_cons (gEq_mono _) (gl_cons (gEq_mono _) (gl_cons (gEq_mono _) (gl_cons (gEq_mono _) (gl_cons (gEq_mono _) (gl_cons (gEq_mono _) (gl_cons (gEq_mono _) (gl_nil)))))))))))))))))))))))))) (k:=24) (by kernel_rfl) (by decide) (ls:= [(0,some 6),(1,some 7),(2,some 8),(3,some 9),(4,some 10),(5,some 11),(6,some 12),(7,some 13),(8,some 14),(9,some 15),(10,some 16),(11,some 17),(12,some 18),(13,some 19),(14,some 20),(15,some 21),(16,some 22),(17,some 23),(18,some 24),(19,some 25),(20,some 26),(21,some 27),(22,some 28),(23,some 29)]) (by kernel_rfl) (ir:= [0,1,2,3,4,5,6,7,8,9,10,11,12,13,14,15,16,17,18,19,20,21,22,23]) (by kernel_rfl) ?steps (tl:=#[true,true,true,true,true,true,true,true,true,true,true,true,true,true,true,true,true,true,true,true,true,true,true,true]) (by kernel_rfl) ?fin
   case steps=>
    refine StepsL.cons (ps:= []) rfl (by kernel_rfl) (fun wi hx=> ?_) ?_
    ·intro K hK
     go_simp
     exact hK _ _ ⟨.pointer (some ⟨w.heap.size,0,none⟩),rfl,rfl,Ext.refl _⟩
    refine StepsL.cons (ps:= [(0,some 6)]) rfl (by kernel_rfl) (fun wi hx=> ?_) ?_
    ·intro v0 h0 K hK
     obtain rfl:=h0
     have hX:Ext (w.alloc (.cells #[.int .i64 P,.slice q m c2,.slice q2 m2 d2] 25)) wi:=by(repeat' (first|exact Ext.refl _|(with_reducible assumption)|(with_reducible refine Ext.alloc ?_ _)|(with_reducible refine Ext.setCell ?_ (by first|exact Nat.le_refl _|(dsimp only;omega)|(simp;done)|(simp;omega)) _)|(with_reducible refine Ext.drew ?_)|(with_reducible refine Ext.drewN ?_ _)|(refine Ext.trans ?_ (by with_reducible assumption))))
     have cl0:wi.cell? ⟨w.heap.size,0,none⟩=some (.int .i64 P):=((Blk.new w 25 #[.int .i64 P,.slice q m c2,.slice q2 m2 d2]).ext hX).cell 0
     go_simp
     exact hK _ _ ⟨.int .i64 P,rfl,rfl,Ext.refl _⟩
    refine StepsL.cons (ps:= [(1,some 7)]) rfl (by kernel_rfl) (fun wi hx=> ?_) ?_
    ·intro v1 h1 K hK
     obtain rfl:=h1
     go_simp
     refine(HI.out _).mono ?_
     rintro e w5 ⟨rfl,rfl⟩
     go_simp
     exact hK _ _ ⟨.bool false,rfl,rfl,Ext.refl _⟩
    refine StepsL.cons (ps:= [(2,some 8)]) rfl (by kernel_rfl) (fun wi hx=> ?_) ?_
    ·intro v2 h2 K hK
     obtain rfl:=h2
     go_simp
     exact hK _ _ ⟨.bool true,rfl,rfl,Ext.refl _⟩
    refine StepsL.cons (ps:= [(3,some 9)]) rfl (by kernel_rfl) (fun wi hx=> ?_) ?_
    ·intro v3 h3 K hK
     obtain rfl:=h3
     go_simp
     exact hK _ _ ⟨.bool true,rfl,rfl,Ext.refl _⟩
    refine StepsL.cons (ps:= [(4,some 10)]) rfl (by kernel_rfl) (fun wi hx=> ?_) ?_
    ·intro v4 h4 K hK
     obtain rfl:=h4
     go_simp
     exact hK _ _ ⟨undef,rfl,rfl,Ext.refl _⟩
    refine StepsL.cons (ps:= [(4,some 10),(5,some 11)]) rfl (by kernel_rfl) (fun wi hx=> ?_) ?_
    ·intro v4 h4 v5 h5 K hK
     obtain rfl:=h4
     obtain rfl:=h5
     go_simp
     exact hK _ _ ⟨undef,rfl,rfl,Ext.refl _⟩
    refine StepsL.cons (ps:= [(4,some 10),(6,some 12)]) rfl (by kernel_rfl) (fun wi hx=> ?_) ?_
    ·intro v4 h4 v6 h6 K hK
     obtain rfl:=h4
     obtain rfl:=h6
     go_simp
     exact hK _ _ ⟨undef,rfl,rfl,Ext.refl _⟩
    refine StepsL.cons (ps:= [(4,some 10),(7,some 13)]) rfl (by kernel_rfl) (fun wi hx=> ?_) ?_
    ·intro v4 h4 v7 h7 K hK
     obtain rfl:=h4
     obtain rfl:=h7
     go_simp
     exact hK _ _ ⟨undef,rfl,rfl,Ext.refl _⟩
    refine StepsL.cons (ps:= [(4,some 10),(8,some 14)]) rfl (by kernel_rfl) (fun wi hx=> ?_) ?_
    ·intro v4 h4 v8 h8 K hK
     obtain rfl:=h4
     obtain rfl:=h8
     go_simp
     exact hK _ _ ⟨.bool true,rfl,rfl,Ext.refl _⟩
    refine StepsL.cons (ps:= [(9,some 15)]) rfl (by kernel_rfl) (fun wi hx=> ?_) ?_
    ·intro v9 h9 K hK
     obtain rfl:=h9
     go_simp
     exact hK _ _ ⟨.bool true,rfl,rfl,Ext.refl _⟩
    refine StepsL.cons (ps:= [(10,some 16)]) rfl (by kernel_rfl) (fun wi hx=> ?_) ?_
    ·intro v10 h10 K hK
     obtain rfl:=h10
     go_simp
     exact hK _ _ ⟨undef,rfl,rfl,Ext.refl _⟩
    refine StepsL.cons (ps:= [(10,some 16),(11,some 17)]) rfl (by kernel_rfl) (fun wi hx=> ?_) ?_
    ·intro v10 h10 v11 h11 K hK
     obtain rfl:=h10
     obtain rfl:=h11
     go_simp
     exact hK _ _ ⟨undef,rfl,rfl,Ext.refl _⟩
    refine StepsL.cons (ps:= [(10,some 16),(12,some 18)]) rfl (by kernel_rfl) (fun wi hx=> ?_) ?_
    ·intro v10 h10 v12 h12 K hK
     obtain rfl:=h10
     obtain rfl:=h12
     go_simp
     exact hK _ _ ⟨undef,rfl,rfl,Ext.refl _⟩
    refine StepsL.cons (ps:= [(10,some 16)]) rfl (by kernel_rfl) (fun wi hx=> ?_) ?_
    ·intro v10 h10 K hK
     obtain rfl:=h10
     go_simp
     exact hK _ _ ⟨undef,rfl,rfl,Ext.refl _⟩
    refine StepsL.cons (ps:= [(10,some 16),(14,some 20)]) rfl (by kernel_rfl) (fun wi hx=> ?_) ?_
    ·intro v10 h10 v14 h14 K hK
     obtain rfl:=h10
     obtain rfl:=h14
     go_simp
     exact hK _ _ ⟨undef,rfl,rfl,Ext.refl _⟩
    refine StepsL.cons (ps:= [(10,some 16),(13,some 19),(15,some 21)]) rfl (by kernel_rfl) (fun wi hx=> ?_) ?_
    ·intro v10 h10 v13 h13 v15 h15 K hK
     obtain rfl:=h10
     obtain rfl:=h13
     obtain rfl:=h15
     go_simp
     exact hK _ _ ⟨undef,rfl,rfl,Ext.refl _⟩
    refine StepsL.cons (ps:= [(10,some 16),(16,some 22)]) rfl (by kernel_rfl) (fun wi hx=> ?_) ?_
    ·intro v10 h10 v16 h16 K hK
     obtain rfl:=h10
     obtain rfl:=h16
     go_simp
     exact hK _ _ ⟨.bool true,rfl,rfl,Ext.refl _⟩
    refine StepsL.cons (ps:= [(17,some 23)]) rfl (by kernel_rfl) (fun wi hx=> ?_) ?_
    ·intro v17 h17 K hK
     obtain rfl:=h17
     go_simp
     exact hK _ _ ⟨.bool true,rfl,rfl,Ext.refl _⟩
    refine StepsL.cons (ps:= [(18,some 24)]) rfl (by kernel_rfl) (fun wi hx=> ?_) ?_
    ·intro v18 h18 K hK
     obtain rfl:=h18
     go_simp
     exact hK _ _ ⟨undef,rfl,rfl,Ext.refl _⟩
    refine StepsL.cons (ps:= [(18,some 24),(19,some 25)]) rfl (by kernel_rfl) (fun wi hx=> ?_) ?_
    ·intro v18 h18 v19 h19 K hK
     obtain rfl:=h18
     obtain rfl:=h19
     go_simp
     exact hK _ _ ⟨undef,rfl,rfl,Ext.refl _⟩
    refine StepsL.cons (ps:= [(18,some 24),(20,some 26)]) rfl (by kernel_rfl) (fun wi hx=> ?_) ?_
    ·intro v18 h18 v20 h20 K hK
     obtain rfl:=h18
     obtain rfl:=h20
     go_simp
     exact hK _ _ ⟨undef,rfl,rfl,Ext.refl _⟩
    refine StepsL.cons (ps:= [(18,some 24),(21,some 27)]) rfl (by kernel_rfl) (fun wi hx=> ?_) ?_
    ·intro v18 h18 v21 h21 K hK
     obtain rfl:=h18
     obtain rfl:=h21
     go_simp
     exact hK _ _ ⟨undef,rfl,rfl,Ext.refl _⟩
    refine StepsL.cons (ps:= [(18,some 24),(22,some 28)]) rfl (by kernel_rfl) (fun wi hx=> ?_) StepsL.nil
    ·intro v18 h18 v22 h22 K hK
     obtain rfl:=h18
     obtain rfl:=h22
     go_simp
     exact hK _ _ ⟨.bool true,rfl,rfl,Ext.refl _⟩
   case fin=>
    intro wi hx v0 h0 v1 h1 v2 h2 v3 h3 v4 h4 v5 h5 v6 h6 v7 h7 v8 h8 v9 h9 v10 h10 v11 h11 v12 h12 v13 h13 v14 h14 v15 h15 v16 h16 v17 h17 v18 h18 v19 h19 v20 h20 v21 h21 v22 h22 v23 h23
    obtain rfl:=h0
    obtain rfl:=h1
    obtain rfl:=h2
    obtain rfl:=h3
    obtain rfl:=h4
    obtain rfl:=h5
    obtain rfl:=h6
    obtain rfl:=h7
    obtain rfl:=h8
    obtain rfl:=h9
    obtain rfl:=h10
    obtain rfl:=h11
    obtain rfl:=h12
    obtain rfl:=h13
    obtain rfl:=h14
    obtain rfl:=h15
    obtain rfl:=h16
    obtain rfl:=h17
    obtain rfl:=h18
    obtain rfl:=h19
    obtain rfl:=h20
    obtain rfl:=h21
    obtain rfl:=h22
    obtain rfl:=h23
    refine wpAny_done (by kernel_rfl) ?_ _
    try simp only[Act.put,List.setIfInBounds_toArray,List.set_cons_zero,List.set_cons_succ]
    have hx':=hx.of_drew
    go_wp2
    go_ret
    exact⟨by rw[hfin.out];rfl,Ext.trans (by(repeat' (first|exact Ext.refl _|(with_reducible assumption)|(with_reducible refine Ext.alloc ?_ _)|(with_reducible refine Ext.setCell ?_ (by first|exact Nat.le_refl _|(dsimp only;omega)|(simp;done)|(simp;omega)) _)|(with_reducible refine Ext.drew ?_)|(with_reducible refine Ext.drewN ?_ _)|(refine Ext.trans ?_ (by with_reducible assumption))))) hx'⟩
 ·have hfin:Hid (deskValid ⟨P,T,R⟩=false):=by
   show _=_
   cases hq:deskValid ⟨P,T,R⟩with
   |false=>rfl
   |true=>
    exfalso
    obtain⟨z1,z2,z3,z4,z5,z6⟩:=desk_parts hq
    dsimp only at z1 z2 z3 z4 z5 z6
    omega
  have HI:Hid (∀w,Calls Tryd.prog 44 #[.int .i64 P,.int .i64 1,.int .i64 7] w fun e w'=>e= .returned (.bool false)∧w=w'):=fun w=>l1In_no P 1 7 w (.inl (by omega))
  go_enter Tryd.func11,Tryd.ntmps11
  go_wp2
  refine region_lin (gl [gEq (.pointer (some ⟨w.heap.size,0,none⟩)),gEq (.int .i64 P),gEq (.bool false),gEq (.bool true),gEq (.bool true),gEq (undef),gEq (undef),gEq (undef),gEq (undef),gEq (.bool true),gEq (.bool true),gEq (undef),gEq (undef),gEq (undef),gEq (undef),gEq (undef),gEq (undef),gEq (.bool true),gEq (.bool true),gEq (undef),gEq (undef),gEq (undef),gEq (undef),gEq (.bool true)]) 24 (by kernel_rfl) rfl (by kernel_rfl) (by kernel_rfl) (by kernel_rfl) (gl_mono (gl_cons (gEq_mono _) (gl_cons (gEq_mono _) (gl_cons (gEq_mono _) (gl_cons (gEq_mono _) (gl_cons (gEq_mono _) (gl_cons (gEq_mono _) (gl_cons (gEq_mono _) (gl_cons (gEq_mono _) (gl_cons (gEq_mono _) (gl_cons (gEq_mono _) (gl_cons (gEq_mono _) (gl_cons (gEq_mono _) (gl_cons (gEq_mono _) (gl_cons (gEq_mono _) (gl_cons (gEq_mono _) (gl_cons (gEq_mono _) (gl_cons (gEq_mono _) (gl_cons (gEq_mono _) (gl_cons (gEq_mono _) (gl_cons (gEq_mono _) (gl_cons (gEq_mono _) (gl_cons (gEq_mono _) (gl_cons (gEq_mono _) (gl_cons (gEq_mono _) (gl_nil)))))))))))))))))))))))))) (k:=24) (by kernel_rfl) (by decide) (ls:= [(0,some 6),(1,some 7),(2,some 8),(3,some 9),(4,some 10),(5,some 11),(6,some 12),(7,some 13),(8,some 14),(9,some 15),(10,some 16),(11,some 17),(12,some 18),(13,some 19),(14,some 20),(15,some 21),(16,some 22),(17,some 23),(18,some 24),(19,some 25),(20,some 26),(21,some 27),(22,some 28),(23,some 29)]) (by kernel_rfl) (ir:= [0,1,2,3,4,5,6,7,8,9,10,11,12,13,14,15,16,17,18,19,20,21,22,23]) (by kernel_rfl) ?steps (tl:=#[true,true,true,true,true,true,true,true,true,true,true,true,true,true,true,true,true,true,true,true,true,true,true,true]) (by kernel_rfl) ?fin
  case steps=>
   refine StepsL.cons (ps:= []) rfl (by kernel_rfl) (fun wi hx=> ?_) ?_
   ·intro K hK
    go_simp
    exact hK _ _ ⟨.pointer (some ⟨w.heap.size,0,none⟩),rfl,rfl,Ext.refl _⟩
   refine StepsL.cons (ps:= [(0,some 6)]) rfl (by kernel_rfl) (fun wi hx=> ?_) ?_
   ·intro v0 h0 K hK
    obtain rfl:=h0
    have hX:Ext (w.alloc (.cells #[.int .i64 P,.slice q m c2,.slice q2 m2 d2] 25)) wi:=by(repeat' (first|exact Ext.refl _|(with_reducible assumption)|(with_reducible refine Ext.alloc ?_ _)|(with_reducible refine Ext.setCell ?_ (by first|exact Nat.le_refl _|(dsimp only;omega)|(simp;done)|(simp;omega)) _)|(with_reducible refine Ext.drew ?_)|(with_reducible refine Ext.drewN ?_ _)|(refine Ext.trans ?_ (by with_reducible assumption))))
    have cl0:wi.cell? ⟨w.heap.size,0,none⟩=some (.int .i64 P):=((Blk.new w 25 #[.int .i64 P,.slice q m c2,.slice q2 m2 d2]).ext hX).cell 0
    go_simp
    exact hK _ _ ⟨.int .i64 P,rfl,rfl,Ext.refl _⟩
   refine StepsL.cons (ps:= [(1,some 7)]) rfl (by kernel_rfl) (fun wi hx=> ?_) ?_
   ·intro v1 h1 K hK
    obtain rfl:=h1
    go_simp
    refine(HI.out _).mono ?_
    rintro e w5 ⟨rfl,rfl⟩
    go_simp
    exact hK _ _ ⟨.bool false,rfl,rfl,Ext.refl _⟩
   refine StepsL.cons (ps:= [(2,some 8)]) rfl (by kernel_rfl) (fun wi hx=> ?_) ?_
   ·intro v2 h2 K hK
    obtain rfl:=h2
    go_simp
    exact hK _ _ ⟨.bool true,rfl,rfl,Ext.refl _⟩
   refine StepsL.cons (ps:= [(3,some 9)]) rfl (by kernel_rfl) (fun wi hx=> ?_) ?_
   ·intro v3 h3 K hK
    obtain rfl:=h3
    go_simp
    exact hK _ _ ⟨.bool true,rfl,rfl,Ext.refl _⟩
   refine StepsL.cons (ps:= [(4,some 10)]) rfl (by kernel_rfl) (fun wi hx=> ?_) ?_
   ·intro v4 h4 K hK
    obtain rfl:=h4
    go_simp
    exact hK _ _ ⟨undef,rfl,rfl,Ext.refl _⟩
   refine StepsL.cons (ps:= [(4,some 10),(5,some 11)]) rfl (by kernel_rfl) (fun wi hx=> ?_) ?_
   ·intro v4 h4 v5 h5 K hK
    obtain rfl:=h4
    obtain rfl:=h5
    go_simp
    exact hK _ _ ⟨undef,rfl,rfl,Ext.refl _⟩
   refine StepsL.cons (ps:= [(4,some 10),(6,some 12)]) rfl (by kernel_rfl) (fun wi hx=> ?_) ?_
   ·intro v4 h4 v6 h6 K hK
    obtain rfl:=h4
    obtain rfl:=h6
    go_simp
    exact hK _ _ ⟨undef,rfl,rfl,Ext.refl _⟩
   refine StepsL.cons (ps:= [(4,some 10),(7,some 13)]) rfl (by kernel_rfl) (fun wi hx=> ?_) ?_
   ·intro v4 h4 v7 h7 K hK
    obtain rfl:=h4
    obtain rfl:=h7
    go_simp
    exact hK _ _ ⟨undef,rfl,rfl,Ext.refl _⟩
   refine StepsL.cons (ps:= [(4,some 10),(8,some 14)]) rfl (by kernel_rfl) (fun wi hx=> ?_) ?_
   ·intro v4 h4 v8 h8 K hK
    obtain rfl:=h4
    obtain rfl:=h8
    go_simp
    exact hK _ _ ⟨.bool true,rfl,rfl,Ext.refl _⟩
   refine StepsL.cons (ps:= [(9,some 15)]) rfl (by kernel_rfl) (fun wi hx=> ?_) ?_
   ·intro v9 h9 K hK
    obtain rfl:=h9
    go_simp
    exact hK _ _ ⟨.bool true,rfl,rfl,Ext.refl _⟩
   refine StepsL.cons (ps:= [(10,some 16)]) rfl (by kernel_rfl) (fun wi hx=> ?_) ?_
   ·intro v10 h10 K hK
    obtain rfl:=h10
    go_simp
    exact hK _ _ ⟨undef,rfl,rfl,Ext.refl _⟩
   refine StepsL.cons (ps:= [(10,some 16),(11,some 17)]) rfl (by kernel_rfl) (fun wi hx=> ?_) ?_
   ·intro v10 h10 v11 h11 K hK
    obtain rfl:=h10
    obtain rfl:=h11
    go_simp
    exact hK _ _ ⟨undef,rfl,rfl,Ext.refl _⟩
   refine StepsL.cons (ps:= [(10,some 16),(12,some 18)]) rfl (by kernel_rfl) (fun wi hx=> ?_) ?_
   ·intro v10 h10 v12 h12 K hK
    obtain rfl:=h10
    obtain rfl:=h12
    go_simp
    exact hK _ _ ⟨undef,rfl,rfl,Ext.refl _⟩
   refine StepsL.cons (ps:= [(10,some 16)]) rfl (by kernel_rfl) (fun wi hx=> ?_) ?_
   ·intro v10 h10 K hK
    obtain rfl:=h10
    go_simp
    exact hK _ _ ⟨undef,rfl,rfl,Ext.refl _⟩
   refine StepsL.cons (ps:= [(10,some 16),(14,some 20)]) rfl (by kernel_rfl) (fun wi hx=> ?_) ?_
   ·intro v10 h10 v14 h14 K hK
    obtain rfl:=h10
    obtain rfl:=h14
    go_simp
    exact hK _ _ ⟨undef,rfl,rfl,Ext.refl _⟩
   refine StepsL.cons (ps:= [(10,some 16),(13,some 19),(15,some 21)]) rfl (by kernel_rfl) (fun wi hx=> ?_) ?_
   ·intro v10 h10 v13 h13 v15 h15 K hK
    obtain rfl:=h10
    obtain rfl:=h13
    obtain rfl:=h15
    go_simp
    exact hK _ _ ⟨undef,rfl,rfl,Ext.refl _⟩
   refine StepsL.cons (ps:= [(10,some 16),(16,some 22)]) rfl (by kernel_rfl) (fun wi hx=> ?_) ?_
   ·intro v10 h10 v16 h16 K hK
    obtain rfl:=h10
    obtain rfl:=h16
    go_simp
    exact hK _ _ ⟨.bool true,rfl,rfl,Ext.refl _⟩
   refine StepsL.cons (ps:= [(17,some 23)]) rfl (by kernel_rfl) (fun wi hx=> ?_) ?_
   ·intro v17 h17 K hK
    obtain rfl:=h17
    go_simp
    exact hK _ _ ⟨.bool true,rfl,rfl,Ext.refl _⟩
   refine StepsL.cons (ps:= [(18,some 24)]) rfl (by kernel_rfl) (fun wi hx=> ?_) ?_
   ·intro v18 h18 K hK
    obtain rfl:=h18
    go_simp
    exact hK _ _ ⟨undef,rfl,rfl,Ext.refl _⟩
   refine StepsL.cons (ps:= [(18,some 24),(19,some 25)]) rfl (by kernel_rfl) (fun wi hx=> ?_) ?_
   ·intro v18 h18 v19 h19 K hK
    obtain rfl:=h18
    obtain rfl:=h19
    go_simp
    exact hK _ _ ⟨undef,rfl,rfl,Ext.refl _⟩
   refine StepsL.cons (ps:= [(18,some 24),(20,some 26)]) rfl (by kernel_rfl) (fun wi hx=> ?_) ?_
   ·intro v18 h18 v20 h20 K hK
    obtain rfl:=h18
    obtain rfl:=h20
    go_simp
    exact hK _ _ ⟨undef,rfl,rfl,Ext.refl _⟩
   refine StepsL.cons (ps:= [(18,some 24),(21,some 27)]) rfl (by kernel_rfl) (fun wi hx=> ?_) ?_
   ·intro v18 h18 v21 h21 K hK
    obtain rfl:=h18
    obtain rfl:=h21
    go_simp
    exact hK _ _ ⟨undef,rfl,rfl,Ext.refl _⟩
   refine StepsL.cons (ps:= [(18,some 24),(22,some 28)]) rfl (by kernel_rfl) (fun wi hx=> ?_) StepsL.nil
   ·intro v18 h18 v22 h22 K hK
    obtain rfl:=h18
    obtain rfl:=h22
    go_simp
    exact hK _ _ ⟨.bool true,rfl,rfl,Ext.refl _⟩
  case fin=>
   intro wi hx v0 h0 v1 h1 v2 h2 v3 h3 v4 h4 v5 h5 v6 h6 v7 h7 v8 h8 v9 h9 v10 h10 v11 h11 v12 h12 v13 h13 v14 h14 v15 h15 v16 h16 v17 h17 v18 h18 v19 h19 v20 h20 v21 h21 v22 h22 v23 h23
   obtain rfl:=h0
   obtain rfl:=h1
   obtain rfl:=h2
   obtain rfl:=h3
   obtain rfl:=h4
   obtain rfl:=h5
   obtain rfl:=h6
   obtain rfl:=h7
   obtain rfl:=h8
   obtain rfl:=h9
   obtain rfl:=h10
   obtain rfl:=h11
   obtain rfl:=h12
   obtain rfl:=h13
   obtain rfl:=h14
   obtain rfl:=h15
   obtain rfl:=h16
   obtain rfl:=h17
   obtain rfl:=h18
   obtain rfl:=h19
   obtain rfl:=h20
   obtain rfl:=h21
   obtain rfl:=h22
   obtain rfl:=h23
   refine wpAny_done (by kernel_rfl) ?_ _
   try simp only[Act.put,List.setIfInBounds_toArray,List.set_cons_zero,List.set_cons_succ]
   have hx':=hx.of_drew
   go_wp2
   go_ret
   exact⟨by rw[hfin.out];rfl,Ext.trans (by(repeat' (first|exact Ext.refl _|(with_reducible assumption)|(with_reducible refine Ext.alloc ?_ _)|(with_reducible refine Ext.setCell ?_ (by first|exact Nat.le_refl _|(dsimp only;omega)|(simp;done)|(simp;omega)) _)|(with_reducible refine Ext.drew ?_)|(with_reducible refine Ext.drewN ?_ _)|(refine Ext.trans ?_ (by with_reducible assumption))))) hx'⟩
end Go.Proofs.YtndcnflchkfaeaaDoor

