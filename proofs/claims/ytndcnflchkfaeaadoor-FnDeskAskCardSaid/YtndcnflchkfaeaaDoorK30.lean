/-
  Texts of this proof, packed (@packed).
-/
import Derived.Test.YtndcnflchkfaeaaDoorK10
import Derived.Test.YtndcnflchkfaeaaDoorK29
namespace Go.Proofs.YtndcnflchkfaeaaDoor
open Go.RowKit
set_option linter.unusedVariables false
set_option linter.unusedSimpArgs false
set_option maxRecDepth 100000 in
set_option maxHeartbeats 8000000 in
theorem specBp (b off m c2:Nat)(bs:List Visit4)(w:World)(ho:booksOk bs=true)(hm0:0<m)(hS:Sl w (some ⟨b,off,none⟩) m c2 4 (bs.flatMap visitCells)):
  Calls Tryd.prog 66 #[.slice (some ⟨b,off,none⟩) m c2] w (RetInts (bookPlaces bs) w):=by
 have hl0:bs.length=m:=by have:=hS.len;rw[flat_len visitCells 4 (fun _=>rfl)]at this;omega
 have hm7:m≤7:=by have:=((booksOk_iff bs).1 ho).1;omega
 have hl:=Lib.hid hl0
 have HS:=Lib.hid hS
 have HOK:=Lib.hid ho
 have HV:Hid (∀w',Ext w w'→Calls Tryd.prog 28 #[.slice (some ⟨b,off,none⟩) m c2] w' fun e w''=>e= .returned (.bool true)∧Ext w' w''):=fun w' hx=>by rw[←ho];exact specBsv _ m c2 bs w' (hS.ext hx)
 have HF:Hid (∀w',Ext w w'→Calls Tryd.prog 87 #[.slice (some ⟨b,off,none⟩) m c2] w' (RetInts (natI (byFrom bs)) w')):=fun w' hx=>specByFrom _ m c2 bs w' hm7 (hS.ext hx)
 have hfl:Hid ((natI (byFrom bs)).length=m):=by show _=_;rw[natI_len,byFrom_len ho,hl0]
 clear hS hl0 ho
 go_enter Tryd.func66,Tryd.ntmps66
 go_wp2_with fail
 refine(HV.out _ (by(repeat' (first|exact Ext.refl _|(with_reducible assumption)|(with_reducible refine Ext.alloc ?_ _)|(with_reducible refine Ext.setCell ?_ (by first|exact Nat.le_refl _|(dsimp only;omega)|(simp;done)|(simp;omega)) _)|(with_reducible refine Ext.drew ?_)|(with_reducible refine Ext.drewN ?_ _)|(refine Ext.trans ?_ (by with_reducible assumption)))))).mono ?_
 rintro e w1 ⟨rfl,h1⟩
 have M0:=Lib.hid (show Mem w (w1.alloc (.cells #[] TI)) [ownI w.heap.size TI 1 (some ⟨w1.heap.size,0,none⟩) (0) (0) ([])]from((Mem.of h1).made0 TI 1 (w1.heap.size) (by simp)))
 go_wp2
 go_loopw [3,4] (fun v x wr=> ∃(k:Nat) (q3:Option Addr) (c3:Nat),k≤m∧x= .int .i64 (k:Int)∧v= .slice q3 k c3∧Mem w wr [ownI w.heap.size TI 1 (q3) (k) (c3) (ivs (List.replicate k (-1)))]) (fun _ x _=>m-(intOf x).toNat)
 case atStart=>exact⟨0,some ⟨w1.heap.size,0,none⟩,0,Nat.zero_le _,rfl,rfl,M0.out⟩
 case round=>
  clear M0
  obtain⟨k,q3,c3,hk,rfl,rfl,hM⟩:=hrel
  have HM:=Lib.hid hM
  clear hM h1
  by_cases hlt:k<m
  ·go_wp2_with (at_builtin;go_loud (refine wpList_appM elInt rfl _ _ rfl (HM.out.adv ((Ext.refl _).alloc (.cells #[.int .i64 (-1)] TI))) 0 rfl rfl [.int .i64 (-1)] rfl (sl_lit _ _ _ 1 1 _ (by simp) (by simp) (by simp[maxLen])) (iv_one _) (by omega) ?_;intro q7 c7 w6 M6))
   have M7:=Lib.hid (show Mem w w6 [ownI w.heap.size TI 1 (q7) (k+1) (c7) (ivs (List.replicate (k+1) (-1)))]from by rw[List.replicate_succ'];simpa using M6)
   clear M6 HM
   go_wp2
   go_roundw
   case rel=>exact⟨k+1,q7,c7,by omega,by go_num,rfl,M7.out⟩
   case measure=>simp[intOf];omega
  ·obtain rfl:k=m:=by omega
   obtain⟨g3,rfl,_,_⟩:=HM.out.some (i:=0) rfl hm0
   go_wp2_with fail
   refine(HF.out _ HM.out.ext).mono ?_
   rintro e w5 ⟨q5,c5,rfl,o5,h5⟩
   rw[hfl.out]at o5⊢
   have M5:=Lib.hid (show Mem w w5 [ownI w.heap.size TI 1 (q5) (k) (c5) (ivs (natI (byFrom bs))),ownI w.heap.size TI 1 (some ⟨g3,0,none⟩) (k) (c3) (ivs (placesAt bs 0))]from by rw[placesAt_zero,hl.out];exact HM.out.call h5 o5)
   obtain⟨g5,rfl,_,_⟩:=M5.out.some (i:=0) rfl hm0
   clear HM o5 h5
   obtain⟨m,rfl⟩: ∃m,m=k:=⟨k,rfl⟩
   go_wp2
   go_loopw [6] (fun x wr=> ∃k:Nat,k≤m∧x= .int .i64 (k:Int)∧Mem w wr [ownI w.heap.size TI 1 (some ⟨g5,0,none⟩) (m) (c5) (ivs (natI (byFrom bs))),ownI w.heap.size TI 1 (some ⟨g3,0,none⟩) (m) (c3) (ivs (placesAt bs k))]) (fun x _=>m-(intOf x).toNat)
   case atStart=>exact⟨0,Nat.zero_le _,rfl,M5.out⟩
   case round=>
    clear M5
    obtain⟨k,hk,rfl,hM⟩:=hrel
    have HM:=Lib.hid hM
    clear hM
    by_cases hkt:k<m
    ·obtain⟨i,hoi⟩: ∃i,(byFrom bs)[k]? =some i:=⟨_,List.getElem?_eq_getElem (by have:=hfl.out;rw[natI_len]at this;omega)⟩
     have hi:i<m:=by have:=byFrom_lt hoi;rw[hl.out]at this;exact this
     obtain⟨b9,off9,a0,a1,a2,a3,e9,hvi,hb,_⟩:=visit_at (HS.out.ext HM.out.ext) hi
     cases e9
     obtain⟨Q,hQ0,hQ7,hQu⟩:=place_room HOK.out hoi hvi
     have HVI:=Lib.hid hvi
     have HOI:=Lib.hid hoi
     have HQU:=Lib.hid hQu
     have hst:=Lib.hid (placesAt_succ hoi hvi)
     clear hvi hoi hQu
     go_wp2
     go_loopw [7,8] (fun pv jv wr=> ∃(P:Int) (j:Nat),pv= .int .i64 P∧jv= .int .i64 (j:Int)∧j≤m∧LInv bs (placesAt bs k) (a0,a1,a2,a3) Q P j∧Mem w wr [ownI w.heap.size TI 1 (some ⟨g5,0,none⟩) (m) (c5) (ivs (natI (byFrom bs))),ownI w.heap.size TI 1 (some ⟨g3,0,none⟩) (m) (c3) (ivs (placesAt bs k))]) (fun pv jv _=>(7-(intOf pv).toNat)*8+(m-(intOf jv).toNat))
     case atStart=>exact⟨0,0,rfl,rfl,Nat.zero_le _,LInv.start hQ0,HM.out⟩
     case round=>
      clear HM
      obtain⟨P,j,rfl,rfl,hj,hLI,hM⟩:=hrel
      have HM:=Lib.hid hM
      have HLI:=Lib.hid hLI
      have hP0:=hLI.p0
      have hPQ:=hLI.pq
      clear hM hLI
      by_cases hjt:j<m
      ·obtain⟨b9,off9,d0,d1,d2,d3,e9,hvj,hb',k0,k1,k2,k3⟩:=visit_at (HS.out.ext HM.out.ext) hjt
       cases e9
       obtain⟨b9,off9,x0,x1,x2,x3,e9,hvi,hb',u0,u1,u2,u3⟩:=visit_at (HS.out.ext HM.out.ext) hi
       cases e9
       rw[HVI.out]at hvi
       cases hvi
       have hpl:(placesAt bs k).length=m:=by rw[placesAt_len HOK.out,hl.out]
       obtain⟨o,hoj⟩: ∃o,(placesAt bs k)[j]? =some o:=⟨_,List.getElem?_eq_getElem (by omega)⟩
       have HVJ:=Lib.hid hvj
       have HOJ:=Lib.hid hoj
       have hg3:g3<wr.heap.size:=(HM.out.lt (i:=1) rfl rfl).2
       have hg5:g5<wr.heap.size:=(HM.out.lt (i:=0) rfl rfl).2
       have co:wr.cell? ⟨g3,j,none⟩=some (.int .i64 o):=((HM.out.own (i:=1) rfl).cellAt j (by omega)).trans (by simp[ivs,iv,hoj])
       have cor:wr.cell? ⟨g5,k,none⟩=some (.int .i64 (i:Int)):=((HM.out.own (i:=0) rfl).cellAt k (by omega)).trans (by simp[ivs,iv,natI,HOI.out])
       have HOVx:Hid (∀w',Calls Tryd.prog 88 #[bookV d0 d1 d2 d3,bookV a0 a1 a2 a3] w' fun e w''=>e= .returned (.bool (overlap (d0,d1,d2,d3) (a0,a1,a2,a3)))∧Ext w' w''):=fun w'=>specOv d0 d1 d2 d3 a0 a1 a2 a3 w'
       have i1:(0:Int)≤(j:Int):=by omega
       have i2:(j:Int)<(m:Int):=by omega
       have i3:(0:Int)≤(k:Int):=by omega
       have i4:(k:Int)<(m:Int):=by omega
       have i5:(0:Int)≤(i:Int):=by omega
       have i6:(i:Int)<(m:Int):=by omega
       clear hvj hoj hpl
       by_cases hop:o=P
       ·have hop':=hop.symm
        subst hop'
        cases hov:overlap (d0,d1,d2,d3) (a0,a1,a2,a3)with
        |true=>
         obtain⟨hnx',hPlt⟩:=HLI.out.hit HQU.out HVJ.out HOJ.out hov
         have hnx:=Lib.hid hnx'
         have HOV:Hid (∀w',Calls Tryd.prog 88 #[bookV d0 d1 d2 d3,bookV a0 a1 a2 a3] w' fun e w''=>e= .returned (.bool true)∧Ext w' w''):=fun w'=>by rw[←hov];exact HOVx.out w'
         clear hnx' hov HOVx
         go_wp2
         refine region_lin (gl [gEq (.slice (some ⟨g3,0,none⟩) m c3),gEq (.int .i64 (j:Int)),gEq (.pointer (some ⟨g3,j,none⟩)),gEq (.int .i64 P),gEq (.int .i64 P),gEq (.bool true),gEq (.bool true),gEq (.slice (some ⟨b,off,none⟩) m c2),gEq (.int .i64 (j:Int)),gEq (.pointer (some ⟨b,off+j*4,none⟩)),gEq (.agg #[.int .i64 d0,.int .i64 d1,.int .i64 d2,.int .i64 d3]),gEq (.slice (some ⟨b,off,none⟩) m c2),gEq (.slice (some ⟨g5,0,none⟩) m c5),gEq (.int .i64 (k:Int)),gEq (.pointer (some ⟨g5,k,none⟩)),gEq (.int .i64 (i:Int)),gEq (.pointer (some ⟨b,off+i*4,none⟩)),gEq (.agg #[.int .i64 a0,.int .i64 a1,.int .i64 a2,.int .i64 a3]),gEq (.bool true),gEq (.bool true)]) 20 (by kernel_rfl) rfl (by kernel_rfl) (by kernel_rfl) (by kernel_rfl) (gl_mono (gl_cons (gEq_mono _) (gl_cons (gEq_mono _) (gl_cons (gEq_mono _) (gl_cons (gEq_mono _) (gl_cons (gEq_mono _) (gl_cons (gEq_mono _) (gl_cons (gEq_mono _) (gl_cons (gEq_mono _) (gl_cons (gEq_mono _) (gl_cons (gEq_mono _) (gl_cons (gEq_mono _) (gl_cons (gEq_mono _) (gl_cons (gEq_mono _) (gl_cons (gEq_mono _) (gl_cons (gEq_mono _) (gl_cons (gEq_mono _) (gl_cons (gEq_mono _) (gl_cons (gEq_mono _) (gl_cons (gEq_mono _) (gl_cons (gEq_mono _) (gl_nil)))))))))))))))))))))) (k:=20) (by kernel_rfl) (by decide) (ls:= [(0,some 37),(1,some 38),(2,some 39),(3,some 40),(4,some 41),(5,some 42),(6,some 43),(7,some 44),(8,some 45),(9,some 46),(10,some 47),(11,some 48),(12,some 49),(13,some 50),(14,some 51),(15,some 52),(16,some 53),(17,some 54),(18,some 55),(19,some 56)]) (by kernel_rfl) (ir:= [0,1,2,3,4,5,6,7,8,9,10,11,12,13,14,15,16,17,18,19]) (by kernel_rfl) ?steps (tl:=#[true,true,true,true,true,true,true,true,true,true,true,true,true,true,true,true,true,true,true,true]) (by kernel_rfl) ?fin
         case steps=>
          refine StepsL.cons (ps:= []) rfl (by kernel_rfl) (fun wi hx=> ?_) ?_
          ·intro K hK
           go_simp
           exact hK _ _ ⟨.slice (some ⟨g3,0,none⟩) m c3,rfl,rfl,Ext.refl _⟩
          refine StepsL.cons (ps:= []) rfl (by kernel_rfl) (fun wi hx=> ?_) ?_
          ·intro K hK
           go_simp
           exact hK _ _ ⟨.int .i64 (j:Int),rfl,rfl,Ext.refl _⟩
          refine StepsL.cons (ps:= [(0,some 37),(1,some 38)]) rfl (by kernel_rfl) (fun wi hx=> ?_) ?_
          ·intro v0 h0 v1 h1 K hK
           obtain rfl:=h0
           obtain rfl:=h1
           go_simp
           exact hK _ _ ⟨.pointer (some ⟨g3,j,none⟩),rfl,rfl,Ext.refl _⟩
          refine StepsL.cons (ps:= [(2,some 39)]) rfl (by kernel_rfl) (fun wi hx=> ?_) ?_
          ·intro v2 h2 K hK
           obtain rfl:=h2
           have hX:Ext wr wi:=by(repeat' (first|exact Ext.refl _|(with_reducible assumption)|(with_reducible refine Ext.alloc ?_ _)|(with_reducible refine Ext.setCell ?_ (by first|exact Nat.le_refl _|(dsimp only;omega)|(simp;done)|(simp;omega)) _)|(with_reducible refine Ext.drew ?_)|(with_reducible refine Ext.drewN ?_ _)|(refine Ext.trans ?_ (by with_reducible assumption))))
           have cl0:wi.cell? ⟨g3,j,none⟩=some (.int .i64 P):=(hX.cells.1 _ _ hg3).trans co
           go_simp
           exact hK _ _ ⟨.int .i64 P,rfl,rfl,Ext.refl _⟩
          refine StepsL.cons (ps:= []) rfl (by kernel_rfl) (fun wi hx=> ?_) ?_
          ·intro K hK
           go_simp
           exact hK _ _ ⟨.int .i64 P,rfl,rfl,Ext.refl _⟩
          refine StepsL.cons (ps:= [(3,some 40),(4,some 41)]) rfl (by kernel_rfl) (fun wi hx=> ?_) ?_
          ·intro v3 h3 v4 h4 K hK
           obtain rfl:=h3
           obtain rfl:=h4
           go_simp
           exact hK _ _ ⟨.bool true,rfl,rfl,Ext.refl _⟩
          refine StepsL.cons (ps:= [(5,some 42)]) rfl (by kernel_rfl) (fun wi hx=> ?_) ?_
          ·intro v5 h5 K hK
           obtain rfl:=h5
           go_simp
           exact hK _ _ ⟨.bool true,rfl,rfl,Ext.refl _⟩
          refine StepsL.cons (ps:= [(6,some 43)]) rfl (by kernel_rfl) (fun wi hx=> ?_) ?_
          ·intro v6 h6 K hK
           obtain rfl:=h6
           go_simp
           exact hK _ _ ⟨.slice (some ⟨b,off,none⟩) m c2,rfl,rfl,Ext.refl _⟩
          refine StepsL.cons (ps:= [(6,some 43)]) rfl (by kernel_rfl) (fun wi hx=> ?_) ?_
          ·intro v6 h6 K hK
           obtain rfl:=h6
           go_simp
           exact hK _ _ ⟨.int .i64 (j:Int),rfl,rfl,Ext.refl _⟩
          refine StepsL.cons (ps:= [(6,some 43),(7,some 44),(8,some 45)]) rfl (by kernel_rfl) (fun wi hx=> ?_) ?_
          ·intro v6 h6 v7 h7 v8 h8 K hK
           obtain rfl:=h6
           obtain rfl:=h7
           obtain rfl:=h8
           go_simp
           exact hK _ _ ⟨.pointer (some ⟨b,off+j*4,none⟩),rfl,rfl,Ext.refl _⟩
          refine StepsL.cons (ps:= [(6,some 43),(9,some 46)]) rfl (by kernel_rfl) (fun wi hx=> ?_) ?_
          ·intro v6 h6 v9 h9 K hK
           obtain rfl:=h6
           obtain rfl:=h9
           have hX:Ext wr wi:=by(repeat' (first|exact Ext.refl _|(with_reducible assumption)|(with_reducible refine Ext.alloc ?_ _)|(with_reducible refine Ext.setCell ?_ (by first|exact Nat.le_refl _|(dsimp only;omega)|(simp;done)|(simp;omega)) _)|(with_reducible refine Ext.drew ?_)|(with_reducible refine Ext.drewN ?_ _)|(refine Ext.trans ?_ (by with_reducible assumption))))
           have cl0:wi.cell? ⟨b,off+j*4,none⟩=some (.int .i64 d0):=(hX.cells.1 _ _ hb').trans k0
           have cl1:wi.cell? ⟨b,off+j*4+1,none⟩=some (.int .i64 d1):=(hX.cells.1 _ _ hb').trans k1
           have cl2:wi.cell? ⟨b,off+j*4+2,none⟩=some (.int .i64 d2):=(hX.cells.1 _ _ hb').trans k2
           have cl3:wi.cell? ⟨b,off+j*4+3,none⟩=some (.int .i64 d3):=(hX.cells.1 _ _ hb').trans k3
           go_simp
           exact hK _ _ ⟨.agg #[.int .i64 d0,.int .i64 d1,.int .i64 d2,.int .i64 d3],rfl,rfl,Ext.refl _⟩
          refine StepsL.cons (ps:= [(6,some 43)]) rfl (by kernel_rfl) (fun wi hx=> ?_) ?_
          ·intro v6 h6 K hK
           obtain rfl:=h6
           go_simp
           exact hK _ _ ⟨.slice (some ⟨b,off,none⟩) m c2,rfl,rfl,Ext.refl _⟩
          refine StepsL.cons (ps:= [(6,some 43)]) rfl (by kernel_rfl) (fun wi hx=> ?_) ?_
          ·intro v6 h6 K hK
           obtain rfl:=h6
           go_simp
           exact hK _ _ ⟨.slice (some ⟨g5,0,none⟩) m c5,rfl,rfl,Ext.refl _⟩
          refine StepsL.cons (ps:= [(6,some 43)]) rfl (by kernel_rfl) (fun wi hx=> ?_) ?_
          ·intro v6 h6 K hK
           obtain rfl:=h6
           go_simp
           exact hK _ _ ⟨.int .i64 (k:Int),rfl,rfl,Ext.refl _⟩
          refine StepsL.cons (ps:= [(6,some 43),(12,some 49),(13,some 50)]) rfl (by kernel_rfl) (fun wi hx=> ?_) ?_
          ·intro v6 h6 v12 h12 v13 h13 K hK
           obtain rfl:=h6
           obtain rfl:=h12
           obtain rfl:=h13
           go_simp
           exact hK _ _ ⟨.pointer (some ⟨g5,k,none⟩),rfl,rfl,Ext.refl _⟩
          refine StepsL.cons (ps:= [(6,some 43),(14,some 51)]) rfl (by kernel_rfl) (fun wi hx=> ?_) ?_
          ·intro v6 h6 v14 h14 K hK
           obtain rfl:=h6
           obtain rfl:=h14
           have hX:Ext wr wi:=by(repeat' (first|exact Ext.refl _|(with_reducible assumption)|(with_reducible refine Ext.alloc ?_ _)|(with_reducible refine Ext.setCell ?_ (by first|exact Nat.le_refl _|(dsimp only;omega)|(simp;done)|(simp;omega)) _)|(with_reducible refine Ext.drew ?_)|(with_reducible refine Ext.drewN ?_ _)|(refine Ext.trans ?_ (by with_reducible assumption))))
           have cl0:wi.cell? ⟨g5,k,none⟩=some (.int .i64 (i:Int)):=(hX.cells.1 _ _ hg5).trans cor
           go_simp
           exact hK _ _ ⟨.int .i64 (i:Int),rfl,rfl,Ext.refl _⟩
          refine StepsL.cons (ps:= [(6,some 43),(11,some 48),(15,some 52)]) rfl (by kernel_rfl) (fun wi hx=> ?_) ?_
          ·intro v6 h6 v11 h11 v15 h15 K hK
           obtain rfl:=h6
           obtain rfl:=h11
           obtain rfl:=h15
           go_simp
           exact hK _ _ ⟨.pointer (some ⟨b,off+i*4,none⟩),rfl,rfl,Ext.refl _⟩
          refine StepsL.cons (ps:= [(6,some 43),(16,some 53)]) rfl (by kernel_rfl) (fun wi hx=> ?_) ?_
          ·intro v6 h6 v16 h16 K hK
           obtain rfl:=h6
           obtain rfl:=h16
           have hX:Ext wr wi:=by(repeat' (first|exact Ext.refl _|(with_reducible assumption)|(with_reducible refine Ext.alloc ?_ _)|(with_reducible refine Ext.setCell ?_ (by first|exact Nat.le_refl _|(dsimp only;omega)|(simp;done)|(simp;omega)) _)|(with_reducible refine Ext.drew ?_)|(with_reducible refine Ext.drewN ?_ _)|(refine Ext.trans ?_ (by with_reducible assumption))))
           have cl0:wi.cell? ⟨b,off+i*4,none⟩=some (.int .i64 a0):=(hX.cells.1 _ _ hb').trans u0
           have cl1:wi.cell? ⟨b,off+i*4+1,none⟩=some (.int .i64 a1):=(hX.cells.1 _ _ hb').trans u1
           have cl2:wi.cell? ⟨b,off+i*4+2,none⟩=some (.int .i64 a2):=(hX.cells.1 _ _ hb').trans u2
           have cl3:wi.cell? ⟨b,off+i*4+3,none⟩=some (.int .i64 a3):=(hX.cells.1 _ _ hb').trans u3
           go_simp
           exact hK _ _ ⟨.agg #[.int .i64 a0,.int .i64 a1,.int .i64 a2,.int .i64 a3],rfl,rfl,Ext.refl _⟩
          refine StepsL.cons (ps:= [(6,some 43),(10,some 47),(17,some 54)]) rfl (by kernel_rfl) (fun wi hx=> ?_) ?_
          ·intro v6 h6 v10 h10 v17 h17 K hK
           obtain rfl:=h6
           obtain rfl:=h10
           obtain rfl:=h17
           go_simp
           refine(HOV.out _).mono ?_
           rintro e w5 ⟨rfl,hx5⟩
           go_simp
           exact hK _ _ ⟨.bool true,rfl,rfl,hx5⟩
          refine StepsL.cons (ps:= [(6,some 43),(18,some 55)]) rfl (by kernel_rfl) (fun wi hx=> ?_) StepsL.nil
          ·intro v6 h6 v18 h18 K hK
           obtain rfl:=h6
           obtain rfl:=h18
           go_simp
           exact hK _ _ ⟨.bool true,rfl,rfl,Ext.refl _⟩
         case fin=>
          intro wi hx v0 h0 v1 h1 v2 h2 v3 h3 v4 h4 v5 h5 v6 h6 v7 h7 v8 h8 v9 h9 v10 h10 v11 h11 v12 h12 v13 h13 v14 h14 v15 h15 v16 h16 v17 h17 v18 h18 v19 h19
          obtain rfl:=h0
          obtain rfl:=h1
          obtain rfl:=h2
          obtain rfl:=h3
          obtain rfl:=h4
          obtain rfl:=h5
          obtain rfl:=h6
          obtain rfl:=h7
          obtain rfl:=h8
          obtain rfl:=h9
          obtain rfl:=h10
          obtain rfl:=h11
          obtain rfl:=h12
          obtain rfl:=h13
          obtain rfl:=h14
          obtain rfl:=h15
          obtain rfl:=h16
          obtain rfl:=h17
          obtain rfl:=h18
          obtain rfl:=h19
          refine wpAny_done (by kernel_rfl) ?_ _
          try simp only[Act.put,List.setIfInBounds_toArray,List.set_cons_zero,List.set_cons_succ]
          have hx':=hx.of_drew
          have HN:=Lib.hid (HM.out.adv hx')
          clear HM
          have hw1:IntKind.i64.wrap (P+1)=P+1:=IntWalk.i64_in _ (by omega)
          go_wp2
          go_roundw
          case rel=>exact⟨P+1,0,rfl,by go_num,by omega,hnx.out,HN.out⟩
          case measure=>simp[intOf];omega
        |false=>
         have hnx:=Lib.hid (HLI.out.miss HVJ.out HOJ.out (.inr hov))
         have HOV:Hid (∀w',Calls Tryd.prog 88 #[bookV d0 d1 d2 d3,bookV a0 a1 a2 a3] w' fun e w''=>e= .returned (.bool false)∧Ext w' w''):=fun w'=>by rw[←hov];exact HOVx.out w'
         clear hov HOVx
         go_wp2
         refine region_lin (gl [gEq (.slice (some ⟨g3,0,none⟩) m c3),gEq (.int .i64 (j:Int)),gEq (.pointer (some ⟨g3,j,none⟩)),gEq (.int .i64 P),gEq (.int .i64 P),gEq (.bool true),gEq (.bool true),gEq (.slice (some ⟨b,off,none⟩) m c2),gEq (.int .i64 (j:Int)),gEq (.pointer (some ⟨b,off+j*4,none⟩)),gEq (.agg #[.int .i64 d0,.int .i64 d1,.int .i64 d2,.int .i64 d3]),gEq (.slice (some ⟨b,off,none⟩) m c2),gEq (.slice (some ⟨g5,0,none⟩) m c5),gEq (.int .i64 (k:Int)),gEq (.pointer (some ⟨g5,k,none⟩)),gEq (.int .i64 (i:Int)),gEq (.pointer (some ⟨b,off+i*4,none⟩)),gEq (.agg #[.int .i64 a0,.int .i64 a1,.int .i64 a2,.int .i64 a3]),gEq (.bool false),gEq (.bool false)]) 20 (by kernel_rfl) rfl (by kernel_rfl) (by kernel_rfl) (by kernel_rfl) (gl_mono (gl_cons (gEq_mono _) (gl_cons (gEq_mono _) (gl_cons (gEq_mono _) (gl_cons (gEq_mono _) (gl_cons (gEq_mono _) (gl_cons (gEq_mono _) (gl_cons (gEq_mono _) (gl_cons (gEq_mono _) (gl_cons (gEq_mono _) (gl_cons (gEq_mono _) (gl_cons (gEq_mono _) (gl_cons (gEq_mono _) (gl_cons (gEq_mono _) (gl_cons (gEq_mono _) (gl_cons (gEq_mono _) (gl_cons (gEq_mono _) (gl_cons (gEq_mono _) (gl_cons (gEq_mono _) (gl_cons (gEq_mono _) (gl_cons (gEq_mono _) (gl_nil)))))))))))))))))))))) (k:=20) (by kernel_rfl) (by decide) (ls:= [(0,some 37),(1,some 38),(2,some 39),(3,some 40),(4,some 41),(5,some 42),(6,some 43),(7,some 44),(8,some 45),(9,some 46),(10,some 47),(11,some 48),(12,some 49),(13,some 50),(14,some 51),(15,some 52),(16,some 53),(17,some 54),(18,some 55),(19,some 56)]) (by kernel_rfl) (ir:= [0,1,2,3,4,5,6,7,8,9,10,11,12,13,14,15,16,17,18,19]) (by kernel_rfl) ?steps (tl:=#[true,true,true,true,true,true,true,true,true,true,true,true,true,true,true,true,true,true,true,true]) (by kernel_rfl) ?fin
         case steps=>
          refine StepsL.cons (ps:= []) rfl (by kernel_rfl) (fun wi hx=> ?_) ?_
          ·intro K hK
           go_simp
           exact hK _ _ ⟨.slice (some ⟨g3,0,none⟩) m c3,rfl,rfl,Ext.refl _⟩
          refine StepsL.cons (ps:= []) rfl (by kernel_rfl) (fun wi hx=> ?_) ?_
          ·intro K hK
           go_simp
           exact hK _ _ ⟨.int .i64 (j:Int),rfl,rfl,Ext.refl _⟩
          refine StepsL.cons (ps:= [(0,some 37),(1,some 38)]) rfl (by kernel_rfl) (fun wi hx=> ?_) ?_
          ·intro v0 h0 v1 h1 K hK
           obtain rfl:=h0
           obtain rfl:=h1
           go_simp
           exact hK _ _ ⟨.pointer (some ⟨g3,j,none⟩),rfl,rfl,Ext.refl _⟩
          refine StepsL.cons (ps:= [(2,some 39)]) rfl (by kernel_rfl) (fun wi hx=> ?_) ?_
          ·intro v2 h2 K hK
           obtain rfl:=h2
           have hX:Ext wr wi:=by(repeat' (first|exact Ext.refl _|(with_reducible assumption)|(with_reducible refine Ext.alloc ?_ _)|(with_reducible refine Ext.setCell ?_ (by first|exact Nat.le_refl _|(dsimp only;omega)|(simp;done)|(simp;omega)) _)|(with_reducible refine Ext.drew ?_)|(with_reducible refine Ext.drewN ?_ _)|(refine Ext.trans ?_ (by with_reducible assumption))))
           have cl0:wi.cell? ⟨g3,j,none⟩=some (.int .i64 P):=(hX.cells.1 _ _ hg3).trans co
           go_simp
           exact hK _ _ ⟨.int .i64 P,rfl,rfl,Ext.refl _⟩
          refine StepsL.cons (ps:= []) rfl (by kernel_rfl) (fun wi hx=> ?_) ?_
          ·intro K hK
           go_simp
           exact hK _ _ ⟨.int .i64 P,rfl,rfl,Ext.refl _⟩
          refine StepsL.cons (ps:= [(3,some 40),(4,some 41)]) rfl (by kernel_rfl) (fun wi hx=> ?_) ?_
          ·intro v3 h3 v4 h4 K hK
           obtain rfl:=h3
           obtain rfl:=h4
           go_simp
           exact hK _ _ ⟨.bool true,rfl,rfl,Ext.refl _⟩
          refine StepsL.cons (ps:= [(5,some 42)]) rfl (by kernel_rfl) (fun wi hx=> ?_) ?_
          ·intro v5 h5 K hK
           obtain rfl:=h5
           go_simp
           exact hK _ _ ⟨.bool true,rfl,rfl,Ext.refl _⟩
          refine StepsL.cons (ps:= [(6,some 43)]) rfl (by kernel_rfl) (fun wi hx=> ?_) ?_
          ·intro v6 h6 K hK
           obtain rfl:=h6
           go_simp
           exact hK _ _ ⟨.slice (some ⟨b,off,none⟩) m c2,rfl,rfl,Ext.refl _⟩
          refine StepsL.cons (ps:= [(6,some 43)]) rfl (by kernel_rfl) (fun wi hx=> ?_) ?_
          ·intro v6 h6 K hK
           obtain rfl:=h6
           go_simp
           exact hK _ _ ⟨.int .i64 (j:Int),rfl,rfl,Ext.refl _⟩
          refine StepsL.cons (ps:= [(6,some 43),(7,some 44),(8,some 45)]) rfl (by kernel_rfl) (fun wi hx=> ?_) ?_
          ·intro v6 h6 v7 h7 v8 h8 K hK
           obtain rfl:=h6
           obtain rfl:=h7
           obtain rfl:=h8
           go_simp
           exact hK _ _ ⟨.pointer (some ⟨b,off+j*4,none⟩),rfl,rfl,Ext.refl _⟩
          refine StepsL.cons (ps:= [(6,some 43),(9,some 46)]) rfl (by kernel_rfl) (fun wi hx=> ?_) ?_
          ·intro v6 h6 v9 h9 K hK
           obtain rfl:=h6
           obtain rfl:=h9
           have hX:Ext wr wi:=by(repeat' (first|exact Ext.refl _|(with_reducible assumption)|(with_reducible refine Ext.alloc ?_ _)|(with_reducible refine Ext.setCell ?_ (by first|exact Nat.le_refl _|(dsimp only;omega)|(simp;done)|(simp;omega)) _)|(with_reducible refine Ext.drew ?_)|(with_reducible refine Ext.drewN ?_ _)|(refine Ext.trans ?_ (by with_reducible assumption))))
           have cl0:wi.cell? ⟨b,off+j*4,none⟩=some (.int .i64 d0):=(hX.cells.1 _ _ hb').trans k0
           have cl1:wi.cell? ⟨b,off+j*4+1,none⟩=some (.int .i64 d1):=(hX.cells.1 _ _ hb').trans k1
           have cl2:wi.cell? ⟨b,off+j*4+2,none⟩=some (.int .i64 d2):=(hX.cells.1 _ _ hb').trans k2
           have cl3:wi.cell? ⟨b,off+j*4+3,none⟩=some (.int .i64 d3):=(hX.cells.1 _ _ hb').trans k3
           go_simp
           exact hK _ _ ⟨.agg #[.int .i64 d0,.int .i64 d1,.int .i64 d2,.int .i64 d3],rfl,rfl,Ext.refl _⟩
          refine StepsL.cons (ps:= [(6,some 43)]) rfl (by kernel_rfl) (fun wi hx=> ?_) ?_
          ·intro v6 h6 K hK
           obtain rfl:=h6
           go_simp
           exact hK _ _ ⟨.slice (some ⟨b,off,none⟩) m c2,rfl,rfl,Ext.refl _⟩
          refine StepsL.cons (ps:= [(6,some 43)]) rfl (by kernel_rfl) (fun wi hx=> ?_) ?_
          ·intro v6 h6 K hK
           obtain rfl:=h6
           go_simp
           exact hK _ _ ⟨.slice (some ⟨g5,0,none⟩) m c5,rfl,rfl,Ext.refl _⟩
          refine StepsL.cons (ps:= [(6,some 43)]) rfl (by kernel_rfl) (fun wi hx=> ?_) ?_
          ·intro v6 h6 K hK
           obtain rfl:=h6
           go_simp
           exact hK _ _ ⟨.int .i64 (k:Int),rfl,rfl,Ext.refl _⟩
          refine StepsL.cons (ps:= [(6,some 43),(12,some 49),(13,some 50)]) rfl (by kernel_rfl) (fun wi hx=> ?_) ?_
          ·intro v6 h6 v12 h12 v13 h13 K hK
           obtain rfl:=h6
           obtain rfl:=h12
           obtain rfl:=h13
           go_simp
           exact hK _ _ ⟨.pointer (some ⟨g5,k,none⟩),rfl,rfl,Ext.refl _⟩
          refine StepsL.cons (ps:= [(6,some 43),(14,some 51)]) rfl (by kernel_rfl) (fun wi hx=> ?_) ?_
          ·intro v6 h6 v14 h14 K hK
           obtain rfl:=h6
           obtain rfl:=h14
           have hX:Ext wr wi:=by(repeat' (first|exact Ext.refl _|(with_reducible assumption)|(with_reducible refine Ext.alloc ?_ _)|(with_reducible refine Ext.setCell ?_ (by first|exact Nat.le_refl _|(dsimp only;omega)|(simp;done)|(simp;omega)) _)|(with_reducible refine Ext.drew ?_)|(with_reducible refine Ext.drewN ?_ _)|(refine Ext.trans ?_ (by with_reducible assumption))))
           have cl0:wi.cell? ⟨g5,k,none⟩=some (.int .i64 (i:Int)):=(hX.cells.1 _ _ hg5).trans cor
           go_simp
           exact hK _ _ ⟨.int .i64 (i:Int),rfl,rfl,Ext.refl _⟩
          refine StepsL.cons (ps:= [(6,some 43),(11,some 48),(15,some 52)]) rfl (by kernel_rfl) (fun wi hx=> ?_) ?_
          ·intro v6 h6 v11 h11 v15 h15 K hK
           obtain rfl:=h6
           obtain rfl:=h11
           obtain rfl:=h15
           go_simp
           exact hK _ _ ⟨.pointer (some ⟨b,off+i*4,none⟩),rfl,rfl,Ext.refl _⟩
          refine StepsL.cons (ps:= [(6,some 43),(16,some 53)]) rfl (by kernel_rfl) (fun wi hx=> ?_) ?_
          ·intro v6 h6 v16 h16 K hK
           obtain rfl:=h6
           obtain rfl:=h16
           have hX:Ext wr wi:=by(repeat' (first|exact Ext.refl _|(with_reducible assumption)|(with_reducible refine Ext.alloc ?_ _)|(with_reducible refine Ext.setCell ?_ (by first|exact Nat.le_refl _|(dsimp only;omega)|(simp;done)|(simp;omega)) _)|(with_reducible refine Ext.drew ?_)|(with_reducible refine Ext.drewN ?_ _)|(refine Ext.trans ?_ (by with_reducible assumption))))
           have cl0:wi.cell? ⟨b,off+i*4,none⟩=some (.int .i64 a0):=(hX.cells.1 _ _ hb').trans u0
           have cl1:wi.cell? ⟨b,off+i*4+1,none⟩=some (.int .i64 a1):=(hX.cells.1 _ _ hb').trans u1
           have cl2:wi.cell? ⟨b,off+i*4+2,none⟩=some (.int .i64 a2):=(hX.cells.1 _ _ hb').trans u2
           have cl3:wi.cell? ⟨b,off+i*4+3,none⟩=some (.int .i64 a3):=(hX.cells.1 _ _ hb').trans u3
           go_simp
           exact hK _ _ ⟨.agg #[.int .i64 a0,.int .i64 a1,.int .i64 a2,.int .i64 a3],rfl,rfl,Ext.refl _⟩
          refine StepsL.cons (ps:= [(6,some 43),(10,some 47),(17,some 54)]) rfl (by kernel_rfl) (fun wi hx=> ?_) ?_
          ·intro v6 h6 v10 h10 v17 h17 K hK
           obtain rfl:=h6
           obtain rfl:=h10
           obtain rfl:=h17
           go_simp
           refine(HOV.out _).mono ?_
           rintro e w5 ⟨rfl,hx5⟩
           go_simp
           exact hK _ _ ⟨.bool false,rfl,rfl,hx5⟩
          refine StepsL.cons (ps:= [(6,some 43),(18,some 55)]) rfl (by kernel_rfl) (fun wi hx=> ?_) StepsL.nil
          ·intro v6 h6 v18 h18 K hK
           obtain rfl:=h6
           obtain rfl:=h18
           go_simp
           exact hK _ _ ⟨.bool false,rfl,rfl,Ext.refl _⟩
         case fin=>
          intro wi hx v0 h0 v1 h1 v2 h2 v3 h3 v4 h4 v5 h5 v6 h6 v7 h7 v8 h8 v9 h9 v10 h10 v11 h11 v12 h12 v13 h13 v14 h14 v15 h15 v16 h16 v17 h17 v18 h18 v19 h19
          obtain rfl:=h0
          obtain rfl:=h1
          obtain rfl:=h2
          obtain rfl:=h3
          obtain rfl:=h4
          obtain rfl:=h5
          obtain rfl:=h6
          obtain rfl:=h7
          obtain rfl:=h8
          obtain rfl:=h9
          obtain rfl:=h10
          obtain rfl:=h11
          obtain rfl:=h12
          obtain rfl:=h13
          obtain rfl:=h14
          obtain rfl:=h15
          obtain rfl:=h16
          obtain rfl:=h17
          obtain rfl:=h18
          obtain rfl:=h19
          refine wpAny_done (by kernel_rfl) ?_ _
          try simp only[Act.put,List.setIfInBounds_toArray,List.set_cons_zero,List.set_cons_succ]
          have hx':=hx.of_drew
          have HN:=Lib.hid (HM.out.adv hx')
          clear HM
          go_wp2
          go_roundw
          case rel=>exact⟨P,j+1,rfl,by go_num,by omega,hnx.out,HN.out⟩
          case measure=>simp[intOf];omega
       ·have q0:(o==P)=false:=by simp[hop]
        have hnx:=Lib.hid (HLI.out.miss HVJ.out HOJ.out (.inl hop))
        clear hop HOVx
        go_wp2
        refine region_lin (gl [gEq (.slice (some ⟨g3,0,none⟩) m c3),gEq (.int .i64 (j:Int)),gEq (.pointer (some ⟨g3,j,none⟩)),gEq (.int .i64 o),gEq (.int .i64 P),gEq (.bool false),gEq (.bool false),gEq (undef),gEq (undef),gEq (undef),gEq (undef),gEq (undef),gEq (undef),gEq (undef),gEq (undef),gEq (undef),gEq (undef),gEq (undef),gEq (undef),gEq (.bool false)]) 20 (by kernel_rfl) rfl (by kernel_rfl) (by kernel_rfl) (by kernel_rfl) (gl_mono (gl_cons (gEq_mono _) (gl_cons (gEq_mono _) (gl_cons (gEq_mono _) (gl_cons (gEq_mono _) (gl_cons (gEq_mono _) (gl_cons (gEq_mono _) (gl_cons (gEq_mono _) (gl_cons (gEq_mono _) (gl_cons (gEq_mono _) (gl_cons (gEq_mono _) (gl_cons (gEq_mono _) (gl_cons (gEq_mono _) (gl_cons (gEq_mono _) (gl_cons (gEq_mono _) (gl_cons (gEq_mono _) (gl_cons (gEq_mono _) (gl_cons (gEq_mono _) (gl_cons (gEq_mono _) (gl_cons (gEq_mono _) (gl_cons (gEq_mono _) (gl_nil)))))))))))))))))))))) (k:=20) (by kernel_rfl) (by decide) (ls:= [(0,some 37),(1,some 38),(2,some 39),(3,some 40),(4,some 41),(5,some 42),(6,some 43),(7,some 44),(8,some 45),(9,some 46),(10,some 47),(11,some 48),(12,some 49),(13,some 50),(14,some 51),(15,some 52),(16,some 53),(17,some 54),(18,some 55),(19,some 56)]) (by kernel_rfl) (ir:= [0,1,2,3,4,5,6,7,8,9,10,11,12,13,14,15,16,17,18,19]) (by kernel_rfl) ?steps (tl:=#[true,true,true,true,true,true,true,true,true,true,true,true,true,true,true,true,true,true,true,true]) (by kernel_rfl) ?fin
        case steps=>
         refine StepsL.cons (ps:= []) rfl (by kernel_rfl) (fun wi hx=> ?_) ?_
         ·intro K hK
          go_simp
          exact hK _ _ ⟨.slice (some ⟨g3,0,none⟩) m c3,rfl,rfl,Ext.refl _⟩
         refine StepsL.cons (ps:= []) rfl (by kernel_rfl) (fun wi hx=> ?_) ?_
         ·intro K hK
          go_simp
          exact hK _ _ ⟨.int .i64 (j:Int),rfl,rfl,Ext.refl _⟩
         refine StepsL.cons (ps:= [(0,some 37),(1,some 38)]) rfl (by kernel_rfl) (fun wi hx=> ?_) ?_
         ·intro v0 h0 v1 h1 K hK
          obtain rfl:=h0
          obtain rfl:=h1
          go_simp
          exact hK _ _ ⟨.pointer (some ⟨g3,j,none⟩),rfl,rfl,Ext.refl _⟩
         refine StepsL.cons (ps:= [(2,some 39)]) rfl (by kernel_rfl) (fun wi hx=> ?_) ?_
         ·intro v2 h2 K hK
          obtain rfl:=h2
          have hX:Ext wr wi:=by(repeat' (first|exact Ext.refl _|(with_reducible assumption)|(with_reducible refine Ext.alloc ?_ _)|(with_reducible refine Ext.setCell ?_ (by first|exact Nat.le_refl _|(dsimp only;omega)|(simp;done)|(simp;omega)) _)|(with_reducible refine Ext.drew ?_)|(with_reducible refine Ext.drewN ?_ _)|(refine Ext.trans ?_ (by with_reducible assumption))))
          have cl0:wi.cell? ⟨g3,j,none⟩=some (.int .i64 o):=(hX.cells.1 _ _ hg3).trans co
          go_simp
          exact hK _ _ ⟨.int .i64 o,rfl,rfl,Ext.refl _⟩
         refine StepsL.cons (ps:= []) rfl (by kernel_rfl) (fun wi hx=> ?_) ?_
         ·intro K hK
          go_simp
          exact hK _ _ ⟨.int .i64 P,rfl,rfl,Ext.refl _⟩
         refine StepsL.cons (ps:= [(3,some 40),(4,some 41)]) rfl (by kernel_rfl) (fun wi hx=> ?_) ?_
         ·intro v3 h3 v4 h4 K hK
          obtain rfl:=h3
          obtain rfl:=h4
          go_simp
          exact hK _ _ ⟨.bool false,rfl,rfl,Ext.refl _⟩
         refine StepsL.cons (ps:= [(5,some 42)]) rfl (by kernel_rfl) (fun wi hx=> ?_) ?_
         ·intro v5 h5 K hK
          obtain rfl:=h5
          go_simp
          exact hK _ _ ⟨.bool false,rfl,rfl,Ext.refl _⟩
         refine StepsL.cons (ps:= [(6,some 43)]) rfl (by kernel_rfl) (fun wi hx=> ?_) ?_
         ·intro v6 h6 K hK
          obtain rfl:=h6
          go_simp
          exact hK _ _ ⟨undef,rfl,rfl,Ext.refl _⟩
         refine StepsL.cons (ps:= [(6,some 43)]) rfl (by kernel_rfl) (fun wi hx=> ?_) ?_
         ·intro v6 h6 K hK
          obtain rfl:=h6
          go_simp
          exact hK _ _ ⟨undef,rfl,rfl,Ext.refl _⟩
         refine StepsL.cons (ps:= [(6,some 43),(7,some 44),(8,some 45)]) rfl (by kernel_rfl) (fun wi hx=> ?_) ?_
         ·intro v6 h6 v7 h7 v8 h8 K hK
          obtain rfl:=h6
          obtain rfl:=h7
          obtain rfl:=h8
          go_simp
          exact hK _ _ ⟨undef,rfl,rfl,Ext.refl _⟩
         refine StepsL.cons (ps:= [(6,some 43),(9,some 46)]) rfl (by kernel_rfl) (fun wi hx=> ?_) ?_
         ·intro v6 h6 v9 h9 K hK
          obtain rfl:=h6
          obtain rfl:=h9
          go_simp
          exact hK _ _ ⟨undef,rfl,rfl,Ext.refl _⟩
         refine StepsL.cons (ps:= [(6,some 43)]) rfl (by kernel_rfl) (fun wi hx=> ?_) ?_
         ·intro v6 h6 K hK
          obtain rfl:=h6
          go_simp
          exact hK _ _ ⟨undef,rfl,rfl,Ext.refl _⟩
         refine StepsL.cons (ps:= [(6,some 43)]) rfl (by kernel_rfl) (fun wi hx=> ?_) ?_
         ·intro v6 h6 K hK
          obtain rfl:=h6
          go_simp
          exact hK _ _ ⟨undef,rfl,rfl,Ext.refl _⟩
         refine StepsL.cons (ps:= [(6,some 43)]) rfl (by kernel_rfl) (fun wi hx=> ?_) ?_
         ·intro v6 h6 K hK
          obtain rfl:=h6
          go_simp
          exact hK _ _ ⟨undef,rfl,rfl,Ext.refl _⟩
         refine StepsL.cons (ps:= [(6,some 43),(12,some 49),(13,some 50)]) rfl (by kernel_rfl) (fun wi hx=> ?_) ?_
         ·intro v6 h6 v12 h12 v13 h13 K hK
          obtain rfl:=h6
          obtain rfl:=h12
          obtain rfl:=h13
          go_simp
          exact hK _ _ ⟨undef,rfl,rfl,Ext.refl _⟩
         refine StepsL.cons (ps:= [(6,some 43),(14,some 51)]) rfl (by kernel_rfl) (fun wi hx=> ?_) ?_
         ·intro v6 h6 v14 h14 K hK
          obtain rfl:=h6
          obtain rfl:=h14
          go_simp
          exact hK _ _ ⟨undef,rfl,rfl,Ext.refl _⟩
         refine StepsL.cons (ps:= [(6,some 43),(11,some 48),(15,some 52)]) rfl (by kernel_rfl) (fun wi hx=> ?_) ?_
         ·intro v6 h6 v11 h11 v15 h15 K hK
          obtain rfl:=h6
          obtain rfl:=h11
          obtain rfl:=h15
          go_simp
          exact hK _ _ ⟨undef,rfl,rfl,Ext.refl _⟩
         refine StepsL.cons (ps:= [(6,some 43),(16,some 53)]) rfl (by kernel_rfl) (fun wi hx=> ?_) ?_
         ·intro v6 h6 v16 h16 K hK
          obtain rfl:=h6
          obtain rfl:=h16
          go_simp
          exact hK _ _ ⟨undef,rfl,rfl,Ext.refl _⟩
         refine StepsL.cons (ps:= [(6,some 43),(10,some 47),(17,some 54)]) rfl (by kernel_rfl) (fun wi hx=> ?_) ?_
         ·intro v6 h6 v10 h10 v17 h17 K hK
          obtain rfl:=h6
          obtain rfl:=h10
          obtain rfl:=h17
          go_simp
          exact hK _ _ ⟨undef,rfl,rfl,Ext.refl _⟩
         refine StepsL.cons (ps:= [(6,some 43),(18,some 55)]) rfl (by kernel_rfl) (fun wi hx=> ?_) StepsL.nil
         ·intro v6 h6 v18 h18 K hK
          obtain rfl:=h6
          obtain rfl:=h18
          go_simp
          exact hK _ _ ⟨.bool false,rfl,rfl,Ext.refl _⟩
        case fin=>
         intro wi hx v0 h0 v1 h1 v2 h2 v3 h3 v4 h4 v5 h5 v6 h6 v7 h7 v8 h8 v9 h9 v10 h10 v11 h11 v12 h12 v13 h13 v14 h14 v15 h15 v16 h16 v17 h17 v18 h18 v19 h19
         obtain rfl:=h0
         obtain rfl:=h1
         obtain rfl:=h2
         obtain rfl:=h3
         obtain rfl:=h4
         obtain rfl:=h5
         obtain rfl:=h6
         obtain rfl:=h7
         obtain rfl:=h8
         obtain rfl:=h9
         obtain rfl:=h10
         obtain rfl:=h11
         obtain rfl:=h12
         obtain rfl:=h13
         obtain rfl:=h14
         obtain rfl:=h15
         obtain rfl:=h16
         obtain rfl:=h17
         obtain rfl:=h18
         obtain rfl:=h19
         refine wpAny_done (by kernel_rfl) ?_ _
         try simp only[Act.put,List.setIfInBounds_toArray,List.set_cons_zero,List.set_cons_succ]
         have hx':=hx.of_drew
         have HN:=Lib.hid (HM.out.adv hx')
         clear HM
         go_wp2
         go_roundw
         case rel=>exact⟨P,j+1,rfl,by go_num,by omega,hnx.out,HN.out⟩
         case measure=>simp[intOf];omega
      ·obtain rfl:j=m:=by omega
       have hfin:=Lib.hid (HLI.out.done hQ7 hl.out.symm)
       have hg3:g3<wr.heap.size:=(HM.out.lt (i:=1) rfl rfl).2
       have hg5:g5<wr.heap.size:=(HM.out.lt (i:=0) rfl rfl).2
       have hpl:(placesAt bs k).length=j:=by rw[placesAt_len HOK.out,hl.out]
       obtain⟨o,hoi⟩: ∃o,(placesAt bs k)[i]? =some o:=⟨_,List.getElem?_eq_getElem (by omega)⟩
       have co:wr.cell? ⟨g3,i,none⟩=some (.int .i64 o):=((HM.out.own (i:=1) rfl).cellAt i (by omega)).trans (by simp[ivs,iv,hoi])
       have fo:wr.frozen? ⟨g3,i,none⟩=false:=(HM.out.own (i:=1) rfl).frozenAt _
       have cor:wr.cell? ⟨g5,k,none⟩=some (.int .i64 (i:Int)):=((HM.out.own (i:=0) rfl).cellAt k (by omega)).trans (by simp[ivs,iv,natI,HOI.out])
       have i3:(0:Int)≤(k:Int):=by omega
       have i4:(k:Int)<(j:Int):=by omega
       have i5:(0:Int)≤(i:Int):=by omega
       have i6:(i:Int)<(j:Int):=by omega
       have M9:=Lib.hid (HM.out.ostore (i:=1) rfl i (.int .i64 P))
       have he:Hid ((ivs (placesAt bs k)).set i (.int .i64 P)=ivs (placesAt bs (k+1))):=by
        show _=_;rw[hst.out,hfin.out];simp[ivs,iv]
       have M8:=Lib.hid (show Mem w (wr.setCell ⟨g3,i,none⟩ (.int .i64 P)) [ownI w.heap.size TI 1 (some ⟨g5,0,none⟩) (j) (c5) (ivs (natI (byFrom bs))),ownI w.heap.size TI 1 (some ⟨g3,0,none⟩) (j) (c3) (ivs (placesAt bs (k+1)))]from by rw[←he.out];exact M9.out)
       clear M9 he hoi hpl
       go_wp2
       go_roundw
       case rel=>exact⟨k+1,by omega,by go_num,M8.out⟩
       case measure=>simp[intOf];omega
    ·obtain rfl:k=m:=by omega
     have hfin:=Lib.hid (placesAt_end HOK.out (k:=k) (by have:=hfl.out;rw[natI_len]at this;omega))
     go_wp2
     go_ret
     have h1:=HM.out.own (i:=1) rfl
     rw[hfin.out]at h1
     exact ret_ints (by have:=hl.out;rw[places_len HOK.out];exact this) h1 HM.out.ext
end Go.Proofs.YtndcnflchkfaeaaDoor

