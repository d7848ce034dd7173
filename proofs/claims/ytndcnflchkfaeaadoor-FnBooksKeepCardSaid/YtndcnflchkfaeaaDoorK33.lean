/-
  Texts of this proof, packed (@packed).
-/
import Derived.Test.YtndcnflchkfaeaaDoorK2
import Derived.Test.YtndcnflchkfaeaaDoorK11
import Derived.Test.YtndcnflchkfaeaaDoorK21
import Derived.Test.YtndcnflchkfaeaaDoorK30
namespace Go.Proofs.YtndcnflchkfaeaaDoor
open Go.RowKit
set_option linter.unusedVariables false
set_option linter.unusedSimpArgs false
set_option maxRecDepth 100000 in
set_option maxHeartbeats 8000000 in
theorem specBk_o (b off m c2:Nat)(P:Int)(bs:List Visit4)(w:World)(ho:booksOk bs=true)(hm0:0<m)(hP:0≤P)(hS:Sl w (some ⟨b,off,none⟩) m c2 4 (bs.flatMap visitCells)):
  Calls Tryd.prog 27 #[.slice (some ⟨b,off,none⟩) m c2,.int .i64 P] w (RetInts (booksKeep bs P) w):=by
 have hl0:bs.length=m:=by have:=hS.len;rw[flat_len visitCells 4 (fun _=>rfl)]at this;omega
 have hm7:m≤7:=by have:=((booksOk_iff bs).1 ho).1;omega
 have hl:=Lib.hid hl0
 have HS:=Lib.hid hS
 have HOK:=Lib.hid ho
 have HV:Hid (∀w',Ext w w'→Calls Tryd.prog 28 #[.slice (some ⟨b,off,none⟩) m c2] w' fun e w''=>e= .returned (.bool true)∧Ext w' w''):=fun w' hx=>by rw[←ho];exact specBsv _ m c2 bs w' (hS.ext hx)
 have HF:Hid (∀w',Ext w w'→Calls Tryd.prog 63 #[.slice (some ⟨b,off,none⟩) m c2] w' (RetInts (natI (byToN bs)) w')):=fun w' hx=>specByTo _ m c2 bs w' hm7 (hS.ext hx)
 have hfl:Hid ((natI (byToN bs)).length=m):=by show _=_;rw[natI_len,byTo_len ho,hl0]
 have t1:decide (P<0)=false:=by simp;omega
 clear hS hl0 ho
 have MA:=Lib.hid (show Mem w ((w.alloc (.cells #[] TI)).alloc (.cells #[] TBk)) [ownI w.heap.size TBk 4 (some ⟨w.heap.size+1,0,none⟩) (0) (0) ([]),ownI w.heap.size TI 1 (some ⟨w.heap.size,0,none⟩) (0) (0) ([])]from((Mem.start w).made0 TI 1 (w.heap.size) (by simp)).made0 TBk 4 (w.heap.size+1) (by simp))
 go_enter Tryd.func27,Tryd.ntmps27
 go_wp2_with fail
 refine(HV.out _ MA.out.ext).mono ?_
 rintro e w1 ⟨rfl,h1⟩
 have MB:=Lib.hid (MA.out.adv h1)
 clear MA h1
 go_wp2_with fail
 refine(HF.out _ MB.out.ext).mono ?_
 rintro e w2 ⟨q5,c5,rfl,o5,h2⟩
 rw[hfl.out]at o5⊢
 have MC:=Lib.hid (MB.out.call h2 o5)
 obtain⟨g5,rfl,_,_⟩:=MC.out.some (i:=0) rfl hm0
 have M0:=Lib.hid (show Mem w w2 [ownI w.heap.size TI 1 (some ⟨g5,0,none⟩) (m) (c5) (ivs (natI (byToN bs))),ownI w.heap.size TI 1 (some ⟨w.heap.size,0,none⟩) (0) (0) (ivs (sortL (keepAt bs P 0).2)),ownI w.heap.size TBk 4 (some ⟨w.heap.size+1,0,none⟩) (0) (0) ((keepAt bs P 0).1.flatMap visitCells)]from by rw[keepAt_zero];exact MC.out.pick [0,2,1] (by decide) rfl)
 clear MB MC h2 o5
 go_wp2
 go_loopw [5,6,8] (fun v u x wr=> ∃(k:Nat) (q3:Option Addr) (l3 c3:Nat) (q4:Option Addr) (l4 c4:Nat),k≤m∧v= .slice q3 l3 c3∧u= .slice q4 l4 c4∧x= .int .i64 (k:Int)∧l3=(keepAt bs P k).2.length∧l4=(keepAt bs P k).1.length∧Mem w wr [ownI w.heap.size TI 1 (some ⟨g5,0,none⟩) (m) (c5) (ivs (natI (byToN bs))),ownI w.heap.size TI 1 (q3) (l3) (c3) (ivs (sortL (keepAt bs P k).2)),ownI w.heap.size TBk 4 (q4) (l4) (c4) ((keepAt bs P k).1.flatMap visitCells)]) (fun _ _ x _=>m-(intOf x).toNat)
 case atStart=>exact⟨0,some ⟨w.heap.size,0,none⟩,0,0,some ⟨w.heap.size+1,0,none⟩,0,0,Nat.zero_le _,rfl,rfl,rfl,by rw[keepAt_zero];rfl,by rw[keepAt_zero];rfl,M0.out⟩
 case round=>
  clear M0
  obtain⟨k,q3,l3,c3,q4,l4,c4,hk,rfl,rfl,rfl,hl3,hl4,hM⟩:=hrel
  have HM:=Lib.hid hM
  have HL3:=Lib.hid hl3
  have HL4:=Lib.hid hl4
  clear hM
  by_cases hlt:k<m
  ·obtain⟨i,hoi⟩: ∃i,(byToN bs)[k]? =some i:=⟨_,List.getElem?_eq_getElem (by have:=hfl.out;rw[natI_len]at this;omega)⟩
   have hi:i<m:=by have:=byTo_lt hoi;rw[hl.out]at this;exact this
   obtain⟨b9,off9,a0,a1,a2,a3,e9,hvi,hb,u0,u1,u2,u3⟩:=visit_at (HS.out.ext HM.out.ext) hi
   cases e9
   have hg5:g5<wr.heap.size:=(HM.out.lt (i:=0) rfl rfl).2
   have cor:wr.cell? ⟨g5,k,none⟩=some (.int .i64 (i:Int)):=((HM.out.own (i:=0) rfl).cellAt k (by omega)).trans (by simp[ivs,iv,natI,hoi])
   have hst:=Lib.hid (keepAt_succ (p:=P) hoi hvi)
   have HVI:=Lib.hid hvi
   have i3:(0:Int)≤(k:Int):=by omega
   have i4:(k:Int)<(m:Int):=by omega
   have i5:(0:Int)≤(i:Int):=by omega
   have i6:(i:Int)<(m:Int):=by omega
   have hkl:=keepAt_len bs P k
   clear hvi hoi
   have hlb3:l3≤7:=by omega
   have hlb4:l4≤7:=by omega
   have HCO:Hid ((ivs (natI (byToN bs)))[k]? =some (.int .i64 (i:Int))):=by rw[←(HM.out.own (i:=0) rfl).cellAt k (by omega)];exact cor
   clear hl3 hl4 hkl
   go_wp2
   refine region_lin (gl [gLit (wr.heap.size) TBk #[] 0,gEq (.slice q4 l4 c4),(fun v w'=> ∃q c,v= .slice q (l4) c∧w'.ownsRow (wr.heap.size) TBk 4 (.slice q (l4) c) (l4) ((keepAt bs P k).1.flatMap visitCells)),gEq (.slice (some ⟨b,off,none⟩) m c2),gEq (.slice (some ⟨g5,0,none⟩) m c5),gEq (.int .i64 (k:Int)),gEq (.pointer (some ⟨g5,k,none⟩)),gEq (.int .i64 (i:Int)),gEq (.pointer (some ⟨b,off+i*4,none⟩)),gEq (.agg #[.int .i64 a0,.int .i64 a1,.int .i64 a2,.int .i64 a3]),gLit (0) TBk #[.int .i64 a0,.int .i64 a1,.int .i64 a2,.int .i64 a3] 1]) 11 (by kernel_rfl) rfl (by kernel_rfl) (by kernel_rfl) (by kernel_rfl) (gl_mono (gl_cons (gLit_mono _ _ _ _) (gl_cons (gEq_mono _) (gl_cons (fun v w w' ⟨q,c,he,ho⟩ hx=>⟨q,c,he,own_ext ho hx⟩) (gl_cons (gEq_mono _) (gl_cons (gEq_mono _) (gl_cons (gEq_mono _) (gl_cons (gEq_mono _) (gl_cons (gEq_mono _) (gl_cons (gEq_mono _) (gl_cons (gEq_mono _) (gl_cons (gLit_mono _ _ _ _) (gl_nil))))))))))))) (k:=13) (by kernel_rfl) (by decide) (ls:= [(0,some 28),(1,some 29),(2,some 30),(3,some 31),(4,some 32),(5,some 33),(6,some 34),(7,some 35),(8,some 36),(9,some 37),(10,some 38)]) (by kernel_rfl) (ir:= [0,1,2,3,4,5,6,7,8,9,10]) (by kernel_rfl) ?steps (tl:=#[true,true,true,true,true,true,true,true,true,true,true,false,false]) (by kernel_rfl) ?fin
   case steps=>
    refine StepsL.cons (ps:= []) rfl (by kernel_rfl) (fun wi hx=> ?_) ?_
    ·intro K hK
     go_simp
     exact hK _ _ ⟨.slice (some ⟨wi.heap.size,0,none⟩) 0 0,rfl,⟨wi.heap.size,rfl,by have:=hx.sz;simp at this;omega,Blk.new _ _ _⟩,(Ext.refl _).alloc _⟩
    refine StepsL.cons (ps:= []) rfl (by kernel_rfl) (fun wi hx=> ?_) ?_
    ·intro K hK
     go_simp
     exact hK _ _ ⟨.slice q4 l4 c4,rfl,rfl,Ext.refl _⟩
    refine StepsL.cons (ps:= [(0,some 28),(1,some 29)]) rfl (by kernel_rfl) (fun wi hx=> ?_) ?_
    ·intro v0 h0 v1 h1
     obtain⟨g0,rfl,hg0,B0⟩:=h0
     obtain rfl:=h1
     refine step_append_full _ elBk rfl (.tmp 28) (.tmp 29) rfl (wr.heap.size) g0 0 #[] rfl B0 hg0 (by simp) q4 l4 c4 ((keepAt bs P k).1.flatMap visitCells) rfl ((HM.out.sl (i:=2) rfl).ext hx.of_drew) (books_one _) (by omega) (fun p' cap' w' h2=>⟨p',cap',by rw[Nat.zero_add],by simpa using h2⟩)
    refine StepsL.cons (ps:= []) rfl (by kernel_rfl) (fun wi hx=> ?_) ?_
    ·intro K hK
     go_simp
     exact hK _ _ ⟨.slice (some ⟨b,off,none⟩) m c2,rfl,rfl,Ext.refl _⟩
    refine StepsL.cons (ps:= []) rfl (by kernel_rfl) (fun wi hx=> ?_) ?_
    ·intro K hK
     go_simp
     exact hK _ _ ⟨.slice (some ⟨g5,0,none⟩) m c5,rfl,rfl,Ext.refl _⟩
    refine StepsL.cons (ps:= []) rfl (by kernel_rfl) (fun wi hx=> ?_) ?_
    ·intro K hK
     go_simp
     exact hK _ _ ⟨.int .i64 (k:Int),rfl,rfl,Ext.refl _⟩
    refine StepsL.cons (ps:= [(4,some 32),(5,some 33)]) rfl (by kernel_rfl) (fun wi hx=> ?_) ?_
    ·intro v4 h4 v5 h5 K hK
     obtain rfl:=h4
     obtain rfl:=h5
     go_simp
     exact hK _ _ ⟨.pointer (some ⟨g5,k,none⟩),rfl,rfl,Ext.refl _⟩
    refine StepsL.cons (ps:= [(6,some 34)]) rfl (by kernel_rfl) (fun wi hx=> ?_) ?_
    ·intro v6 h6 K hK
     obtain rfl:=h6
     have hX:Ext wr wi:=by(repeat' (first|exact Ext.refl _|(with_reducible assumption)|(with_reducible refine Ext.alloc ?_ _)|(with_reducible refine Ext.setCell ?_ (by first|exact Nat.le_refl _|(dsimp only;omega)|(simp;done)|(simp;omega)) _)|(with_reducible refine Ext.drew ?_)|(with_reducible refine Ext.drewN ?_ _)|(refine Ext.trans ?_ (by with_reducible assumption))))
     have cl0:wi.cell? ⟨g5,k,none⟩=some (.int .i64 (i:Int)):=(hX.cells.1 _ _ hg5).trans cor
     go_simp
     exact hK _ _ ⟨.int .i64 (i:Int),rfl,rfl,Ext.refl _⟩
    refine StepsL.cons (ps:= [(3,some 31),(7,some 35)]) rfl (by kernel_rfl) (fun wi hx=> ?_) ?_
    ·intro v3 h3 v7 h7 K hK
     obtain rfl:=h3
     obtain rfl:=h7
     go_simp
     exact hK _ _ ⟨.pointer (some ⟨b,off+i*4,none⟩),rfl,rfl,Ext.refl _⟩
    refine StepsL.cons (ps:= [(8,some 36)]) rfl (by kernel_rfl) (fun wi hx=> ?_) ?_
    ·intro v8 h8 K hK
     obtain rfl:=h8
     have hX:Ext wr wi:=by(repeat' (first|exact Ext.refl _|(with_reducible assumption)|(with_reducible refine Ext.alloc ?_ _)|(with_reducible refine Ext.setCell ?_ (by first|exact Nat.le_refl _|(dsimp only;omega)|(simp;done)|(simp;omega)) _)|(with_reducible refine Ext.drew ?_)|(with_reducible refine Ext.drewN ?_ _)|(refine Ext.trans ?_ (by with_reducible assumption))))
     have cl0:wi.cell? ⟨b,off+i*4,none⟩=some (.int .i64 a0):=(hX.cells.1 _ _ hb).trans u0
     have cl1:wi.cell? ⟨b,off+i*4+1,none⟩=some (.int .i64 a1):=(hX.cells.1 _ _ hb).trans u1
     have cl2:wi.cell? ⟨b,off+i*4+2,none⟩=some (.int .i64 a2):=(hX.cells.1 _ _ hb).trans u2
     have cl3:wi.cell? ⟨b,off+i*4+3,none⟩=some (.int .i64 a3):=(hX.cells.1 _ _ hb).trans u3
     go_simp
     exact hK _ _ ⟨.agg #[.int .i64 a0,.int .i64 a1,.int .i64 a2,.int .i64 a3],rfl,rfl,Ext.refl _⟩
    refine StepsL.cons (ps:= [(9,some 37)]) rfl (by kernel_rfl) (fun wi hx=> ?_) StepsL.nil
    ·intro v9 h9 K hK
     obtain rfl:=h9
     go_simp
     exact hK _ _ ⟨.slice (some ⟨wi.heap.size,0,none⟩) 1 1,rfl,⟨wi.heap.size,rfl,Nat.zero_le _,Blk.new _ _ _⟩,(Ext.refl _).alloc _⟩
   case fin=>
    intro wi hx v0 h0 v1 h1 v2 h2 v3 h3 v4 h4 v5 h5 v6 h6 v7 h7 v8 h8 v9 h9 v10 h10
    obtain⟨g0,rfl,hg0,B0⟩:=h0
    obtain rfl:=h1
    obtain⟨q2,c2,rfl,ho2⟩:=h2
    obtain rfl:=h3
    obtain rfl:=h4
    obtain rfl:=h5
    obtain rfl:=h6
    obtain rfl:=h7
    obtain rfl:=h8
    obtain rfl:=h9
    obtain⟨g10,rfl,hg10,B10⟩:=h10
    have hX:Ext wr wi:=hx.of_drew
    have M1:=Lib.hid (HM.out.ownOf0 hX ho2)
    clear hX hx hg10 hg0 B0 ho2
    simp only[Act.put,List.setIfInBounds_toArray,List.set_cons_zero,List.set_cons_succ]
    refine wpAny_ready (rs:= [11]) (by kernel_rfl) (by simp) ?_
    refine AllReady.cons rfl (fun K hK=> ?_) AllReady.nil
    refine step_appM elBk rfl _ _ rfl M1.out 0 rfl rfl (visitCells (a0,a1,a2,a3)) rfl (sl_blk1 B10) (book_one _) (by omega) (fun q7 c7 w6 M6=>hK _ _ ?_)
    clear hK K
    have M7:=Lib.hid (show Mem w w6 [ownI w.heap.size TBk 4 (q7) (l4+1) (c7) (((keepAt bs P k).1++ [(a0,a1,a2,a3)]).flatMap visitCells),ownI w.heap.size TI 1 (some ⟨g5,0,none⟩) (m) (c5) (ivs (natI (byToN bs))),ownI w.heap.size TI 1 (q3) (l3) (c3) (ivs (sortL (keepAt bs P k).2)),ownI w.heap.size TBk 4 (q4) (l4) (c4) ((keepAt bs P k).1.flatMap visitCells)]from by rw[List.flatMap_append];simpa using M6)
    clear M6 M1 B10 HM cor u0 u1 u2 u3 hb hg5
    try simp only[Act.put,List.setIfInBounds_toArray,List.set_cons_zero,List.set_cons_succ]
    refine wpAny_ready (rs:= [12]) (by kernel_rfl) (by simp) ?_
    refine AllReady.cons rfl (fun K hK=> ?_) AllReady.nil
    go_simp
    refine hK _ _ ?_
    clear hK K
    refine wpAny_done (by kernel_rfl) ?_ _
    try simp only[Act.put,List.setIfInBounds_toArray,List.set_cons_zero,List.set_cons_succ]
    obtain⟨Mx,hMx⟩: ∃M,M=booksMost ((keepAt bs P k).1++ [(a0,a1,a2,a3)]):=⟨_,rfl⟩
    have HMX:=Lib.hid hMx
    have HBM:=Lib.hid (fun w' (hs:Sl w' q7 (l4+1) c7 4 (((keepAt bs P k).1++ [(a0,a1,a2,a3)]).flatMap visitCells))=>specBm q7 (l4+1) c7 _ w' hs)
    rw[←hMx]at HBM
    rw[←hMx]at hst
    clear hMx
    go_wp2_with fail
    refine(HBM.out _ (M7.out.sl (i:=0) rfl)).mono ?_
    rintro e w8 ⟨rfl,h8⟩
    have M8:=Lib.hid (M7.out.adv h8)
    clear h8 M7
    by_cases hmx:Mx≤P
    ·have hst2:=hst.out
     rw[if_pos hmx]at hst2
     have t3:decide (Mx≤P)=true:=by simp[hmx]
     have HST:=Lib.hid hst2
     clear hst2 hst
     obtain⟨b9,off9,x0,x1,x2,x3,e9,hvi,hb,u0,u1,u2,u3⟩:=visit_at (HS.out.ext M8.out.ext) hi
     cases e9
     rw[HVI.out]at hvi
     cases hvi
     have hg5:g5<w8.heap.size:=(M8.out.lt (i:=1) rfl rfl).2
     have cor:w8.cell? ⟨g5,k,none⟩=some (.int .i64 (i:Int)):=((M8.out.own (i:=1) rfl).cellAt k (by omega)).trans HCO.out
     have HSO:=Lib.hid (fun w' (hx:Ext w8 w')=>l1Sorted_any q3 l3 c3 (sortL (keepAt bs P k).2) a0 w' (by omega) ((M8.out.sl (i:=2) rfl).ext hx))
     go_wp2_with fail
     refine(HSO.out _ (by(repeat' (first|exact Ext.refl _|(with_reducible assumption)|(with_reducible refine Ext.alloc ?_ _)|(with_reducible refine Ext.setCell ?_ (by first|exact Nat.le_refl _|(dsimp only;omega)|(simp;done)|(simp;omega)) _)|(with_reducible refine Ext.drew ?_)|(with_reducible refine Ext.drewN ?_ _)|(refine Ext.trans ?_ (by with_reducible assumption)))))).mono ?_
     rintro e w9 ⟨q8,c8,rfl,o8,h8⟩
     have hln:Hid ((insL a0 (sortL (keepAt bs P k).2)).length=l3+1):=by show _=_;rw[insL_len,sortL_len,←HL3.out]
     rw[hln.out]at o8⊢
     have M9:=Lib.hid (show Mem w w9 [ownI w.heap.size TI 1 (some ⟨g5,0,none⟩) (m) (c5) (ivs (natI (byToN bs))),ownI w.heap.size TI 1 (q8) (l3+1) (c8) (ivs (sortL (keepAt bs P (k+1)).2)),ownI w.heap.size TBk 4 (q7) (l4+1) (c7) ((keepAt bs P (k+1)).1.flatMap visitCells)]from by
      rw[HST.out]
      have:=(M8.out.call h8 o8).pick (L':= [ownI w.heap.size TI 1 (some ⟨g5,0,none⟩) (m) (c5) (ivs (natI (byToN bs))),ownI w.heap.size TI 1 (q8) (l3+1) (c8) (ivs (insL a0 (sortL (keepAt bs P k).2))),ownI w.heap.size TBk 4 (q7) (l4+1) (c7) (((keepAt bs P k).1++ [(a0,a1,a2,a3)]).flatMap visitCells)]) [2,0,1] (by decide) rfl
      rw[←sortL_snoc]at this
      exact this)
     have hl3:Hid (l3+1=(keepAt bs P (k+1)).2.length):=by show _=_;rw[HST.out];simp[←HL3.out]
     have hl4:Hid (l4+1=(keepAt bs P (k+1)).1.length):=by show _=_;rw[HST.out];simp[←HL4.out]
     clear M8 o8 h8 cor u0 u1 u2 u3 hb hg5 HST
     go_wp2
     go_roundw
     case rel=>exact⟨k+1,q8,l3+1,c8,q7,l4+1,c7,by omega,rfl,rfl,by go_num,hl3.out,hl4.out,M9.out⟩
     case measure=>simp[intOf];omega
    ·have hst2:=hst.out
     rw[if_neg hmx]at hst2
     have t3:decide (Mx≤P)=false:=by simp;omega
     have HST:=Lib.hid hst2
     clear hst2 hst
     have M9:=Lib.hid (show Mem w w8 [ownI w.heap.size TI 1 (some ⟨g5,0,none⟩) (m) (c5) (ivs (natI (byToN bs))),ownI w.heap.size TI 1 (q3) (l3) (c3) (ivs (sortL (keepAt bs P (k+1)).2)),ownI w.heap.size TBk 4 (q4) (l4) (c4) ((keepAt bs P (k+1)).1.flatMap visitCells)]from by rw[HST.out];exact(M8.out.pick [1,2,3] (by decide) rfl))
     have hl3:Hid (l3=(keepAt bs P (k+1)).2.length):=by show _=_;rw[HST.out];exact HL3.out
     have hl4:Hid (l4=(keepAt bs P (k+1)).1.length):=by show _=_;rw[HST.out];exact HL4.out
     clear M8
     go_wp2
     go_roundw
     case rel=>exact⟨k+1,q3,l3,c3,q4,l4,c4,by omega,rfl,rfl,by go_num,hl3.out,hl4.out,M9.out⟩
     case measure=>simp[intOf];omega
  ·obtain rfl:k=m:=by omega
   have hfin:=Lib.hid (keepAt_end (p:=P) HOK.out hP (k:=k) (by have:=hfl.out;rw[natI_len]at this;omega))
   have hl5:Hid ((booksKeep bs P).length=l3):=by show _=_;rw[←hfin.out,sortL_len];exact HL3.out.symm
   clear hl3 hl4
   go_wp2
   go_ret
   have h1:=HM.out.own (i:=1) rfl
   rw[hfin.out]at h1
   exact ret_ints hl5.out h1 HM.out.ext
end Go.Proofs.YtndcnflchkfaeaaDoor

namespace Go.Proofs.YtndcnflchkfaeaaDoor
open Go.RowKit
set_option linter.unusedVariables false
set_option linter.unusedSimpArgs false
set_option maxRecDepth 100000 in
set_option maxHeartbeats 8000000 in
theorem insInt_zero (p:Option Addr)(c:Nat)(F:Value)(w:World):Calls Tryd.prog 115 #[.slice p 0 c,.int .i64 0,.int .i64 0,F] w fun e w'=>e= .returned (.tuple #[])∧w=w':=by
 go_enter Tryd.func115,Tryd.ntmps115
 go_wp2
 go_rounds 1
 go_end0
 exact⟨rfl,rfl⟩
set_option maxRecDepth 100000 in
set_option maxHeartbeats 8000000 in
theorem stableInt_zero (p:Option Addr)(c:Nat)(F:Value)(w:World):Calls Tryd.prog 93 #[.slice p 0 c,.int .i64 0,F] w fun e w'=>e= .returned (.tuple #[])∧w=w':=by
 have HI:=Lib.hid (fun w=>insInt_zero p c F w)
 go_enter Tryd.func93,Tryd.ntmps93
 go_wp2
 refine wp_loop_rounds 1 ?_
 rw[rounds_succ]
 go_wp2_with fail
 refine(HI.out _).mono ?_
 rintro e w1 ⟨rfl,rfl⟩
 go_wp2
 go_rounds 1
 go_end0
 exact⟨rfl,rfl⟩
set_option maxRecDepth 100000 in
set_option maxHeartbeats 8000000 in
theorem sortStable_zero (p:Option Addr)(c:Nat)(F:Value)(w:World):Calls Tryd.prog 81 #[.slice p 0 c,F] w fun e w'=>e= .returned (.tuple #[])∧w=w':=by
 have HI:=Lib.hid (fun w=>stableInt_zero p c F w)
 go_enter Tryd.func81,Tryd.ntmps81
 go_wp2_with fail
 refine(HI.out _).mono ?_
 rintro e w1 ⟨rfl,rfl⟩
 go_wp2
 go_end0
 exact⟨rfl,rfl⟩
set_option maxRecDepth 100000 in
set_option maxHeartbeats 8000000 in
theorem orderTo_zero (q:Option Addr)(c2:Nat)(w:World):Calls Tryd.prog 59 #[.slice q 0 c2,.func (.func 60) #[] #[]] w fun e w'=> ∃p c,e= .returned (.slice p 0 c)∧Ext w w':=by
 have HI:=Lib.hid (fun p c F w=>sortStable_zero p c F w)
 obtain⟨i0,hi,hz0,hz1,hz2⟩:=info_parts (show(Tryd.prog.info? 3).map (fun i=>(i.zero,i.size,i.bytes))=some (some (.int .i64 0),1,8) by kernel_rfl)
 go_enter Tryd.func59,Tryd.ntmps59
 go_wp2_with (at_make;refine wpList_make_full _ rfl _ _ 40 rfl (w.heap.size+1+1) 3 i0 (.int .i64 0) 1 Tryd.underlying40 hi hz0 hz1 .i64 .i64 _ _ 0 rfl rfl rfl rfl (by omega) (by unfold maxLen;omega) (by simp) ?_;intro w0 hown0 hgrow0)
 have hE0:Ext w w0:=(((Ext.refl w).alloc _).alloc _).grown hgrow0 (fun q hq=>by cases hq)
 clear hown0 hgrow0 hi hz0 hz1 hz2
 go_wp2
 refine wp_loop_rounds 1 ?_
 rw[rounds_succ]
 go_wp2_with fail
 refine(HI.out _ _ _ _).mono ?_
 rintro e w1 ⟨rfl,rfl⟩
 go_wp2
 go_ret
 exact⟨_,_,rfl,hE0⟩
set_option maxRecDepth 100000 in
set_option maxHeartbeats 8000000 in
theorem implBk_o (b off m c2:Nat)(P:Int)(bs:List Visit4)(w:World)(ho:booksOk bs=true)(hm0:0<m)(hP:0≤P)(hS:Sl w (some ⟨b,off,none⟩) m c2 4 (bs.flatMap visitCells)):
  Calls Tryd.prog 26 #[.slice (some ⟨b,off,none⟩) m c2,.int .i64 P] w (RetInts (booksKeep bs P) w):=by
 have hl0:bs.length=m:=by have:=hS.len;rw[flat_len visitCells 4 (fun _=>rfl)]at this;omega
 have hm7:m≤7:=by have:=((booksOk_iff bs).1 ho).1;omega
 have hl:=Lib.hid hl0
 have HS:=Lib.hid hS
 have HOK:=Lib.hid ho
 have HV:Hid (∀w',Ext w w'→Calls Tryd.prog 40 #[.slice (some ⟨b,off,none⟩) m c2] w' fun e w''=>e= .returned (.bool true)∧Ext w' w''):=fun w' hx=>by rw[←ho];exact implBsv _ m c2 bs w' (hS.ext hx)
 have HF:Hid (∀w',Ext w w'→Calls Tryd.prog 59 #[.slice (some ⟨b,off,none⟩) m c2,.func (.func 60) #[] #[]] w' (RetInts (natI (byToN bs)) w')):=fun w' hx=>orderTo b off m c2 bs w' ho hm0 (hS.ext hx)
 have hfl:Hid ((natI (byToN bs)).length=m):=by show _=_;rw[natI_len,byTo_len ho,hl0]
 have t1:decide (P<0)=false:=by simp;omega
 clear hS hl0 ho
 go_enter Tryd.func26,Tryd.ntmps26
 go_wp2_with fail
 refine(HV.out _ (by(repeat' (first|exact Ext.refl _|(with_reducible assumption)|(with_reducible refine Ext.alloc ?_ _)|(with_reducible refine Ext.setCell ?_ (by first|exact Nat.le_refl _|(dsimp only;omega)|(simp;done)|(simp;omega)) _)|(with_reducible refine Ext.drew ?_)|(with_reducible refine Ext.drewN ?_ _)|(refine Ext.trans ?_ (by with_reducible assumption)))))).mono ?_
 rintro e w1 ⟨rfl,h1⟩
 go_wp2_with fail
 refine(HF.out _ (by(repeat' (first|exact Ext.refl _|(with_reducible assumption)|(with_reducible refine Ext.alloc ?_ _)|(with_reducible refine Ext.setCell ?_ (by first|exact Nat.le_refl _|(dsimp only;omega)|(simp;done)|(simp;omega)) _)|(with_reducible refine Ext.drew ?_)|(with_reducible refine Ext.drewN ?_ _)|(refine Ext.trans ?_ (by with_reducible assumption)))))).mono ?_
 rintro e w2 ⟨q5,c5,rfl,o5,h2⟩
 rw[hfl.out]at o5⊢
 have MC:=Lib.hid ((Mem.of h1).call h2 o5)
 obtain⟨g5,rfl,_,_⟩:=MC.out.some (i:=0) rfl hm0
 have M0:=Lib.hid (show Mem w w2 [ownI w.heap.size TI 1 (some ⟨g5,0,none⟩) (m) (c5) (ivs (natI (byToN bs))),ownI w.heap.size TI 1 (none) (0) (0) (ivs ((keepAt bs P 0).2)),ownI w.heap.size TBk 4 (none) (0) (0) ((keepAt bs P 0).1.flatMap visitCells)]from by
  rw[keepAt_zero]
  have:=(MC.out.call (Ext.refl _) (World.ownsRow_nil _ _ TBk 4)).call (Ext.refl _) (World.ownsRow_nil _ _ TI 1)
  exact this.pick [2,0,1] (by decide) rfl)
 clear MC h1 h2 o5
 go_wp2
 go_loopw [5,6,20] (fun u v x wr=> ∃(k:Nat) (q3:Option Addr) (l3 c3:Nat) (q4:Option Addr) (l4 c4:Nat),k≤m∧v= .slice q3 l3 c3∧u= .slice q4 l4 c4∧x= .int .i64 (k:Int)∧l3=(keepAt bs P k).2.length∧l4=(keepAt bs P k).1.length∧Mem w wr [ownI w.heap.size TI 1 (some ⟨g5,0,none⟩) (m) (c5) (ivs (natI (byToN bs))),ownI w.heap.size TI 1 (q3) (l3) (c3) (ivs ((keepAt bs P k).2)),ownI w.heap.size TBk 4 (q4) (l4) (c4) ((keepAt bs P k).1.flatMap visitCells)]) (fun _ _ x _=>m-(intOf x).toNat)
 case atStart=>exact⟨0,none,0,0,none,0,0,Nat.zero_le _,rfl,rfl,rfl,by rw[keepAt_zero];rfl,by rw[keepAt_zero];rfl,M0.out⟩
 case round=>
  clear M0
  obtain⟨k,q3,l3,c3,q4,l4,c4,hk,rfl,rfl,rfl,hl3,hl4,hM⟩:=hrel
  have HM:=Lib.hid hM
  have HL3:=Lib.hid hl3
  have HL4:=Lib.hid hl4
  clear hM
  by_cases hlt:k<m
  ·obtain⟨i,hoi⟩: ∃i,(byToN bs)[k]? =some i:=⟨_,List.getElem?_eq_getElem (by have:=hfl.out;rw[natI_len]at this;omega)⟩
   have hi:i<m:=by have:=byTo_lt hoi;rw[hl.out]at this;exact this
   obtain⟨b9,off9,a0,a1,a2,a3,e9,hvi,hb,u0,u1,u2,u3⟩:=visit_at (HS.out.ext HM.out.ext) hi
   cases e9
   have hg5:g5<wr.heap.size:=(HM.out.lt (i:=0) rfl rfl).2
   have cor:wr.cell? ⟨g5,k,none⟩=some (.int .i64 (i:Int)):=((HM.out.own (i:=0) rfl).cellAt k (by omega)).trans (by simp[ivs,iv,natI,hoi])
   have hst:=Lib.hid (keepAt_succ (p:=P) hoi hvi)
   have HVI:=Lib.hid hvi
   have i3:(0:Int)≤(k:Int):=by omega
   have i4:(k:Int)<(m:Int):=by omega
   have i5:(0:Int)≤(i:Int):=by omega
   have i6:(i:Int)<(m:Int):=by omega
   have hkl:=keepAt_len bs P k
   clear hvi hoi
   have hlb3:l3≤7:=by omega
   have hlb4:l4≤7:=by omega
   have HCL:=Lib.hid (fun w' (hx:Ext wr w')=>clone_any q4 l4 c4 _ w' (by omega) ((HM.out.sl (i:=2) rfl).ext hx) (books_one _))
   clear hl3 hl4 hkl
   go_wp2
   refine region_lin (gl [gEq (.slice q4 l4 c4),(fun v w'=> ∃q c,v= .slice q (l4) c∧w'.ownsRow (wr.heap.size) TBk 4 (.slice q (l4) c) (l4) ((keepAt bs P k).1.flatMap visitCells)),gEq (.slice (some ⟨b,off,none⟩) m c2),gEq (.int .i64 (i:Int)),gEq (.pointer (some ⟨b,off+i*4,none⟩)),gEq (.agg #[.int .i64 a0,.int .i64 a1,.int .i64 a2,.int .i64 a3]),gLit (0) TBk #[.int .i64 a0,.int .i64 a1,.int .i64 a2,.int .i64 a3] 1]) 7 (by kernel_rfl) rfl (by kernel_rfl) (by kernel_rfl) (by kernel_rfl) (gl_mono (gl_cons (gEq_mono _) (gl_cons (fun v w w' ⟨q,c,he,ho⟩ hx=>⟨q,c,he,own_ext ho hx⟩) (gl_cons (gEq_mono _) (gl_cons (gEq_mono _) (gl_cons (gEq_mono _) (gl_cons (gEq_mono _) (gl_cons (gLit_mono _ _ _ _) (gl_nil))))))))) (k:=9) (by kernel_rfl) (by decide) (ls:= [(0,some 24),(1,some 25),(2,some 26),(3,some 27),(4,some 28),(5,some 29),(6,some 30)]) (by kernel_rfl) (ir:= [0,1,2,3,4,5,6]) (by kernel_rfl) ?steps (tl:=#[true,true,true,true,true,true,true,false,false]) (by kernel_rfl) ?fin
   case steps=>
    refine StepsL.cons (ps:= []) rfl (by kernel_rfl) (fun wi hx=> ?_) ?_
    ·intro K hK
     go_simp
     exact hK _ _ ⟨.slice q4 l4 c4,rfl,rfl,Ext.refl _⟩
    refine StepsL.cons (ps:= [(0,some 24)]) rfl (by kernel_rfl) (fun wi hx=> ?_) ?_
    ·intro v0 h0 K hK
     obtain rfl:=h0
     have hX:Ext wr wi:=by(repeat' (first|exact Ext.refl _|(with_reducible assumption)|(with_reducible refine Ext.alloc ?_ _)|(with_reducible refine Ext.setCell ?_ (by first|exact Nat.le_refl _|(dsimp only;omega)|(simp;done)|(simp;omega)) _)|(with_reducible refine Ext.drew ?_)|(with_reducible refine Ext.drewN ?_ _)|(refine Ext.trans ?_ (by with_reducible assumption))))
     go_simp
     refine(HCL.out _ hX).mono ?_
     rintro e w5 ⟨q5,c5,rfl,o5,hx5⟩
     go_simp
     exact hK _ _ ⟨.slice q5 l4 c5,rfl,⟨q5,c5,rfl,own_base o5 (by have:=hX.sz;(try simp at this);omega)⟩,hx5⟩
    refine StepsL.cons (ps:= []) rfl (by kernel_rfl) (fun wi hx=> ?_) ?_
    ·intro K hK
     go_simp
     exact hK _ _ ⟨.slice (some ⟨b,off,none⟩) m c2,rfl,rfl,Ext.refl _⟩
    refine StepsL.cons (ps:= []) rfl (by kernel_rfl) (fun wi hx=> ?_) ?_
    ·intro K hK
     go_simp
     exact hK _ _ ⟨.int .i64 (i:Int),rfl,rfl,Ext.refl _⟩
    refine StepsL.cons (ps:= [(2,some 26),(3,some 27)]) rfl (by kernel_rfl) (fun wi hx=> ?_) ?_
    ·intro v2 h2 v3 h3 K hK
     obtain rfl:=h2
     obtain rfl:=h3
     go_simp
     exact hK _ _ ⟨.pointer (some ⟨b,off+i*4,none⟩),rfl,rfl,Ext.refl _⟩
    refine StepsL.cons (ps:= [(4,some 28)]) rfl (by kernel_rfl) (fun wi hx=> ?_) ?_
    ·intro v4 h4 K hK
     obtain rfl:=h4
     have hX:Ext wr wi:=by(repeat' (first|exact Ext.refl _|(with_reducible assumption)|(with_reducible refine Ext.alloc ?_ _)|(with_reducible refine Ext.setCell ?_ (by first|exact Nat.le_refl _|(dsimp only;omega)|(simp;done)|(simp;omega)) _)|(with_reducible refine Ext.drew ?_)|(with_reducible refine Ext.drewN ?_ _)|(refine Ext.trans ?_ (by with_reducible assumption))))
     have cl0:wi.cell? ⟨b,off+i*4,none⟩=some (.int .i64 a0):=(hX.cells.1 _ _ hb).trans u0
     have cl1:wi.cell? ⟨b,off+i*4+1,none⟩=some (.int .i64 a1):=(hX.cells.1 _ _ hb).trans u1
     have cl2:wi.cell? ⟨b,off+i*4+2,none⟩=some (.int .i64 a2):=(hX.cells.1 _ _ hb).trans u2
     have cl3:wi.cell? ⟨b,off+i*4+3,none⟩=some (.int .i64 a3):=(hX.cells.1 _ _ hb).trans u3
     go_simp
     exact hK _ _ ⟨.agg #[.int .i64 a0,.int .i64 a1,.int .i64 a2,.int .i64 a3],rfl,rfl,Ext.refl _⟩
    refine StepsL.cons (ps:= [(5,some 29)]) rfl (by kernel_rfl) (fun wi hx=> ?_) StepsL.nil
    ·intro v5 h5 K hK
     obtain rfl:=h5
     go_simp
     exact hK _ _ ⟨.slice (some ⟨wi.heap.size,0,none⟩) 1 1,rfl,⟨wi.heap.size,rfl,Nat.zero_le _,Blk.new _ _ _⟩,(Ext.refl _).alloc _⟩
   case fin=>
    intro wi hx v0 h0 v1 h1 v2 h2 v3 h3 v4 h4 v5 h5 v6 h6
    obtain rfl:=h0
    obtain⟨q1,c1,rfl,ho1⟩:=h1
    obtain rfl:=h2
    obtain rfl:=h3
    obtain rfl:=h4
    obtain rfl:=h5
    obtain⟨g6,rfl,hg6,B6⟩:=h6
    have hX:Ext wr wi:=hx.of_drew
    have M1:=Lib.hid (HM.out.ownOf0 hX ho1)
    clear hX hx hg6 ho1 HCL
    simp only[Act.put,List.setIfInBounds_toArray,List.set_cons_zero,List.set_cons_succ]
    refine wpAny_ready (rs:= [7]) (by kernel_rfl) (by simp) ?_
    refine AllReady.cons rfl (fun K hK=> ?_) AllReady.nil
    refine step_appM elBk rfl _ _ rfl M1.out 0 rfl rfl (visitCells (a0,a1,a2,a3)) rfl (sl_blk1 B6) (book_one _) (by omega) (fun q7 c7 w6 M6=>hK _ _ ?_)
    clear hK K
    have M7:=Lib.hid (show Mem w w6 [ownI w.heap.size TBk 4 (q7) (l4+1) (c7) (((keepAt bs P k).1++ [(a0,a1,a2,a3)]).flatMap visitCells),ownI w.heap.size TI 1 (some ⟨g5,0,none⟩) (m) (c5) (ivs (natI (byToN bs))),ownI w.heap.size TI 1 (q3) (l3) (c3) (ivs ((keepAt bs P k).2)),ownI w.heap.size TBk 4 (q4) (l4) (c4) ((keepAt bs P k).1.flatMap visitCells)]from by rw[List.flatMap_append];simpa using M6)
    clear M6 M1 B6 HM u0 u1 u2 u3 hb
    try simp only[Act.put,List.setIfInBounds_toArray,List.set_cons_zero,List.set_cons_succ]
    refine wpAny_ready (rs:= [8]) (by kernel_rfl) (by simp) ?_
    refine AllReady.cons rfl (fun K hK=> ?_) AllReady.nil
    go_simp
    refine hK _ _ ?_
    clear hK K
    refine wpAny_done (by kernel_rfl) ?_ _
    try simp only[Act.put,List.setIfInBounds_toArray,List.set_cons_zero,List.set_cons_succ]
    obtain⟨Mx,hMx⟩: ∃M,M=booksMost ((keepAt bs P k).1++ [(a0,a1,a2,a3)]):=⟨_,rfl⟩
    have HBM:=Lib.hid (fun w' (hs:Sl w' q7 (l4+1) c7 4 (((keepAt bs P k).1++ [(a0,a1,a2,a3)]).flatMap visitCells))=>implBm q7 (l4+1) c7 _ w' hs)
    rw[←hMx]at HBM
    rw[←hMx]at hst
    clear hMx
    go_wp2_with fail
    refine(HBM.out _ (M7.out.sl (i:=0) rfl)).mono ?_
    rintro e w8 ⟨rfl,h8⟩
    have M8:=Lib.hid (M7.out.adv h8)
    clear h8 M7
    by_cases hmx:Mx≤P
    ·have hst2:=hst.out
     rw[if_pos hmx]at hst2
     have t3:decide (Mx≤P)=true:=by simp[hmx]
     have HST:=Lib.hid hst2
     clear hst2 hst
     obtain⟨b9,off9,x0,x1,x2,x3,e9,hvi,hb,u0,u1,u2,u3⟩:=visit_at (HS.out.ext M8.out.ext) hi
     cases e9
     rw[HVI.out]at hvi
     cases hvi
     go_wp2_with (at_builtin;go_loud (refine wpList_appM elInt rfl _ _ rfl (M8.out.adv ((Ext.refl _).alloc (.cells #[.int .i64 a0] TI))) 2 rfl rfl [.int .i64 a0] rfl (sl_lit _ _ _ 1 1 _ (by simp) (by simp) (by simp[maxLen])) (iv_one _) (by omega) ?_;intro q8 c8 w9 M9a))
     have M9:=Lib.hid (show Mem w w9 [ownI w.heap.size TI 1 (some ⟨g5,0,none⟩) (m) (c5) (ivs (natI (byToN bs))),ownI w.heap.size TI 1 (q8) (l3+1) (c8) (ivs ((keepAt bs P (k+1)).2)),ownI w.heap.size TBk 4 (q7) (l4+1) (c7) ((keepAt bs P (k+1)).1.flatMap visitCells)]from by
      rw[HST.out]
      have:=M9a.pick (L':= [ownI w.heap.size TI 1 (some ⟨g5,0,none⟩) (m) (c5) (ivs (natI (byToN bs))),ownI w.heap.size TI 1 (q8) (l3+1) (c8) (ivs ((keepAt bs P k).2++ [a0])),ownI w.heap.size TBk 4 (q7) (l4+1) (c7) (((keepAt bs P k).1++ [(a0,a1,a2,a3)]).flatMap visitCells)]) [1,2,0] (by decide) (by simp[ivs,iv])
      exact this)
     have hl3:Hid (l3+1=(keepAt bs P (k+1)).2.length):=by show _=_;rw[HST.out];simp[←HL3.out]
     have hl4:Hid (l4+1=(keepAt bs P (k+1)).1.length):=by show _=_;rw[HST.out];simp[←HL4.out]
     clear M8 M9a u0 u1 u2 u3 hb HST
     go_wp2
     go_roundw
     case rel=>exact⟨k+1,q8,l3+1,c8,q7,l4+1,c7,by omega,rfl,rfl,by go_num,hl3.out,hl4.out,M9.out⟩
     case measure=>simp[intOf];omega
    ·have hst2:=hst.out
     rw[if_neg hmx]at hst2
     have t3:decide (Mx≤P)=false:=by simp;omega
     have HST:=Lib.hid hst2
     clear hst2 hst
     have M9:=Lib.hid (show Mem w w8 [ownI w.heap.size TI 1 (some ⟨g5,0,none⟩) (m) (c5) (ivs (natI (byToN bs))),ownI w.heap.size TI 1 (q3) (l3) (c3) (ivs ((keepAt bs P (k+1)).2)),ownI w.heap.size TBk 4 (q4) (l4) (c4) ((keepAt bs P (k+1)).1.flatMap visitCells)]from by rw[HST.out];exact(M8.out.pick [1,2,3] (by decide) rfl))
     have hl3:Hid (l3=(keepAt bs P (k+1)).2.length):=by show _=_;rw[HST.out];exact HL3.out
     have hl4:Hid (l4=(keepAt bs P (k+1)).1.length):=by show _=_;rw[HST.out];exact HL4.out
     clear M8
     go_wp2
     go_roundw
     case rel=>exact⟨k+1,q3,l3,c3,q4,l4,c4,by omega,rfl,rfl,by go_num,hl3.out,hl4.out,M9.out⟩
     case measure=>simp[intOf];omega
  ·obtain rfl:k=m:=by omega
   have hfin:=Lib.hid (keepAt_end (p:=P) HOK.out hP (k:=k) (by have:=hfl.out;rw[natI_len]at this;omega))
   have hl5:Hid ((booksKeep bs P).length=l3):=by show _=_;rw[←hfin.out,sortL_len];exact HL3.out.symm
   have hkl:=keepAt_len bs P k
   have HSO:=Lib.hid (sort_any w.heap.size q3 l3 c3 _ wr (HM.out.own (i:=1) rfl) (by omega))
   clear hl3 hl4 hkl
   go_wp2_with fail
   refine HSO.out.mono ?_
   rintro e w9 ⟨rfl,h9,g9⟩
   have M9:=Lib.hid (HM.out.app (i:=1) rfl h9 g9 (.inl rfl))
   clear h9 g9 HM
   go_wp2
   go_ret
   have h1:=M9.out.own (i:=1) rfl
   rw[hfin.out]at h1
   exact ret_ints hl5.out h1 M9.out.ext
set_option maxRecDepth 100000 in
set_option maxHeartbeats 8000000 in
theorem specBk_bk (q:Option Addr)(m c2:Nat)(P:Int)(w:World)(HV:Hid (∀w',Ext w w'→Calls Tryd.prog 28 #[.slice q m c2] w' fun e w''=>e= .returned (.bool false)∧Ext w' w'')):
  Calls Tryd.prog 27 #[.slice q m c2,.int .i64 P] w (RetInts [] w):=by
 have MA:=Lib.hid (show Mem w ((w.alloc (.cells #[] TI)).alloc (.cells #[] TBk)) [ownI w.heap.size TBk 4 (some ⟨w.heap.size+1,0,none⟩) (0) (0) ([]),ownI w.heap.size TI 1 (some ⟨w.heap.size,0,none⟩) (0) (0) ([])]from((Mem.start w).made0 TI 1 (w.heap.size) (by simp)).made0 TBk 4 (w.heap.size+1) (by simp))
 go_enter Tryd.func27,Tryd.ntmps27
 go_wp2_with fail
 refine(HV.out _ MA.out.ext).mono ?_
 rintro e w1 ⟨rfl,h1⟩
 have MB:=Lib.hid (MA.out.adv h1)
 clear MA h1
 go_wp2
 go_ret
 exact ret_ints (xs:= []) rfl (MB.out.own (i:=1) rfl) MB.out.ext
set_option maxRecDepth 100000 in
set_option maxHeartbeats 8000000 in
theorem specBk_neg (q:Option Addr)(m c2:Nat)(P:Int)(w:World)(hP:P<0)(HV:Hid (∀w',Ext w w'→Calls Tryd.prog 28 #[.slice q m c2] w' fun e w''=>e= .returned (.bool true)∧Ext w' w'')):
  Calls Tryd.prog 27 #[.slice q m c2,.int .i64 P] w (RetInts [] w):=by
 have t1:decide (P<0)=true:=by simp[hP]
 have MA:=Lib.hid (show Mem w ((w.alloc (.cells #[] TI)).alloc (.cells #[] TBk)) [ownI w.heap.size TBk 4 (some ⟨w.heap.size+1,0,none⟩) (0) (0) ([]),ownI w.heap.size TI 1 (some ⟨w.heap.size,0,none⟩) (0) (0) ([])]from((Mem.start w).made0 TI 1 (w.heap.size) (by simp)).made0 TBk 4 (w.heap.size+1) (by simp))
 go_enter Tryd.func27,Tryd.ntmps27
 go_wp2_with fail
 refine(HV.out _ MA.out.ext).mono ?_
 rintro e w1 ⟨rfl,h1⟩
 have MB:=Lib.hid (MA.out.adv h1)
 clear MA h1
 go_wp2
 go_ret
 exact ret_ints (xs:= []) rfl (MB.out.own (i:=1) rfl) MB.out.ext
set_option maxRecDepth 100000 in
set_option maxHeartbeats 8000000 in
theorem implBk_bk (q:Option Addr)(m c2:Nat)(P:Int)(w:World)(HV:Hid (∀w',Ext w w'→Calls Tryd.prog 40 #[.slice q m c2] w' fun e w''=>e= .returned (.bool false)∧Ext w' w'')):
  Calls Tryd.prog 26 #[.slice q m c2,.int .i64 P] w (RetInts [] w):=by
 go_enter Tryd.func26,Tryd.ntmps26
 go_wp2_with fail
 refine(HV.out _ (by(repeat' (first|exact Ext.refl _|(with_reducible assumption)|(with_reducible refine Ext.alloc ?_ _)|(with_reducible refine Ext.setCell ?_ (by first|exact Nat.le_refl _|(dsimp only;omega)|(simp;done)|(simp;omega)) _)|(with_reducible refine Ext.drew ?_)|(with_reducible refine Ext.drewN ?_ _)|(refine Ext.trans ?_ (by with_reducible assumption)))))).mono ?_
 rintro e w1 ⟨rfl,h1⟩
 go_wp2
 go_ret
 exact ret_ints (xs:= []) rfl (World.ownsRow_nil _ _ _ _) (by(repeat' (first|exact Ext.refl _|(with_reducible assumption)|(with_reducible refine Ext.alloc ?_ _)|(with_reducible refine Ext.setCell ?_ (by first|exact Nat.le_refl _|(dsimp only;omega)|(simp;done)|(simp;omega)) _)|(with_reducible refine Ext.drew ?_)|(with_reducible refine Ext.drewN ?_ _)|(refine Ext.trans ?_ (by with_reducible assumption)))))
set_option maxRecDepth 100000 in
set_option maxHeartbeats 8000000 in
theorem implBk_neg (q:Option Addr)(m c2:Nat)(P:Int)(w:World)(hP:P<0)(HV:Hid (∀w',Ext w w'→Calls Tryd.prog 40 #[.slice q m c2] w' fun e w''=>e= .returned (.bool true)∧Ext w' w'')):
  Calls Tryd.prog 26 #[.slice q m c2,.int .i64 P] w (RetInts [] w):=by
 have t1:decide (P<0)=true:=by simp[hP]
 go_enter Tryd.func26,Tryd.ntmps26
 go_wp2_with fail
 refine(HV.out _ (by(repeat' (first|exact Ext.refl _|(with_reducible assumption)|(with_reducible refine Ext.alloc ?_ _)|(with_reducible refine Ext.setCell ?_ (by first|exact Nat.le_refl _|(dsimp only;omega)|(simp;done)|(simp;omega)) _)|(with_reducible refine Ext.drew ?_)|(with_reducible refine Ext.drewN ?_ _)|(refine Ext.trans ?_ (by with_reducible assumption)))))).mono ?_
 rintro e w1 ⟨rfl,h1⟩
 go_wp2
 go_ret
 exact ret_ints (xs:= []) rfl (World.ownsRow_nil _ _ _ _) (by(repeat' (first|exact Ext.refl _|(with_reducible assumption)|(with_reducible refine Ext.alloc ?_ _)|(with_reducible refine Ext.setCell ?_ (by first|exact Nat.le_refl _|(dsimp only;omega)|(simp;done)|(simp;omega)) _)|(with_reducible refine Ext.drew ?_)|(with_reducible refine Ext.drewN ?_ _)|(refine Ext.trans ?_ (by with_reducible assumption)))))
set_option maxRecDepth 100000 in
set_option maxHeartbeats 8000000 in
theorem specBk_zero (q:Option Addr)(c2:Nat)(P:Int)(w:World)(hP:0≤P)(HV:Hid (∀w',Ext w w'→Calls Tryd.prog 28 #[.slice q 0 c2] w' fun e w''=>e= .returned (.bool true)∧Ext w' w''))
  (HF:Hid (∀w',Ext w w'→Calls Tryd.prog 63 #[.slice q 0 c2] w' (RetInts [] w'))):
  Calls Tryd.prog 27 #[.slice q 0 c2,.int .i64 P] w (RetInts [] w):=by
 have t1:decide (P<0)=false:=by simp;omega
 have MA:=Lib.hid (show Mem w ((w.alloc (.cells #[] TI)).alloc (.cells #[] TBk)) [ownI w.heap.size TBk 4 (some ⟨w.heap.size+1,0,none⟩) (0) (0) ([]),ownI w.heap.size TI 1 (some ⟨w.heap.size,0,none⟩) (0) (0) ([])]from((Mem.start w).made0 TI 1 (w.heap.size) (by simp)).made0 TBk 4 (w.heap.size+1) (by simp))
 go_enter Tryd.func27,Tryd.ntmps27
 go_wp2_with fail
 refine(HV.out _ MA.out.ext).mono ?_
 rintro e w1 ⟨rfl,h1⟩
 have MB:=Lib.hid (MA.out.adv h1)
 clear MA h1
 go_wp2_with fail
 refine(HF.out _ MB.out.ext).mono ?_
 rintro e w2 ⟨q5,c5,rfl,o5,h2⟩
 have MC:=Lib.hid (MB.out.adv h2)
 clear MB o5 h2
 go_wp2
 go_rounds 1
 go_ret
 exact ret_ints (xs:= []) rfl (MC.out.own (i:=1) rfl) MC.out.ext
set_option maxRecDepth 100000 in
set_option maxHeartbeats 8000000 in
theorem implBk_zero (q:Option Addr)(c2:Nat)(P:Int)(w:World)(hP:0≤P)(HV:Hid (∀w',Ext w w'→Calls Tryd.prog 40 #[.slice q 0 c2] w' fun e w''=>e= .returned (.bool true)∧Ext w' w'')):
  Calls Tryd.prog 26 #[.slice q 0 c2,.int .i64 P] w (RetInts [] w):=by
 have t1:decide (P<0)=false:=by simp;omega
 have HF:=Lib.hid (fun w=>orderTo_zero q c2 w)
 have HSO:=Lib.hid (fun w=>sort_any w.heap.size none 0 0 [] w (World.ownsRow_nil _ _ _ _) (by omega))
 go_enter Tryd.func26,Tryd.ntmps26
 go_wp2_with fail
 refine(HV.out _ (by(repeat' (first|exact Ext.refl _|(with_reducible assumption)|(with_reducible refine Ext.alloc ?_ _)|(with_reducible refine Ext.setCell ?_ (by first|exact Nat.le_refl _|(dsimp only;omega)|(simp;done)|(simp;omega)) _)|(with_reducible refine Ext.drew ?_)|(with_reducible refine Ext.drewN ?_ _)|(refine Ext.trans ?_ (by with_reducible assumption)))))).mono ?_
 rintro e w1 ⟨rfl,h1⟩
 go_wp2_with fail
 refine(HF.out _).mono ?_
 rintro e w2 ⟨q5,c5,rfl,h2⟩
 have hE:Ext w w2:=by(repeat' (first|exact Ext.refl _|(with_reducible assumption)|(with_reducible refine Ext.alloc ?_ _)|(with_reducible refine Ext.setCell ?_ (by first|exact Nat.le_refl _|(dsimp only;omega)|(simp;done)|(simp;omega)) _)|(with_reducible refine Ext.drew ?_)|(with_reducible refine Ext.drewN ?_ _)|(refine Ext.trans ?_ (by with_reducible assumption))))
 clear h1 h2
 go_wp2
 refine wp_loop_rounds 1 ?_
 rw[rounds_succ]
 go_wp2_with fail
 refine(HSO.out _).mono ?_
 rintro e w3 ⟨rfl,h3,g3⟩
 have hE3:Ext w w3:=hE.grown g3 (fun k hk=>by cases hk)
 clear h3 g3
 go_wp2
 go_ret
 exact ret_ints (xs:= []) rfl (World.ownsRow_nil _ _ _ _) hE3
theorem specBk (q:Option Addr)(m c2:Nat)(P:Int)(bs:List Visit4)(w:World)(hS:Sl w q m c2 4 (bs.flatMap visitCells)):
  Calls Tryd.prog 27 #[.slice q m c2,.int .i64 P] w (RetInts (booksKeep bs P) w):=by
 have HV: ∀w',Ext w w'→Calls Tryd.prog 28 #[.slice q m c2] w' fun e w''=>e= .returned (.bool (booksOk bs))∧Ext w' w'':=fun w' hx=>specBsv q m c2 bs w' (hS.ext hx)
 have hl0:bs.length=m:=by have:=hS.len;rw[flat_len visitCells 4 (fun _=>rfl)]at this;omega
 cases ho:booksOk bs with
 |false=>
  rw[show booksKeep bs P= [] by unfold booksKeep;simp[ho]]
  rw[ho]at HV
  exact specBk_bk q m c2 P w HV
 |true=>
  rw[ho]at HV
  by_cases hP:0≤P
  ·by_cases hm:0<m
   ·obtain⟨b,off,rfl,_,_⟩:=hS.rd hm
    exact specBk_o b off m c2 P bs w ho hm hP hS
   ·obtain rfl:m=0:=by omega
    obtain rfl:bs= []:=List.eq_nil_of_length_eq_zero hl0
    rw[show booksKeep [] P= [] by unfold booksKeep;rw[if_pos ⟨ho,hP⟩];rfl]
    exact specBk_zero q c2 P w hP HV (fun w' hx=>by have:=specByTo q 0 c2 [] w' (by omega) (hS.ext hx);exact this)
  ·rw[show booksKeep bs P= [] by unfold booksKeep;rw[if_neg (fun h=>hP h.2)]]
   exact specBk_neg q m c2 P w (by omega) HV
theorem implBk (q:Option Addr)(m c2:Nat)(P:Int)(bs:List Visit4)(w:World)(hS:Sl w q m c2 4 (bs.flatMap visitCells)):
  Calls Tryd.prog 26 #[.slice q m c2,.int .i64 P] w (RetInts (booksKeep bs P) w):=by
 have HV: ∀w',Ext w w'→Calls Tryd.prog 40 #[.slice q m c2] w' fun e w''=>e= .returned (.bool (booksOk bs))∧Ext w' w'':=fun w' hx=>implBsv q m c2 bs w' (hS.ext hx)
 have hl0:bs.length=m:=by have:=hS.len;rw[flat_len visitCells 4 (fun _=>rfl)]at this;omega
 cases ho:booksOk bs with
 |false=>
  rw[show booksKeep bs P= [] by unfold booksKeep;simp[ho]]
  rw[ho]at HV
  exact implBk_bk q m c2 P w HV
 |true=>
  rw[ho]at HV
  by_cases hP:0≤P
  ·by_cases hm:0<m
   ·obtain⟨b,off,rfl,_,_⟩:=hS.rd hm
    exact implBk_o b off m c2 P bs w ho hm hP hS
   ·obtain rfl:m=0:=by omega
    obtain rfl:bs= []:=List.eq_nil_of_length_eq_zero hl0
    rw[show booksKeep [] P= [] by unfold booksKeep;rw[if_pos ⟨ho,hP⟩];rfl]
    exact implBk_zero q c2 P w hP HV
  ·rw[show booksKeep bs P= [] by unfold booksKeep;rw[if_neg (fun h=>hP h.2)]]
   exact implBk_neg q m c2 P w (by omega) HV
end Go.Proofs.YtndcnflchkfaeaaDoor

namespace Go.Proofs.YtndcnflchkfaeaaDoor
open Go.RowKit
set_option linter.unusedVariables false
set_option linter.unusedSimpArgs false
def setL:List Visit4→Nat→List Visit4
 | [],_=> []
 |b::bs,s=>if s%2=1 then b::setL bs (s/2)else setL bs (s/2)
theorem setL_sub: ∀(bs:List Visit4) (s:Nat),(setL bs s).Sublist bs
 | [],s=>List.Sublist.refl _
 |b::bs,s=>by
  rw[setL];split
  ·exact List.cons_sublist_cons.2 (setL_sub bs _)
  ·exact(setL_sub bs _).cons _
theorem setL_all: ∀ {S bs:List Visit4},S.Sublist bs→ ∃s,s<2 ^ bs.length∧setL bs s=S:=by
 intro S bs h
 induction h with
 |slnil=>exact⟨0,by simp,rfl⟩
 |cons a h ih=>
  obtain⟨s,h1,h2⟩:=ih
  refine⟨2*s,by simp[Nat.pow_succ];omega,?_⟩
  rw[setL,if_neg (by omega),show 2*s/2=s by omega,h2]
 |cons_cons a h ih=>
  obtain⟨s,h1,h2⟩:=ih
  refine⟨2*s+1,by simp[Nat.pow_succ];omega,?_⟩
  rw[setL,if_pos (by omega),show(2*s+1)/2=s by omega,h2]
theorem setL_snoc: ∀(l:List Visit4) (b:Visit4) (s:Nat),setL (l++ [b]) s=if s/2 ^ l.length%2=1 then setL l s++ [b]else setL l s
 | [],b,s=>by simp[setL]
 |x::l,b,s=>by
  rw[List.cons_append,setL,setL_snoc l b (s/2),setL,List.length_cons,Nat.div_div_eq_div_mul,show 2*2 ^ l.length=2 ^ (l.length+1) by rw[Nat.pow_succ];omega]
  split<;>split<;>rfl
theorem setL_take {bs:List Visit4}{i:Nat}{b:Visit4}(h:bs[i]? =some b) (s:Nat):setL (bs.take (i+1)) s=if s/2 ^ i%2=1 then setL (bs.take i) s++ [b]else setL (bs.take i) s:=by
 have hi:=(List.getElem?_eq_some_iff.1 h).1
 have:bs.take (i+1)=bs.take i++ [b]:=by rw[List.take_add_one,h];rfl
 rw[this,setL_snoc,List.length_take,Nat.min_eq_left (by omega)]
structure PkInv (bs:List Visit4) (p:Int) (n most:Nat):Prop where
 le:most≤(booksKeep bs p).length
 top: ∀s,s<n→booksMost (setL bs s)≤p→(setL bs s).length≤most
theorem PkInv.start (bs:List Visit4)(p:Int):PkInv bs p 0 0:=⟨Nat.zero_le _,fun s h=>absurd h (by omega)⟩
theorem PkInv.keep {bs:List Visit4}{p:Int}{n most:Nat}(h:PkInv bs p n most)(hn: ¬(most<(setL bs n).length∧booksMost (setL bs n)≤p)):PkInv bs p (n+1) most:=
 ⟨h.le,fun s hs hf=>by
  rcases Nat.lt_or_ge s n with h1|h1
  ·exact h.top s h1 hf
  ·obtain rfl:s=n:=by omega
   rcases Nat.lt_or_ge most (setL bs s).length with h2|h2
   ·exact absurd ⟨h2,hf⟩ hn
   ·exact h2⟩
theorem PkInv.grow {bs:List Visit4}{p:Int}{n most:Nat}(ho:booksOk bs=true)(hp:0≤p)(h:PkInv bs p n most)(h1:most<(setL bs n).length)(h2:booksMost (setL bs n)≤p):PkInv bs p (n+1) (setL bs n).length:=
 ⟨keep_best ho hp (setL_sub bs n) h2,fun s hs hf=>by
  rcases Nat.lt_or_ge s n with h3|h3
  ·have:=h.top s h3 hf;omega
  ·obtain rfl:s=n:=by omega
   exact Nat.le_refl _⟩
theorem PkInv.done {bs:List Visit4}{p:Int}{n most:Nat}(ho:booksOk bs=true)(hp:0≤p)(h:PkInv bs p n most)(hn:2 ^ bs.length≤n):most=(booksKeep bs p).length:=by
 obtain⟨k1,k2,_⟩:=keep_own ho hp
 obtain⟨s,h1,h2⟩:=setL_all (List.filter_sublist (p:=fun b:Visit4=>(booksKeep bs p).contains b.1) (l:=bs))
 have:=h.top s (by omega) (by rw[h2];exact k2)
 rw[h2,k1]at this
 have:=h.le
 omega
end Go.Proofs.YtndcnflchkfaeaaDoor

