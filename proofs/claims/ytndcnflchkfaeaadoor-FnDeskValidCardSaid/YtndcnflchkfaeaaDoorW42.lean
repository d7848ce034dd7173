/-
  A law's walk or frame (@packed).
-/
import Derived.Test.YtndcnflchkfaeaaDoorK10
import Derived.Test.YtndcnflchkfaeaaDoorK22
import Derived.Test.YtndcnflchkfaeaaDoorK28
import Derived.Test.YtndcnflchkfaeaaDoorK32
namespace Go.Proofs.YtndcnflchkfaeaaDoor
open Go.RowKit
set_option linter.unusedVariables false
set_option linter.unusedSimpArgs false
set_option maxRecDepth 100000 in
set_option maxHeartbeats 8000000 in
theorem fnDeskValid_big (p:Option Addr)(n cap:Nat)(w:World)(h:(1048576:Int)<n):
  Calls Tryd.prog 3 #[.slice p n cap] w fun e w'=>e= .returned (.bool true)∧Ext w w':=by
 go_enter Tryd.func3,Tryd.ntmps3
 go_wp2
 go_ret
 exact⟨rfl,by(repeat' (first|exact Ext.refl _|(with_reducible assumption)|(with_reducible refine Ext.alloc ?_ _)|(with_reducible refine Ext.setCell ?_ (by first|exact Nat.le_refl _|(dsimp only;omega)|(simp;done)|(simp;omega)) _)|(with_reducible refine Ext.drew ?_)|(with_reducible refine Ext.drewN ?_ _)|(refine Ext.trans ?_ (by with_reducible assumption))))⟩
set_option maxRecDepth 100000 in
set_option maxHeartbeats 8000000 in
theorem fnDeskValid_o (p0:Option Addr)(n0 cap0:Nat)(w:World)(hn0:(n0:Int)≤1048576)(HE:Hid (Env w))
  (HD:Calls Tryd.prog 9 #[.slice p0 n0 cap0] w (DrewDesk w)):
  Calls Tryd.prog 3 #[.slice p0 n0 cap0] w fun e w'=>e= .returned (.bool true)∧Ext w w':=by
 unfold DrewDesk at HD
 have HD:=Lib.hid HD
 have hd0:decide ((1048576:Int)<(n0:Int))=false:=by simp;omega
 have hd1:decide (1048576<n0)=false:=by simp;omega
 go_enter Tryd.func3,Tryd.ntmps3
 go_wp2_with fail
 refine HD.out.mono ?_
 rintro e w1 ⟨P,T,W,q,c,q2,c2,rfl,hT,hW,ho,hv,hx1⟩
 have hX1:=Lib.hid hx1
 clear HD hx1 hd0 hd1
 obtain⟨n,hn⟩: ∃x,T.length=x:=⟨_,rfl⟩
 obtain⟨m,hm⟩: ∃x,W.length=x:=⟨_,rfl⟩
 rw[hn]at hT ho⊢
 rw[hm]at hW hv⊢
 have HS:=Lib.hid (Sl.own ho)
 have HS2:=Lib.hid (Sl.own hv)
 have hl:=Lib.hid hn
 have hl2:=Lib.hid hm
 clear ho hv hn hm
 have HVi:=Lib.hid fun(w':World) (hx:Ext w1 w')=>implDv P q n c q2 m c2 T W w' (HS.out.ext hx) (HS2.out.ext hx)
 have HVs:=Lib.hid fun(w':World) (hx:Ext w1 w')=>specDv P q n c q2 m c2 T W w' (HS.out.ext hx) (HS2.out.ext hx)
 have hcases:deskValid ⟨P,T,W⟩=false∨(deskValid ⟨P,T,W⟩=true∧(∀(k:Nat) (b:Visit4),W[k]? =some b→T.length+1≤7→ ¬booksMost (T++ [b])≤P)∧deskValid ⟨P,T,[]⟩=true):=by
  cases hv:deskValid ⟨P,T,W⟩with
  |false=>exact .inl rfl
  |true=>exact .inr ⟨rfl,fun k b hb hk=>valid_wait hv hb hk,valid_less hv⟩
 obtain⟨V,hV⟩: ∃x,deskValid ⟨P,T,W⟩=x:=⟨_,rfl⟩
 rw[hV]at HVi HVs hcases
 clear hV
 go_wp2_with fail
 refine(HVi.out _ (((Mem.start w1).blkNew TDk #[.int .i64 P,.slice q n c,.slice q2 m c2] (w1.heap.size) (by simp))).ext).mono ?_
 rintro e w2 ⟨rfl,hx2⟩
 have M2:=Lib.hid ((((Mem.start w1).blkNew TDk #[.int .i64 P,.slice q n c,.slice q2 m c2] (w1.heap.size) (by simp))).adv hx2)
 have lt2_0:w1.heap.size<w2.heap.size:=(M2.out.lt (i:=0) rfl rfl).2
 clear hx2
 obtain⟨ca0,ca1,ca2⟩:=(M2.out.blk (i:=0) rfl).tri
 go_wp2_with fail
 clear ca0 ca1 ca2
 refine(HVs.out _ (M2.out).ext).mono ?_
 rintro e w3 ⟨rfl,hx3⟩
 have M3:=Lib.hid ((M2.out).adv hx3)
 clear M2
 clear lt2_0
 have lt3_0:w1.heap.size<w3.heap.size:=(M3.out.lt (i:=0) rfl rfl).2
 clear hx3
 clear HVi HVs
 rcases hcases with rfl|⟨rfl,h1,h2⟩
 ·skip
  have HZ:=Lib.hid fun(w':World)=>implDv 0 none 0 0 none 0 0 [] [] w' (Sl.own (World.ownsRow_nil w' 0 TBk 4)) (Sl.own (World.ownsRow_nil w' 0 TBk 4))
  rw[show deskValid ⟨0,[],[]⟩=false from rfl]at HZ
  go_wp2_with fail
  refine(HZ.out _).mono ?_
  rintro e w4 ⟨rfl,hx4⟩
  have M4:=Lib.hid ((M3.out).adv hx4)
  clear M3
  clear lt3_0
  have lt4_0:w1.heap.size<w4.heap.size:=(M4.out.lt (i:=0) rfl rfl).2
  clear hx4
  go_wp2_with fail
  refine(alive_any _ (HE.out.ext (hX1.out.trans (M4.out).ext))).mono ?_
  rintro e wz ⟨rfl,hxz⟩
  have XZ:Ext w wz:=hX1.out.trans ((M4.out).ext.trans hxz)
  go_wp2
  go_ret
  exact⟨rfl,XZ⟩
 ·skip
  have HW:=Lib.hid h1
  have HL:=Lib.hid h2
  clear h1 h2
  go_wp2
  go_loopw [5] (fun i wr=> ∃k:Nat,k≤m∧i= .int .i64 (k:Int)∧Mem w1 wr [blkI w1.heap.size (w1.heap.size) TDk #[.int .i64 P,.slice q n c,.slice q2 m c2]]) (fun i _=>m-(intOf i).toNat)
  case atStart=>exact⟨0,Nat.zero_le _,rfl,M3.out⟩
  case round=>
   clear M3 lt3_0
   obtain⟨k,hk,rfl,hM⟩:=hrel
   have M5:=Lib.hid hM
   clear hM
   by_cases hlt:k<m
   ·skip
    have lt5_0:w1.heap.size<wr.heap.size:=(M5.out.lt (i:=0) rfl rfl).2
    obtain⟨bb,off,x0,x1,x2,x3,rfl,hv,hb,y0,y1,y2,y3⟩:=visit_at (HS2.out.ext M5.out.ext) hlt
    have HB:=Lib.hid (HW.out k _ hv)
    clear hv
    have i1:(0:Int)≤(k:Int):=by omega
    have i2:(k:Int)<(m:Int):=by omega
    have i3: ¬(m≤k):=by omega
    obtain⟨ca0,ca1,ca2⟩:=(M5.out.blk (i:=0) rfl).tri
    have B0:=Lib.hid (M5.out.blk (i:=0) rfl)
    go_wp2
    clear ca0 ca1 ca2
    refine region_lin (gl [gLit (wr.heap.size) TBk #[] 0,gEq (.pointer (some ⟨w1.heap.size,1,none⟩)),gEq (.slice q n c),(fun v w'=> ∃q c,v= .slice q (n) c∧w'.ownsRow (wr.heap.size) TBk 4 (.slice q (n) c) (n) (T.flatMap visitCells)),gEq (.pointer (some ⟨w1.heap.size,2,none⟩)),gEq (.slice (some ⟨bb,off,none⟩) m c2),gEq (.int .i64 ((k:Int))),gEq (.pointer (some ⟨bb,off+k*4,none⟩)),gEq (.agg #[.int .i64 x0,.int .i64 x1,.int .i64 x2,.int .i64 x3]),gLit (wr.heap.size) TBk #[.int .i64 x0,.int .i64 x1,.int .i64 x2,.int .i64 x3] 1]) 10 (by kernel_rfl) rfl (by kernel_rfl) (by kernel_rfl) (by kernel_rfl) (gl_mono (gl_cons (gLit_mono _ _ _ _) (gl_cons (gEq_mono _) (gl_cons (gEq_mono _) (gl_cons (fun v w w' ⟨q,c,he,ho⟩ hx=>⟨q,c,he,own_ext ho hx⟩) (gl_cons (gEq_mono _) (gl_cons (gEq_mono _) (gl_cons (gEq_mono _) (gl_cons (gEq_mono _) (gl_cons (gEq_mono _) (gl_cons (gLit_mono _ _ _ _) (gl_nil)))))))))))) (k:=12) (by kernel_rfl) (by decide) (ls:= [(0,some 33),(1,some 34),(2,some 35),(3,some 36),(4,some 37),(5,some 38),(6,some 39),(7,some 40),(8,some 41),(9,some 42)]) (by kernel_rfl) (ir:= [0,1,2,3,4,5,6,7,8,9]) (by kernel_rfl) ?steps (tl:=#[true,true,true,true,true,true,true,true,true,true,false,false]) (by kernel_rfl) ?fin
    case steps=>
     refine StepsL.cons (ps:= []) rfl (by kernel_rfl) (fun wi hx=> ?_) ?_
     ·intro K hK
      go_simp
      exact hK _ _ ⟨.slice (some ⟨wi.heap.size,0,none⟩) 0 0,rfl,⟨wi.heap.size,rfl,by have:=hx.sz;simp at this;omega,Blk.new _ _ _⟩,(Ext.refl _).alloc _⟩
     refine StepsL.cons (ps:= []) rfl (by kernel_rfl) (fun wi hx=> ?_) ?_
     ·intro K hK
      go_simp
      exact hK _ _ ⟨.pointer (some ⟨w1.heap.size,1,none⟩),rfl,rfl,Ext.refl _⟩
     refine StepsL.cons (ps:= [(1,some 34)]) rfl (by kernel_rfl) (fun wi hx=> ?_) ?_
     ·intro v1 h1 K hK
      obtain rfl:=h1
      have hX:Ext wr wi:=by(repeat' (first|exact Ext.refl _|(with_reducible assumption)|(with_reducible refine Ext.alloc ?_ _)|(with_reducible refine Ext.setCell ?_ (by first|exact Nat.le_refl _|(dsimp only;omega)|(simp;done)|(simp;omega)) _)|(with_reducible refine Ext.drew ?_)|(with_reducible refine Ext.drewN ?_ _)|(refine Ext.trans ?_ (by with_reducible assumption))))
      have cl0:wi.cell? ⟨w1.heap.size,1,none⟩=some (.slice q n c):=(B0.out.ext hX).cell 1
      go_simp
      exact hK _ _ ⟨.slice q n c,rfl,rfl,Ext.refl _⟩
     refine StepsL.cons (ps:= [(0,some 33),(2,some 35)]) rfl (by kernel_rfl) (fun wi hx=> ?_) ?_
     ·intro v0 h0 v2 h2
      obtain⟨g0,rfl,hg0,B0⟩:=h0
      obtain rfl:=h2
      refine step_append_full _ elBk rfl (.tmp 33) (.tmp 35) rfl (wr.heap.size) g0 0 #[] rfl B0 hg0 (by simp) q n c (T.flatMap visitCells) rfl ((HS.out.ext M5.out.ext).ext hx.of_drew) (books_one _) (by omega) (fun p' cap' w' h2=>⟨p',cap',by rw[Nat.zero_add],by simpa using h2⟩)
     refine StepsL.cons (ps:= []) rfl (by kernel_rfl) (fun wi hx=> ?_) ?_
     ·intro K hK
      go_simp
      exact hK _ _ ⟨.pointer (some ⟨w1.heap.size,2,none⟩),rfl,rfl,Ext.refl _⟩
     refine StepsL.cons (ps:= [(4,some 37)]) rfl (by kernel_rfl) (fun wi hx=> ?_) ?_
     ·intro v4 h4 K hK
      obtain rfl:=h4
      have hX:Ext wr wi:=by(repeat' (first|exact Ext.refl _|(with_reducible assumption)|(with_reducible refine Ext.alloc ?_ _)|(with_reducible refine Ext.setCell ?_ (by first|exact Nat.le_refl _|(dsimp only;omega)|(simp;done)|(simp;omega)) _)|(with_reducible refine Ext.drew ?_)|(with_reducible refine Ext.drewN ?_ _)|(refine Ext.trans ?_ (by with_reducible assumption))))
      have cl0:wi.cell? ⟨w1.heap.size,2,none⟩=some (.slice (some ⟨bb,off,none⟩) m c2):=(B0.out.ext hX).cell 2
      go_simp
      exact hK _ _ ⟨.slice (some ⟨bb,off,none⟩) m c2,rfl,rfl,Ext.refl _⟩
     refine StepsL.cons (ps:= []) rfl (by kernel_rfl) (fun wi hx=> ?_) ?_
     ·intro K hK
      go_simp
      exact hK _ _ ⟨.int .i64 ((k:Int)),rfl,rfl,Ext.refl _⟩
     refine StepsL.cons (ps:= [(5,some 38),(6,some 39)]) rfl (by kernel_rfl) (fun wi hx=> ?_) ?_
     ·intro v5 h5 v6 h6 K hK
      obtain rfl:=h5
      obtain rfl:=h6
      go_simp
      exact hK _ _ ⟨.pointer (some ⟨bb,off+k*4,none⟩),rfl,rfl,Ext.refl _⟩
     refine StepsL.cons (ps:= [(7,some 40)]) rfl (by kernel_rfl) (fun wi hx=> ?_) ?_
     ·intro v7 h7 K hK
      obtain rfl:=h7
      have hX:Ext wr wi:=by(repeat' (first|exact Ext.refl _|(with_reducible assumption)|(with_reducible refine Ext.alloc ?_ _)|(with_reducible refine Ext.setCell ?_ (by first|exact Nat.le_refl _|(dsimp only;omega)|(simp;done)|(simp;omega)) _)|(with_reducible refine Ext.drew ?_)|(with_reducible refine Ext.drewN ?_ _)|(refine Ext.trans ?_ (by with_reducible assumption))))
      have cl0:wi.cell? ⟨bb,off+k*4,none⟩=some (.int .i64 x0):=(hX.cells.1 _ _ hb).trans y0
      have cl1:wi.cell? ⟨bb,off+k*4+1,none⟩=some (.int .i64 x1):=(hX.cells.1 _ _ hb).trans y1
      have cl2:wi.cell? ⟨bb,off+k*4+2,none⟩=some (.int .i64 x2):=(hX.cells.1 _ _ hb).trans y2
      have cl3:wi.cell? ⟨bb,off+k*4+3,none⟩=some (.int .i64 x3):=(hX.cells.1 _ _ hb).trans y3
      go_simp
      exact hK _ _ ⟨.agg #[.int .i64 x0,.int .i64 x1,.int .i64 x2,.int .i64 x3],rfl,rfl,Ext.refl _⟩
     refine StepsL.cons (ps:= [(8,some 41)]) rfl (by kernel_rfl) (fun wi hx=> ?_) StepsL.nil
     ·intro v8 h8 K hK
      obtain rfl:=h8
      go_simp
      exact hK _ _ ⟨.slice (some ⟨wi.heap.size,0,none⟩) 1 1,rfl,⟨wi.heap.size,rfl,by have:=hx.sz;simp at this;omega,Blk.new _ _ _⟩,(Ext.refl _).alloc _⟩
    case fin=>
     intro wi hx v0 h0 v1 h1 v2 h2 v3 h3 v4 h4 v5 h5 v6 h6 v7 h7 v8 h8 v9 h9
     obtain⟨g0,rfl,hg0,B0⟩:=h0
     obtain rfl:=h1
     obtain rfl:=h2
     obtain⟨q3,c3,rfl,ho3⟩:=h3
     obtain rfl:=h4
     obtain rfl:=h5
     obtain rfl:=h6
     obtain rfl:=h7
     obtain rfl:=h8
     obtain⟨g9,rfl,hg9,B9⟩:=h9
     have hX:Ext wr wi:=hx.of_drew
     have M6:=Lib.hid (M5.out.ownNew hX ho3 (Nat.le_refl _))
     have XT: [(x0,x1,x2,x3)].flatMap visitCells=visitCells (x0,x1,x2,x3):=by simp
     clear hX hx B0 M5 y0 y1 y2 y3 hg9 hg0 ho3
     simp only[Act.put,List.setIfInBounds_toArray,List.set_cons_zero,List.set_cons_succ]
     refine wpAny_ready (rs:= [10]) (by kernel_rfl) (by simp) ?_
     refine AllReady.cons rfl (fun K hK=> ?_) AllReady.nil
     refine step_appM elBk rfl _ _ rfl M6.out 0 rfl rfl (visitCells (x0,x1,x2,x3)) rfl (sl_blk1 B9) (book_one _) (by omega) (fun q7 c7 w6 M7X=>hK _ _ ?_)
     clear hK K
     have M7:=Lib.hid (show Mem w1 w6 [ownI w1.heap.size TBk 4 (q7) (n+1) (c7) ((T++ [(x0,x1,x2,x3)]).flatMap visitCells),blkI w1.heap.size (w1.heap.size) TDk #[.int .i64 P,.slice q n c,.slice (some ⟨bb,off,none⟩) m c2]]from by rw[List.flatMap_append,XT];exact M7X)
     clear M7X M6 B9 XT
     try simp only[Act.put,List.setIfInBounds_toArray,List.set_cons_zero,List.set_cons_succ]
     refine wpAny_ready (rs:= [11]) (by kernel_rfl) (by simp) ?_
     refine AllReady.cons rfl (fun K hK=> ?_) AllReady.nil
     go_simp
     refine hK _ _ ?_
     clear hK K
     refine wpAny_done (by kernel_rfl) ?_ _
     try simp only[Act.put,List.setIfInBounds_toArray,List.set_cons_zero,List.set_cons_succ]
     have BD:=Lib.hid (M7.out.blk (i:=1) rfl)
     by_cases h7:n<7
     ·skip
      have hbn:=HB.out (by rw[hl.out];omega)
      obtain⟨Mx,hMx⟩: ∃x,booksMost (T++ [(x0,x1,x2,x3)])=x:=⟨_,rfl⟩
      have HBM:=Lib.hid fun(w':World) (hx:Ext w6 w')=>implBm q7 (n+1) c7 (T++ [(x0,x1,x2,x3)]) w' ((M7.out.sl (i:=0) rfl).ext hx)
      rw[hMx]at hbn HBM
      have t3:decide (Mx≤P)=false:=by simp;omega
      clear hMx hbn
      have t1:decide ((n:Int)+1≤7)=true:=by simp;omega
      have t2:(n:Int)+1≤7:=by omega
      go_wp2
      refine region_lin (gl [gEq (.slice q7 (n+1) c7),gEq (.int .i64 ((n:Int)+1)),gEq (.bool true),gEq (.bool true),gEq (.slice q7 (n+1) c7),gEq (.int .i64 Mx),gEq (.pointer (some ⟨w1.heap.size,0,none⟩)),gEq (.int .i64 P),gEq (.bool false),gEq (.bool false)]) 10 (by kernel_rfl) rfl (by kernel_rfl) (by kernel_rfl) (by kernel_rfl) (gl_mono (gl_cons (gEq_mono _) (gl_cons (gEq_mono _) (gl_cons (gEq_mono _) (gl_cons (gEq_mono _) (gl_cons (gEq_mono _) (gl_cons (gEq_mono _) (gl_cons (gEq_mono _) (gl_cons (gEq_mono _) (gl_cons (gEq_mono _) (gl_cons (gEq_mono _) (gl_nil)))))))))))) (k:=10) (by kernel_rfl) (by decide) (ls:= [(0,some 44),(1,some 45),(2,some 46),(3,some 47),(4,some 48),(5,some 49),(6,some 50),(7,some 51),(8,some 52),(9,some 53)]) (by kernel_rfl) (ir:= [0,1,2,3,4,5,6,7,8,9]) (by kernel_rfl) ?steps (tl:=#[true,true,true,true,true,true,true,true,true,true]) (by kernel_rfl) ?fin
      case steps=>
       refine StepsL.cons (ps:= []) rfl (by kernel_rfl) (fun wi hx=> ?_) ?_
       ·intro K hK
        go_simp
        exact hK _ _ ⟨.slice q7 (n+1) c7,rfl,rfl,Ext.refl _⟩
       refine StepsL.cons (ps:= [(0,some 44)]) rfl (by kernel_rfl) (fun wi hx=> ?_) ?_
       ·intro v0 h0 K hK
        obtain rfl:=h0
        go_simp
        exact hK _ _ ⟨.int .i64 ((n:Int)+1),rfl,rfl,Ext.refl _⟩
       refine StepsL.cons (ps:= [(1,some 45)]) rfl (by kernel_rfl) (fun wi hx=> ?_) ?_
       ·intro v1 h1 K hK
        obtain rfl:=h1
        go_simp
        exact hK _ _ ⟨.bool true,rfl,rfl,Ext.refl _⟩
       refine StepsL.cons (ps:= [(2,some 46)]) rfl (by kernel_rfl) (fun wi hx=> ?_) ?_
       ·intro v2 h2 K hK
        obtain rfl:=h2
        go_simp
        exact hK _ _ ⟨.bool true,rfl,rfl,Ext.refl _⟩
       refine StepsL.cons (ps:= [(3,some 47)]) rfl (by kernel_rfl) (fun wi hx=> ?_) ?_
       ·intro v3 h3 K hK
        obtain rfl:=h3
        go_simp
        exact hK _ _ ⟨.slice q7 (n+1) c7,rfl,rfl,Ext.refl _⟩
       refine StepsL.cons (ps:= [(3,some 47),(4,some 48)]) rfl (by kernel_rfl) (fun wi hx=> ?_) ?_
       ·intro v3 h3 v4 h4 K hK
        obtain rfl:=h3
        obtain rfl:=h4
        go_simp
        refine(HBM.out _ (by(repeat' (first|exact Ext.refl _|(with_reducible assumption)|(with_reducible refine Ext.alloc ?_ _)|(with_reducible refine Ext.setCell ?_ (by first|exact Nat.le_refl _|(dsimp only;omega)|(simp;done)|(simp;omega)) _)|(with_reducible refine Ext.drew ?_)|(with_reducible refine Ext.drewN ?_ _)|(refine Ext.trans ?_ (by with_reducible assumption)))))).mono ?_
        rintro e w5 ⟨rfl,hx5⟩
        go_simp
        exact hK _ _ ⟨.int .i64 Mx,rfl,rfl,hx5⟩
       refine StepsL.cons (ps:= [(3,some 47)]) rfl (by kernel_rfl) (fun wi hx=> ?_) ?_
       ·intro v3 h3 K hK
        obtain rfl:=h3
        go_simp
        exact hK _ _ ⟨.pointer (some ⟨w1.heap.size,0,none⟩),rfl,rfl,Ext.refl _⟩
       refine StepsL.cons (ps:= [(3,some 47),(6,some 50)]) rfl (by kernel_rfl) (fun wi hx=> ?_) ?_
       ·intro v3 h3 v6 h6 K hK
        obtain rfl:=h3
        obtain rfl:=h6
        have hX:Ext w6 wi:=by(repeat' (first|exact Ext.refl _|(with_reducible assumption)|(with_reducible refine Ext.alloc ?_ _)|(with_reducible refine Ext.setCell ?_ (by first|exact Nat.le_refl _|(dsimp only;omega)|(simp;done)|(simp;omega)) _)|(with_reducible refine Ext.drew ?_)|(with_reducible refine Ext.drewN ?_ _)|(refine Ext.trans ?_ (by with_reducible assumption))))
        have cl0:wi.cell? ⟨w1.heap.size,0,none⟩=some (.int .i64 P):=(BD.out.ext hX).cell 0
        go_simp
        exact hK _ _ ⟨.int .i64 P,rfl,rfl,Ext.refl _⟩
       refine StepsL.cons (ps:= [(3,some 47),(5,some 49),(7,some 51)]) rfl (by kernel_rfl) (fun wi hx=> ?_) ?_
       ·intro v3 h3 v5 h5 v7 h7 K hK
        obtain rfl:=h3
        obtain rfl:=h5
        obtain rfl:=h7
        go_simp
        exact hK _ _ ⟨.bool false,rfl,rfl,Ext.refl _⟩
       refine StepsL.cons (ps:= [(3,some 47),(8,some 52)]) rfl (by kernel_rfl) (fun wi hx=> ?_) StepsL.nil
       ·intro v3 h3 v8 h8 K hK
        obtain rfl:=h3
        obtain rfl:=h8
        go_simp
        exact hK _ _ ⟨.bool false,rfl,rfl,Ext.refl _⟩
      case fin=>
       intro wi hx v0 h0 v1 h1 v2 h2 v3 h3 v4 h4 v5 h5 v6 h6 v7 h7 v8 h8 v9 h9
       obtain rfl:=h0
       obtain rfl:=h1
       obtain rfl:=h2
       obtain rfl:=h3
       obtain rfl:=h4
       obtain rfl:=h5
       obtain rfl:=h6
       obtain rfl:=h7
       obtain rfl:=h8
       obtain rfl:=h9
       refine wpAny_done (by kernel_rfl) ?_ _
       try simp only[Act.put,List.setIfInBounds_toArray,List.set_cons_zero,List.set_cons_succ]
       have hX:Ext w6 wi:=hx.of_drew
       go_wp2
       go_roundw
       case rel=>exact⟨k+1,by omega,by go_num,(M7.out.pick [1] (by decide) rfl).adv hX⟩
       case measure=>simp[intOf];omega
     ·skip
      have t1:decide ((n:Int)+1≤7)=false:=by simp;omega
      go_wp2
      refine region_lin (gl [gEq (.slice q7 (n+1) c7),gEq (.int .i64 ((n:Int)+1)),gEq (.bool false),gEq (.bool false),gEq (undef),gEq (undef),gEq (undef),gEq (undef),gEq (undef),gEq (.bool false)]) 10 (by kernel_rfl) rfl (by kernel_rfl) (by kernel_rfl) (by kernel_rfl) (gl_mono (gl_cons (gEq_mono _) (gl_cons (gEq_mono _) (gl_cons (gEq_mono _) (gl_cons (gEq_mono _) (gl_cons (gEq_mono _) (gl_cons (gEq_mono _) (gl_cons (gEq_mono _) (gl_cons (gEq_mono _) (gl_cons (gEq_mono _) (gl_cons (gEq_mono _) (gl_nil)))))))))))) (k:=10) (by kernel_rfl) (by decide) (ls:= [(0,some 44),(1,some 45),(2,some 46),(3,some 47),(4,some 48),(5,some 49),(6,some 50),(7,some 51),(8,some 52),(9,some 53)]) (by kernel_rfl) (ir:= [0,1,2,3,4,5,6,7,8,9]) (by kernel_rfl) ?steps (tl:=#[true,true,true,true,true,true,true,true,true,true]) (by kernel_rfl) ?fin
      case steps=>
       refine StepsL.cons (ps:= []) rfl (by kernel_rfl) (fun wi hx=> ?_) ?_
       ·intro K hK
        go_simp
        exact hK _ _ ⟨.slice q7 (n+1) c7,rfl,rfl,Ext.refl _⟩
       refine StepsL.cons (ps:= [(0,some 44)]) rfl (by kernel_rfl) (fun wi hx=> ?_) ?_
       ·intro v0 h0 K hK
        obtain rfl:=h0
        go_simp
        exact hK _ _ ⟨.int .i64 ((n:Int)+1),rfl,rfl,Ext.refl _⟩
       refine StepsL.cons (ps:= [(1,some 45)]) rfl (by kernel_rfl) (fun wi hx=> ?_) ?_
       ·intro v1 h1 K hK
        obtain rfl:=h1
        go_simp
        exact hK _ _ ⟨.bool false,rfl,rfl,Ext.refl _⟩
       refine StepsL.cons (ps:= [(2,some 46)]) rfl (by kernel_rfl) (fun wi hx=> ?_) ?_
       ·intro v2 h2 K hK
        obtain rfl:=h2
        go_simp
        exact hK _ _ ⟨.bool false,rfl,rfl,Ext.refl _⟩
       refine StepsL.cons (ps:= [(3,some 47)]) rfl (by kernel_rfl) (fun wi hx=> ?_) ?_
       ·intro v3 h3 K hK
        obtain rfl:=h3
        go_simp
        exact hK _ _ ⟨undef,rfl,rfl,Ext.refl _⟩
       refine StepsL.cons (ps:= [(3,some 47),(4,some 48)]) rfl (by kernel_rfl) (fun wi hx=> ?_) ?_
       ·intro v3 h3 v4 h4 K hK
        obtain rfl:=h3
        obtain rfl:=h4
        go_simp
        exact hK _ _ ⟨undef,rfl,rfl,Ext.refl _⟩
       refine StepsL.cons (ps:= [(3,some 47)]) rfl (by kernel_rfl) (fun wi hx=> ?_) ?_
       ·intro v3 h3 K hK
        obtain rfl:=h3
        go_simp
        exact hK _ _ ⟨undef,rfl,rfl,Ext.refl _⟩
       refine StepsL.cons (ps:= [(3,some 47),(6,some 50)]) rfl (by kernel_rfl) (fun wi hx=> ?_) ?_
       ·intro v3 h3 v6 h6 K hK
        obtain rfl:=h3
        obtain rfl:=h6
        go_simp
        exact hK _ _ ⟨undef,rfl,rfl,Ext.refl _⟩
       refine StepsL.cons (ps:= [(3,some 47),(5,some 49),(7,some 51)]) rfl (by kernel_rfl) (fun wi hx=> ?_) ?_
       ·intro v3 h3 v5 h5 v7 h7 K hK
        obtain rfl:=h3
        obtain rfl:=h5
        obtain rfl:=h7
        go_simp
        exact hK _ _ ⟨undef,rfl,rfl,Ext.refl _⟩
       refine StepsL.cons (ps:= [(3,some 47),(8,some 52)]) rfl (by kernel_rfl) (fun wi hx=> ?_) StepsL.nil
       ·intro v3 h3 v8 h8 K hK
        obtain rfl:=h3
        obtain rfl:=h8
        go_simp
        exact hK _ _ ⟨.bool false,rfl,rfl,Ext.refl _⟩
      case fin=>
       intro wi hx v0 h0 v1 h1 v2 h2 v3 h3 v4 h4 v5 h5 v6 h6 v7 h7 v8 h8 v9 h9
       obtain rfl:=h0
       obtain rfl:=h1
       obtain rfl:=h2
       obtain rfl:=h3
       obtain rfl:=h4
       obtain rfl:=h5
       obtain rfl:=h6
       obtain rfl:=h7
       obtain rfl:=h8
       obtain rfl:=h9
       refine wpAny_done (by kernel_rfl) ?_ _
       try simp only[Act.put,List.setIfInBounds_toArray,List.set_cons_zero,List.set_cons_succ]
       have hX:Ext w6 wi:=hx.of_drew
       go_wp2
       go_roundw
       case rel=>exact⟨k+1,by omega,by go_num,(M7.out.pick [1] (by decide) rfl).adv hX⟩
       case measure=>simp[intOf];omega
   ·skip
    have lt5_0:w1.heap.size<wr.heap.size:=(M5.out.lt (i:=0) rfl rfl).2
    obtain rfl:k=m:=by omega
    have HLi:=Lib.hid fun(w':World) (hx:Ext wr w')=>implDv P q n c none 0 0 T [] w' ((HS.out.ext M5.out.ext).ext hx) (Sl.own (World.ownsRow_nil w' 0 TBk 4))
    rw[HL.out]at HLi
    obtain⟨ca0,ca1,ca2⟩:=(M5.out.blk (i:=0) rfl).tri
    go_wp2_with fail
    clear ca0 ca1 ca2
    refine(HLi.out _ (by(repeat' (first|exact Ext.refl _|(with_reducible assumption)|(with_reducible refine Ext.alloc ?_ _)|(with_reducible refine Ext.setCell ?_ (by first|exact Nat.le_refl _|(dsimp only;omega)|(simp;done)|(simp;omega)) _)|(with_reducible refine Ext.drew ?_)|(with_reducible refine Ext.drewN ?_ _)|(refine Ext.trans ?_ (by with_reducible assumption)))))).mono ?_
    rintro e w6 ⟨rfl,hx6⟩
    have M6:=Lib.hid ((M5.out).adv hx6)
    clear M5
    clear lt5_0
    have lt6_0:w1.heap.size<w6.heap.size:=(M6.out.lt (i:=0) rfl rfl).2
    clear hx6
    have XZ:Ext w w6:=hX1.out.trans (M6.out).ext
    go_wp2
    go_ret
    exact⟨rfl,XZ⟩
theorem walk_FnDeskValid (W:World)(v:Value)(u:Unit)(hc:Code W v)(hE:Env W):Calls Tryd.prog 3 #[v] W fun e w'=>e= .returned (.bool true)∧Ext W w':=by
 have hD:=drawDeskValid v W hc
 obtain⟨p0,n,cap,bs,rfl,h,hb⟩:=hc
 by_cases hn:(n:Int)≤1048576
 ·exact fnDeskValid_o p0 n cap W hn (Lib.hid hE) hD
 ·exact fnDeskValid_big p0 n cap W (by omega)
end Go.Proofs.YtndcnflchkfaeaaDoor
