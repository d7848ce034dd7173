/-
  Texts of this proof, packed (@packed).
-/
import Derived.Test.YtndcnflchkfaeaaDoorK4
import Derived.Test.YtndcnflchkfaeaaDoorK5
namespace Go.Proofs.YtndcnflchkfaeaaDoor
open Go.RowKit
set_option linter.unusedVariables false
set_option linter.unusedSimpArgs false
theorem take_books: ∀(k:Nat) (vs:List Visit4),(vs.flatMap visitCells).take (k*4)=(vs.take k).flatMap visitCells
 |0,vs=>by simp
 |k+1,[]=>by simp
 |k+1,v::vs=>by
  rw[List.flatMap_cons,show(k+1)*4=(visitCells v).length+k*4 by simp[visitCells];omega,List.take_length_add_append,take_books k vs];rfl
theorem drop_books: ∀(k:Nat) (vs:List Visit4),(vs.flatMap visitCells).drop (k*4)=(vs.drop k).flatMap visitCells
 |0,vs=>by simp
 |k+1,[]=>by simp
 |k+1,v::vs=>by
  rw[List.flatMap_cons,show(k+1)*4=(visitCells v).length+k*4 by simp[visitCells];omega,List.drop_length_add_append,drop_books k vs];rfl
theorem bk_take {w:World}{p:Option Addr}{n cap k:Nat}{vs:List Visit4}(h:Sl w p n cap 4 (vs.flatMap visitCells))(hk:k≤n):Sl w p k cap 4 ((vs.take k).flatMap visitCells):=by
 have:=sl_cut h hk
 rwa[take_books]at this
set_option maxRecDepth 100000 in
set_option maxHeartbeats 8000000 in
theorem specBsv (q:Option Addr)(m c2:Nat)(bs:List Visit4)(w:World)(hS:Sl w q m c2 4 (bs.flatMap visitCells)):
  Calls Tryd.prog 28 #[.slice q m c2] w fun e w'=>e= .returned (.bool (booksOk bs))∧Ext w w':=by
 have hn:=hS.bd
 have HS:=Lib.hid hS
 have hl:Hid (bs.length=m):=by
  have:=hS.len;rw[flat_len visitCells 4 (fun _=>rfl)]at this;exact(by omega:bs.length=m)
 clear hS
 go_enter Tryd.func28,Tryd.ntmps28
 go_wp2
 go_loopw [3] (fun i wr=> ∃k:Nat,k≤m∧i= .int .i64 k∧booksGo bs k=true∧Ext w wr) (fun i _=>m-(intOf i).toNat)
 case atStart=>exact⟨0,Nat.zero_le _,rfl,rfl,Ext.refl _⟩
 case round=>
  obtain⟨k,hk,rfl,hg,hE⟩:=hrel
  have HG:=Lib.hid hg
  clear hg
  by_cases hlt:k<m
  ·obtain⟨b,off,a0,a1,a2,a3,rfl,hv,hb,g0,g1,g2,g3⟩:=visit_at (HS.out.ext hE) hlt
   have HV:=Lib.hid hv
   clear hv
   have i1:(0:Int)≤(k:Int):=by omega
   have i2:(k:Int)<(m:Int):=by omega
   cases hbk:bookOk (a0,a1,a2,a3)with
   |false=>
    have HB:Hid (∀w',Calls Tryd.prog 46 #[bookV a0 a1 a2 a3] w' fun e w''=>e= .returned (.bool false)∧Ext w' w''):=fun w'=>by rw[←hbk];exact specBv a0 a1 a2 a3 w'
    have hfin:Hid (booksOk bs=false):=booksGo_no HV.out (.inl hbk)
    clear hbk
    go_wp2_with fail
    refine(HB.out _).mono ?_
    rintro e w1 ⟨rfl,h1⟩
    go_wp2
    go_ret
    exact⟨by rw[hfin.out];rfl,by(repeat' (first|exact Ext.refl _|(with_reducible assumption)|(with_reducible refine Ext.alloc ?_ _)|(with_reducible refine Ext.setCell ?_ (by first|exact Nat.le_refl _|(dsimp only;omega)|(simp;done)|(simp;omega)) _)|(with_reducible refine Ext.drew ?_)|(with_reducible refine Ext.drewN ?_ _)|(refine Ext.trans ?_ (by with_reducible assumption))))⟩
   |true=>
    have HB:Hid (∀w',Calls Tryd.prog 46 #[bookV a0 a1 a2 a3] w' fun e w''=>e= .returned (.bool true)∧Ext w' w''):=fun w'=>by rw[←hbk];exact specBv a0 a1 a2 a3 w'
    have HF:Hid (∀w',Ext w w'→Calls Tryd.prog 47 #[.slice (some ⟨b,off,none⟩) m c2,.int .i64 a0] w' fun e w''=>e= .returned (.int .i64 (vix a0 bs))∧Ext w' w''):=fun w' hx=>l6Find_any a0 _ m c2 bs w' (HS.out.ext hx)
    have HBK:=Lib.hid hbk
    clear hbk
    go_wp2_with fail
    refine(HB.out _).mono ?_
    rintro e w1 ⟨rfl,h1⟩
    have g0':w1.cell? ⟨b,off+k*4,none⟩=some (.int .i64 a0):=(h1.cells.1 _ _ hb).trans g0
    clear g0 g1 g2 g3
    go_wp2_with fail
    refine(HF.out _ (by(repeat' (first|exact Ext.refl _|(with_reducible assumption)|(with_reducible refine Ext.alloc ?_ _)|(with_reducible refine Ext.setCell ?_ (by first|exact Nat.le_refl _|(dsimp only;omega)|(simp;done)|(simp;omega)) _)|(with_reducible refine Ext.drew ?_)|(with_reducible refine Ext.drewN ?_ _)|(refine Ext.trans ?_ (by with_reducible assumption)))))).mono ?_
    rintro e w2 ⟨rfl,h2⟩
    cases hnb:noBook a0 (bs.take k)with
    |false=>
     obtain⟨t1,t2⟩:=vix_early hnb
     have hfin:Hid (booksOk bs=false):=booksGo_no HV.out (.inr hnb)
     clear hnb
     generalize vix a0 bs=X at t1 t2⊢
     go_wp2
     go_ret
     exact⟨by rw[hfin.out];rfl,by(repeat' (first|exact Ext.refl _|(with_reducible assumption)|(with_reducible refine Ext.alloc ?_ _)|(with_reducible refine Ext.setCell ?_ (by first|exact Nat.le_refl _|(dsimp only;omega)|(simp;done)|(simp;omega)) _)|(with_reducible refine Ext.drew ?_)|(with_reducible refine Ext.drewN ?_ _)|(refine Ext.trans ?_ (by with_reducible assumption))))⟩
    |true=>
     have hX:vix a0 bs=(k:Int):=vix_self HV.out hnb
     have hnx:Hid (booksGo bs (k+1)=true):=booksGo_step HV.out HG.out HBK.out hnb
     clear hnb
     rw[hX]
     clear hX
     go_wp2
     go_roundw
     case rel=>exact⟨k+1,by omega,by go_num,hnx.out,by(repeat' (first|exact Ext.refl _|(with_reducible assumption)|(with_reducible refine Ext.alloc ?_ _)|(with_reducible refine Ext.setCell ?_ (by first|exact Nat.le_refl _|(dsimp only;omega)|(simp;done)|(simp;omega)) _)|(with_reducible refine Ext.drew ?_)|(with_reducible refine Ext.drewN ?_ _)|(refine Ext.trans ?_ (by with_reducible assumption))))⟩
     case measure=>simp[intOf];omega
  ·obtain rfl:k=m:=by omega
   by_cases h7:k≤7
   ·have hfin:Hid (booksOk bs=true):=by
     have:=HG.out
     show _=true
     unfold booksOk
     rw[hl.out,this];simp[h7]
    go_wp2
    go_ret
    exact⟨ret_bool (by rw[hfin.out];simp;omega),hE⟩
   ·have hfin:Hid (booksOk bs=false):=by
     show _=false
     unfold booksOk
     rw[hl.out];simp;intro h;omega
    go_wp2
    go_ret
    exact⟨ret_bool (by rw[hfin.out];simp;omega),hE⟩
set_option maxRecDepth 100000 in
set_option maxHeartbeats 8000000 in
theorem implBsv (q:Option Addr)(m c2:Nat)(bs:List Visit4)(w:World)(hS:Sl w q m c2 4 (bs.flatMap visitCells)):
  Calls Tryd.prog 40 #[.slice q m c2] w fun e w'=>e= .returned (.bool (booksOk bs))∧Ext w w':=by
 have hn:=hS.bd
 have HS:=Lib.hid hS
 have hl:Hid (bs.length=m):=by
  have:=hS.len;rw[flat_len visitCells 4 (fun _=>rfl)]at this;exact(by omega:bs.length=m)
 clear hS
 by_cases h7:m≤7
 ·go_enter Tryd.func40,Tryd.ntmps40
  go_wp2
  go_loopw [10] (fun i wr=> ∃k:Nat,k≤m∧i= .int .i64 k∧booksGo bs k=true∧Ext w wr) (fun i _=>m-(intOf i).toNat)
  case atStart=>exact⟨0,Nat.zero_le _,rfl,rfl,Ext.refl _⟩
  case round=>
   obtain⟨k,hk,rfl,hg,hE⟩:=hrel
   have HG:=Lib.hid hg
   clear hg
   by_cases hlt:k<m
   ·obtain⟨b,off,a0,a1,a2,a3,rfl,hv,hb,g0,g1,g2,g3⟩:=visit_at (HS.out.ext hE) hlt
    have HV:=Lib.hid hv
    clear hv
    have i1:(0:Int)≤(k:Int):=by omega
    have i2:(k:Int)<(m:Int):=by omega
    have i3:k≤c2:=by have:=HS.out.le;omega
    cases hbk:bookOk (a0,a1,a2,a3)with
    |false=>
     have HB:Hid (∀w',Calls Tryd.prog 41 #[bookV a0 a1 a2 a3] w' fun e w''=>e= .returned (.bool false)∧Ext w' w''):=fun w'=>by rw[←hbk];exact implBv a0 a1 a2 a3 w'
     have hfin:Hid (booksOk bs=false):=booksGo_no HV.out (.inl hbk)
     clear hbk
     go_wp2
     refine region_lin (gl [gEq (.agg #[.int .i64 a0,.int .i64 a1,.int .i64 a2,.int .i64 a3]),gEq (.bool false),gEq (.bool true),gEq (.bool true),gEq (undef),gEq (undef),gEq (undef),gEq (undef),gEq (undef),gEq (undef),gEq (undef),gEq (.bool true)]) 12 (by kernel_rfl) rfl (by kernel_rfl) (by kernel_rfl) (by kernel_rfl) (gl_mono (gl_cons (gEq_mono _) (gl_cons (gEq_mono _) (gl_cons (gEq_mono _) (gl_cons (gEq_mono _) (gl_cons (gEq_mono _) (gl_cons (gEq_mono _) (gl_cons (gEq_mono _) (gl_cons (gEq_mono _) (gl_cons (gEq_mono _) (gl_cons (gEq_mono _) (gl_cons (gEq_mono _) (gl_cons (gEq_mono _) (gl_nil)))))))))))))) (k:=12) (by kernel_rfl) (by decide) (ls:= [(0,some 15),(1,some 16),(2,some 17),(3,some 18),(4,some 19),(5,some 20),(6,some 21),(7,some 22),(8,some 23),(9,some 24),(10,some 25),(11,some 26)]) (by kernel_rfl) (ir:= [0,1,2,3,4,5,6,7,8,9,10,11]) (by kernel_rfl) ?steps (tl:=#[true,true,true,true,true,true,true,true,true,true,true,true]) (by kernel_rfl) ?fin
     case steps=>
      refine StepsL.cons (ps:= []) rfl (by kernel_rfl) (fun wi hx=> ?_) ?_
      ·intro K hK
       have hX:Ext (wr.alloc (.cells #[.int .i64 a0,.int .i64 a1,.int .i64 a2,.int .i64 a3] TBk)) wi:=by(repeat' (first|exact Ext.refl _|(with_reducible assumption)|(with_reducible refine Ext.alloc ?_ _)|(with_reducible refine Ext.setCell ?_ (by first|exact Nat.le_refl _|(dsimp only;omega)|(simp;done)|(simp;omega)) _)|(with_reducible refine Ext.drew ?_)|(with_reducible refine Ext.drewN ?_ _)|(refine Ext.trans ?_ (by with_reducible assumption))))
       have cl0:wi.cell? ⟨wr.heap.size,0,none⟩=some (.int .i64 a0):=((Blk.new wr TBk #[.int .i64 a0,.int .i64 a1,.int .i64 a2,.int .i64 a3]).ext hX).cell 0
       have cl1:wi.cell? ⟨wr.heap.size,1,none⟩=some (.int .i64 a1):=((Blk.new wr TBk #[.int .i64 a0,.int .i64 a1,.int .i64 a2,.int .i64 a3]).ext hX).cell 1
       have cl2:wi.cell? ⟨wr.heap.size,2,none⟩=some (.int .i64 a2):=((Blk.new wr TBk #[.int .i64 a0,.int .i64 a1,.int .i64 a2,.int .i64 a3]).ext hX).cell 2
       have cl3:wi.cell? ⟨wr.heap.size,3,none⟩=some (.int .i64 a3):=((Blk.new wr TBk #[.int .i64 a0,.int .i64 a1,.int .i64 a2,.int .i64 a3]).ext hX).cell 3
       go_simp
       exact hK _ _ ⟨.agg #[.int .i64 a0,.int .i64 a1,.int .i64 a2,.int .i64 a3],rfl,rfl,Ext.refl _⟩
      refine StepsL.cons (ps:= [(0,some 15)]) rfl (by kernel_rfl) (fun wi hx=> ?_) ?_
      ·intro v0 h0 K hK
       obtain rfl:=h0
       go_wp2_with fail
       refine(HB.out _).mono ?_
       rintro e w5 ⟨rfl,hx5⟩
       go_simp
       exact hK _ _ ⟨.bool false,rfl,rfl,hx5⟩
      refine StepsL.cons (ps:= [(1,some 16)]) rfl (by kernel_rfl) (fun wi hx=> ?_) ?_
      ·intro v1 h1 K hK
       obtain rfl:=h1
       go_simp
       exact hK _ _ ⟨.bool true,rfl,rfl,Ext.refl _⟩
      refine StepsL.cons (ps:= [(2,some 17)]) rfl (by kernel_rfl) (fun wi hx=> ?_) ?_
      ·intro v2 h2 K hK
       obtain rfl:=h2
       go_simp
       exact hK _ _ ⟨.bool true,rfl,rfl,Ext.refl _⟩
      refine StepsL.cons (ps:= [(3,some 18)]) rfl (by kernel_rfl) (fun wi hx=> ?_) ?_
      ·intro v3 h3 K hK
       obtain rfl:=h3
       go_simp
       exact hK _ _ ⟨undef,rfl,rfl,Ext.refl _⟩
      refine StepsL.cons (ps:= [(3,some 18)]) rfl (by kernel_rfl) (fun wi hx=> ?_) ?_
      ·intro v3 h3 K hK
       obtain rfl:=h3
       go_simp
       exact hK _ _ ⟨undef,rfl,rfl,Ext.refl _⟩
      refine StepsL.cons (ps:= [(3,some 18),(4,some 19),(5,some 20)]) rfl (by kernel_rfl) (fun wi hx=> ?_) ?_
      ·intro v3 h3 v4 h4 v5 h5 K hK
       obtain rfl:=h3
       obtain rfl:=h4
       obtain rfl:=h5
       go_simp
       exact hK _ _ ⟨undef,rfl,rfl,Ext.refl _⟩
      refine StepsL.cons (ps:= [(3,some 18)]) rfl (by kernel_rfl) (fun wi hx=> ?_) ?_
      ·intro v3 h3 K hK
       obtain rfl:=h3
       go_simp
       exact hK _ _ ⟨undef,rfl,rfl,Ext.refl _⟩
      refine StepsL.cons (ps:= [(3,some 18),(7,some 22)]) rfl (by kernel_rfl) (fun wi hx=> ?_) ?_
      ·intro v3 h3 v7 h7 K hK
       obtain rfl:=h3
       obtain rfl:=h7
       go_simp
       exact hK _ _ ⟨undef,rfl,rfl,Ext.refl _⟩
      refine StepsL.cons (ps:= [(3,some 18),(6,some 21),(8,some 23)]) rfl (by kernel_rfl) (fun wi hx=> ?_) ?_
      ·intro v3 h3 v6 h6 v8 h8 K hK
       obtain rfl:=h3
       obtain rfl:=h6
       obtain rfl:=h8
       go_simp
       exact hK _ _ ⟨undef,rfl,rfl,Ext.refl _⟩
      refine StepsL.cons (ps:= [(3,some 18),(9,some 24)]) rfl (by kernel_rfl) (fun wi hx=> ?_) ?_
      ·intro v3 h3 v9 h9 K hK
       obtain rfl:=h3
       obtain rfl:=h9
       go_simp
       exact hK _ _ ⟨undef,rfl,rfl,Ext.refl _⟩
      refine StepsL.cons (ps:= [(3,some 18),(10,some 25)]) rfl (by kernel_rfl) (fun wi hx=> ?_) StepsL.nil
      ·intro v3 h3 v10 h10 K hK
       obtain rfl:=h3
       obtain rfl:=h10
       go_simp
       exact hK _ _ ⟨.bool true,rfl,rfl,Ext.refl _⟩
     case fin=>
      intro wi hx v0 h0 v1 h1 v2 h2 v3 h3 v4 h4 v5 h5 v6 h6 v7 h7 v8 h8 v9 h9 v10 h10 v11 h11
      obtain rfl:=h0
      obtain rfl:=h1
      obtain rfl:=h2
      obtain rfl:=h3
      obtain rfl:=h4
      obtain rfl:=h5
      obtain rfl:=h6
      obtain rfl:=h7
      obtain rfl:=h8
      obtain rfl:=h9
      obtain rfl:=h10
      obtain rfl:=h11
      refine wpAny_done (by kernel_rfl) ?_ _
      try simp only[Act.put,List.setIfInBounds_toArray,List.set_cons_zero,List.set_cons_succ]
      have hx':=hx.of_drew
      go_wp2
      go_ret
      exact⟨by rw[hfin.out];rfl,hE.trans (Ext.trans (by(repeat' (first|exact Ext.refl _|(with_reducible assumption)|(with_reducible refine Ext.alloc ?_ _)|(with_reducible refine Ext.setCell ?_ (by first|exact Nat.le_refl _|(dsimp only;omega)|(simp;done)|(simp;omega)) _)|(with_reducible refine Ext.drew ?_)|(with_reducible refine Ext.drewN ?_ _)|(refine Ext.trans ?_ (by with_reducible assumption))))) hx')⟩
    |true=>
     have HB:Hid (∀w',Calls Tryd.prog 41 #[bookV a0 a1 a2 a3] w' fun e w''=>e= .returned (.bool true)∧Ext w' w''):=fun w'=>by rw[←hbk];exact implBv a0 a1 a2 a3 w'
     have hsk:Sl w (some ⟨b,off,none⟩) k c2 4 ((bs.take k).flatMap visitCells):=bk_take HS.out hk
     have HBK:=Lib.hid hbk
     clear hbk
     cases hnb:noBook a0 (bs.take k)with
     |false=>
      obtain⟨X,hX,t1⟩: ∃X,vix a0 (bs.take k)=X∧0≤X:=⟨_,rfl,(vix_early (k:=k) (by rw[List.take_take,Nat.min_self];exact hnb)).2⟩
      have HF:Hid (∀w',Ext w w'→Calls Tryd.prog 42 #[.slice (some ⟨b,off,none⟩) k c2,.int .i64 a0] w' fun e w''=>e= .returned (.int .i64 X)∧Ext w' w''):=fun w' hx=>by rw[←hX];exact bookIndex_any a0 _ k c2 _ w' (hsk.ext hx)
      have hfin:Hid (booksOk bs=false):=booksGo_no HV.out (.inr hnb)
      clear hnb hX hsk
      go_wp2
      refine region_lin (gl [gEq (.agg #[.int .i64 a0,.int .i64 a1,.int .i64 a2,.int .i64 a3]),gEq (.bool true),gEq (.bool false),gEq (.bool false),gEq (.slice (some ⟨b,off,none⟩) m c2),gEq (.int .i64 (k:Int)),gEq (.slice (some ⟨b,off,none⟩) k c2),gEq (.pointer (some ⟨wr.heap.size,0,none⟩)),gEq (.int .i64 a0),gEq (.int .i64 X),gEq (.bool true),gEq (.bool true)]) 12 (by kernel_rfl) rfl (by kernel_rfl) (by kernel_rfl) (by kernel_rfl) (gl_mono (gl_cons (gEq_mono _) (gl_cons (gEq_mono _) (gl_cons (gEq_mono _) (gl_cons (gEq_mono _) (gl_cons (gEq_mono _) (gl_cons (gEq_mono _) (gl_cons (gEq_mono _) (gl_cons (gEq_mono _) (gl_cons (gEq_mono _) (gl_cons (gEq_mono _) (gl_cons (gEq_mono _) (gl_cons (gEq_mono _) (gl_nil)))))))))))))) (k:=12) (by kernel_rfl) (by decide) (ls:= [(0,some 15),(1,some 16),(2,some 17),(3,some 18),(4,some 19),(5,some 20),(6,some 21),(7,some 22),(8,some 23),(9,some 24),(10,some 25),(11,some 26)]) (by kernel_rfl) (ir:= [0,1,2,3,4,5,6,7,8,9,10,11]) (by kernel_rfl) ?steps (tl:=#[true,true,true,true,true,true,true,true,true,true,true,true]) (by kernel_rfl) ?fin
      case steps=>
       refine StepsL.cons (ps:= []) rfl (by kernel_rfl) (fun wi hx=> ?_) ?_
       ·intro K hK
        have hX:Ext (wr.alloc (.cells #[.int .i64 a0,.int .i64 a1,.int .i64 a2,.int .i64 a3] TBk)) wi:=by(repeat' (first|exact Ext.refl _|(with_reducible assumption)|(with_reducible refine Ext.alloc ?_ _)|(with_reducible refine Ext.setCell ?_ (by first|exact Nat.le_refl _|(dsimp only;omega)|(simp;done)|(simp;omega)) _)|(with_reducible refine Ext.drew ?_)|(with_reducible refine Ext.drewN ?_ _)|(refine Ext.trans ?_ (by with_reducible assumption))))
        have cl0:wi.cell? ⟨wr.heap.size,0,none⟩=some (.int .i64 a0):=((Blk.new wr TBk #[.int .i64 a0,.int .i64 a1,.int .i64 a2,.int .i64 a3]).ext hX).cell 0
        have cl1:wi.cell? ⟨wr.heap.size,1,none⟩=some (.int .i64 a1):=((Blk.new wr TBk #[.int .i64 a0,.int .i64 a1,.int .i64 a2,.int .i64 a3]).ext hX).cell 1
        have cl2:wi.cell? ⟨wr.heap.size,2,none⟩=some (.int .i64 a2):=((Blk.new wr TBk #[.int .i64 a0,.int .i64 a1,.int .i64 a2,.int .i64 a3]).ext hX).cell 2
        have cl3:wi.cell? ⟨wr.heap.size,3,none⟩=some (.int .i64 a3):=((Blk.new wr TBk #[.int .i64 a0,.int .i64 a1,.int .i64 a2,.int .i64 a3]).ext hX).cell 3
        go_simp
        exact hK _ _ ⟨.agg #[.int .i64 a0,.int .i64 a1,.int .i64 a2,.int .i64 a3],rfl,rfl,Ext.refl _⟩
       refine StepsL.cons (ps:= [(0,some 15)]) rfl (by kernel_rfl) (fun wi hx=> ?_) ?_
       ·intro v0 h0 K hK
        obtain rfl:=h0
        go_wp2_with fail
        refine(HB.out _).mono ?_
        rintro e w5 ⟨rfl,hx5⟩
        go_simp
        exact hK _ _ ⟨.bool true,rfl,rfl,hx5⟩
       refine StepsL.cons (ps:= [(1,some 16)]) rfl (by kernel_rfl) (fun wi hx=> ?_) ?_
       ·intro v1 h1 K hK
        obtain rfl:=h1
        go_simp
        exact hK _ _ ⟨.bool false,rfl,rfl,Ext.refl _⟩
       refine StepsL.cons (ps:= [(2,some 17)]) rfl (by kernel_rfl) (fun wi hx=> ?_) ?_
       ·intro v2 h2 K hK
        obtain rfl:=h2
        go_simp
        exact hK _ _ ⟨.bool false,rfl,rfl,Ext.refl _⟩
       refine StepsL.cons (ps:= [(3,some 18)]) rfl (by kernel_rfl) (fun wi hx=> ?_) ?_
       ·intro v3 h3 K hK
        obtain rfl:=h3
        go_simp
        exact hK _ _ ⟨.slice (some ⟨b,off,none⟩) m c2,rfl,rfl,Ext.refl _⟩
       refine StepsL.cons (ps:= [(3,some 18)]) rfl (by kernel_rfl) (fun wi hx=> ?_) ?_
       ·intro v3 h3 K hK
        obtain rfl:=h3
        go_simp
        exact hK _ _ ⟨.int .i64 (k:Int),rfl,rfl,Ext.refl _⟩
       refine StepsL.cons (ps:= [(3,some 18),(4,some 19),(5,some 20)]) rfl (by kernel_rfl) (fun wi hx=> ?_) ?_
       ·intro v3 h3 v4 h4 v5 h5 K hK
        obtain rfl:=h3
        obtain rfl:=h4
        obtain rfl:=h5
        go_simp
        exact hK _ _ ⟨.slice (some ⟨b,off,none⟩) k c2,rfl,rfl,Ext.refl _⟩
       refine StepsL.cons (ps:= [(3,some 18)]) rfl (by kernel_rfl) (fun wi hx=> ?_) ?_
       ·intro v3 h3 K hK
        obtain rfl:=h3
        go_simp
        exact hK _ _ ⟨.pointer (some ⟨wr.heap.size,0,none⟩),rfl,rfl,Ext.refl _⟩
       refine StepsL.cons (ps:= [(3,some 18),(7,some 22)]) rfl (by kernel_rfl) (fun wi hx=> ?_) ?_
       ·intro v3 h3 v7 h7 K hK
        obtain rfl:=h3
        obtain rfl:=h7
        have hX:Ext (wr.alloc (.cells #[.int .i64 a0,.int .i64 a1,.int .i64 a2,.int .i64 a3] TBk)) wi:=by(repeat' (first|exact Ext.refl _|(with_reducible assumption)|(with_reducible refine Ext.alloc ?_ _)|(with_reducible refine Ext.setCell ?_ (by first|exact Nat.le_refl _|(dsimp only;omega)|(simp;done)|(simp;omega)) _)|(with_reducible refine Ext.drew ?_)|(with_reducible refine Ext.drewN ?_ _)|(refine Ext.trans ?_ (by with_reducible assumption))))
        have cl0:wi.cell? ⟨wr.heap.size,0,none⟩=some (.int .i64 a0):=((Blk.new wr TBk #[.int .i64 a0,.int .i64 a1,.int .i64 a2,.int .i64 a3]).ext hX).cell 0
        go_simp
        exact hK _ _ ⟨.int .i64 a0,rfl,rfl,Ext.refl _⟩
       refine StepsL.cons (ps:= [(3,some 18),(6,some 21),(8,some 23)]) rfl (by kernel_rfl) (fun wi hx=> ?_) ?_
       ·intro v3 h3 v6 h6 v8 h8 K hK
        obtain rfl:=h3
        obtain rfl:=h6
        obtain rfl:=h8
        go_wp2_with fail
        refine(HF.out _ (hE.trans (Ext.trans (by(repeat' (first|exact Ext.refl _|(with_reducible assumption)|(with_reducible refine Ext.alloc ?_ _)|(with_reducible refine Ext.setCell ?_ (by first|exact Nat.le_refl _|(dsimp only;omega)|(simp;done)|(simp;omega)) _)|(with_reducible refine Ext.drew ?_)|(with_reducible refine Ext.drewN ?_ _)|(refine Ext.trans ?_ (by with_reducible assumption))))) hx.of_drew))).mono ?_
        rintro e w5 ⟨rfl,hx5⟩
        go_simp
        exact hK _ _ ⟨.int .i64 X,rfl,rfl,hx5⟩
       refine StepsL.cons (ps:= [(3,some 18),(9,some 24)]) rfl (by kernel_rfl) (fun wi hx=> ?_) ?_
       ·intro v3 h3 v9 h9 K hK
        obtain rfl:=h3
        obtain rfl:=h9
        go_simp
        exact hK _ _ ⟨.bool true,rfl,rfl,Ext.refl _⟩
       refine StepsL.cons (ps:= [(3,some 18),(10,some 25)]) rfl (by kernel_rfl) (fun wi hx=> ?_) StepsL.nil
       ·intro v3 h3 v10 h10 K hK
        obtain rfl:=h3
        obtain rfl:=h10
        go_simp
        exact hK _ _ ⟨.bool true,rfl,rfl,Ext.refl _⟩
      case fin=>
       intro wi hx v0 h0 v1 h1 v2 h2 v3 h3 v4 h4 v5 h5 v6 h6 v7 h7 v8 h8 v9 h9 v10 h10 v11 h11
       obtain rfl:=h0
       obtain rfl:=h1
       obtain rfl:=h2
       obtain rfl:=h3
       obtain rfl:=h4
       obtain rfl:=h5
       obtain rfl:=h6
       obtain rfl:=h7
       obtain rfl:=h8
       obtain rfl:=h9
       obtain rfl:=h10
       obtain rfl:=h11
       refine wpAny_done (by kernel_rfl) ?_ _
       try simp only[Act.put,List.setIfInBounds_toArray,List.set_cons_zero,List.set_cons_succ]
       have hx':=hx.of_drew
       go_wp2
       go_ret
       exact⟨by rw[hfin.out];rfl,hE.trans (Ext.trans (by(repeat' (first|exact Ext.refl _|(with_reducible assumption)|(with_reducible refine Ext.alloc ?_ _)|(with_reducible refine Ext.setCell ?_ (by first|exact Nat.le_refl _|(dsimp only;omega)|(simp;done)|(simp;omega)) _)|(with_reducible refine Ext.drew ?_)|(with_reducible refine Ext.drewN ?_ _)|(refine Ext.trans ?_ (by with_reducible assumption))))) hx')⟩
     |true=>
      have hX:vix a0 (bs.take k)= -1:=vix_neg hnb
      have HF:Hid (∀w',Ext w w'→Calls Tryd.prog 42 #[.slice (some ⟨b,off,none⟩) k c2,.int .i64 a0] w' fun e w''=>e= .returned (.int .i64 (-1))∧Ext w' w''):=fun w' hx=>by rw[←hX];exact bookIndex_any a0 _ k c2 _ w' (hsk.ext hx)
      have hnx:Hid (booksGo bs (k+1)=true):=booksGo_step HV.out HG.out HBK.out hnb
      clear hnb hX hsk
      go_wp2
      refine region_lin (gl [gEq (.agg #[.int .i64 a0,.int .i64 a1,.int .i64 a2,.int .i64 a3]),gEq (.bool true),gEq (.bool false),gEq (.bool false),gEq (.slice (some ⟨b,off,none⟩) m c2),gEq (.int .i64 (k:Int)),gEq (.slice (some ⟨b,off,none⟩) k c2),gEq (.pointer (some ⟨wr.heap.size,0,none⟩)),gEq (.int .i64 a0),gEq (.int .i64 (-1)),gEq (.bool false),gEq (.bool false)]) 12 (by kernel_rfl) rfl (by kernel_rfl) (by kernel_rfl) (by kernel_rfl) (gl_mono (gl_cons (gEq_mono _) (gl_cons (gEq_mono _) (gl_cons (gEq_mono _) (gl_cons (gEq_mono _) (gl_cons (gEq_mono _) (gl_cons (gEq_mono _) (gl_cons (gEq_mono _) (gl_cons (gEq_mono _) (gl_cons (gEq_mono _) (gl_cons (gEq_mono _) (gl_cons (gEq_mono _) (gl_cons (gEq_mono _) (gl_nil)))))))))))))) (k:=12) (by kernel_rfl) (by decide) (ls:= [(0,some 15),(1,some 16),(2,some 17),(3,some 18),(4,some 19),(5,some 20),(6,some 21),(7,some 22),(8,some 23),(9,some 24),(10,some 25),(11,some 26)]) (by kernel_rfl) (ir:= [0,1,2,3,4,5,6,7,8,9,10,11]) (by kernel_rfl) ?steps (tl:=#[true,true,true,true,true,true,true,true,true,true,true,true]) (by kernel_rfl) ?fin
      case steps=>
       refine StepsL.cons (ps:= []) rfl (by kernel_rfl) (fun wi hx=> ?_) ?_
       ·intro K hK
        have hX:Ext (wr.alloc (.cells #[.int .i64 a0,.int .i64 a1,.int .i64 a2,.int .i64 a3] TBk)) wi:=by(repeat' (first|exact Ext.refl _|(with_reducible assumption)|(with_reducible refine Ext.alloc ?_ _)|(with_reducible refine Ext.setCell ?_ (by first|exact Nat.le_refl _|(dsimp only;omega)|(simp;done)|(simp;omega)) _)|(with_reducible refine Ext.drew ?_)|(with_reducible refine Ext.drewN ?_ _)|(refine Ext.trans ?_ (by with_reducible assumption))))
        have cl0:wi.cell? ⟨wr.heap.size,0,none⟩=some (.int .i64 a0):=((Blk.new wr TBk #[.int .i64 a0,.int .i64 a1,.int .i64 a2,.int .i64 a3]).ext hX).cell 0
        have cl1:wi.cell? ⟨wr.heap.size,1,none⟩=some (.int .i64 a1):=((Blk.new wr TBk #[.int .i64 a0,.int .i64 a1,.int .i64 a2,.int .i64 a3]).ext hX).cell 1
        have cl2:wi.cell? ⟨wr.heap.size,2,none⟩=some (.int .i64 a2):=((Blk.new wr TBk #[.int .i64 a0,.int .i64 a1,.int .i64 a2,.int .i64 a3]).ext hX).cell 2
        have cl3:wi.cell? ⟨wr.heap.size,3,none⟩=some (.int .i64 a3):=((Blk.new wr TBk #[.int .i64 a0,.int .i64 a1,.int .i64 a2,.int .i64 a3]).ext hX).cell 3
        go_simp
        exact hK _ _ ⟨.agg #[.int .i64 a0,.int .i64 a1,.int .i64 a2,.int .i64 a3],rfl,rfl,Ext.refl _⟩
       refine StepsL.cons (ps:= [(0,some 15)]) rfl (by kernel_rfl) (fun wi hx=> ?_) ?_
       ·intro v0 h0 K hK
        obtain rfl:=h0
        go_wp2_with fail
        refine(HB.out _).mono ?_
        rintro e w5 ⟨rfl,hx5⟩
        go_simp
        exact hK _ _ ⟨.bool true,rfl,rfl,hx5⟩
       refine StepsL.cons (ps:= [(1,some 16)]) rfl (by kernel_rfl) (fun wi hx=> ?_) ?_
       ·intro v1 h1 K hK
        obtain rfl:=h1
        go_simp
        exact hK _ _ ⟨.bool false,rfl,rfl,Ext.refl _⟩
       refine StepsL.cons (ps:= [(2,some 17)]) rfl (by kernel_rfl) (fun wi hx=> ?_) ?_
       ·intro v2 h2 K hK
        obtain rfl:=h2
        go_simp
        exact hK _ _ ⟨.bool false,rfl,rfl,Ext.refl _⟩
       refine StepsL.cons (ps:= [(3,some 18)]) rfl (by kernel_rfl) (fun wi hx=> ?_) ?_
       ·intro v3 h3 K hK
        obtain rfl:=h3
        go_simp
        exact hK _ _ ⟨.slice (some ⟨b,off,none⟩) m c2,rfl,rfl,Ext.refl _⟩
       refine StepsL.cons (ps:= [(3,some 18)]) rfl (by kernel_rfl) (fun wi hx=> ?_) ?_
       ·intro v3 h3 K hK
        obtain rfl:=h3
        go_simp
        exact hK _ _ ⟨.int .i64 (k:Int),rfl,rfl,Ext.refl _⟩
       refine StepsL.cons (ps:= [(3,some 18),(4,some 19),(5,some 20)]) rfl (by kernel_rfl) (fun wi hx=> ?_) ?_
       ·intro v3 h3 v4 h4 v5 h5 K hK
        obtain rfl:=h3
        obtain rfl:=h4
        obtain rfl:=h5
        go_simp
        exact hK _ _ ⟨.slice (some ⟨b,off,none⟩) k c2,rfl,rfl,Ext.refl _⟩
       refine StepsL.cons (ps:= [(3,some 18)]) rfl (by kernel_rfl) (fun wi hx=> ?_) ?_
       ·intro v3 h3 K hK
        obtain rfl:=h3
        go_simp
        exact hK _ _ ⟨.pointer (some ⟨wr.heap.size,0,none⟩),rfl,rfl,Ext.refl _⟩
       refine StepsL.cons (ps:= [(3,some 18),(7,some 22)]) rfl (by kernel_rfl) (fun wi hx=> ?_) ?_
       ·intro v3 h3 v7 h7 K hK
        obtain rfl:=h3
        obtain rfl:=h7
        have hX:Ext (wr.alloc (.cells #[.int .i64 a0,.int .i64 a1,.int .i64 a2,.int .i64 a3] TBk)) wi:=by(repeat' (first|exact Ext.refl _|(with_reducible assumption)|(with_reducible refine Ext.alloc ?_ _)|(with_reducible refine Ext.setCell ?_ (by first|exact Nat.le_refl _|(dsimp only;omega)|(simp;done)|(simp;omega)) _)|(with_reducible refine Ext.drew ?_)|(with_reducible refine Ext.drewN ?_ _)|(refine Ext.trans ?_ (by with_reducible assumption))))
        have cl0:wi.cell? ⟨wr.heap.size,0,none⟩=some (.int .i64 a0):=((Blk.new wr TBk #[.int .i64 a0,.int .i64 a1,.int .i64 a2,.int .i64 a3]).ext hX).cell 0
        go_simp
        exact hK _ _ ⟨.int .i64 a0,rfl,rfl,Ext.refl _⟩
       refine StepsL.cons (ps:= [(3,some 18),(6,some 21),(8,some 23)]) rfl (by kernel_rfl) (fun wi hx=> ?_) ?_
       ·intro v3 h3 v6 h6 v8 h8 K hK
        obtain rfl:=h3
        obtain rfl:=h6
        obtain rfl:=h8
        go_wp2_with fail
        refine(HF.out _ (hE.trans (Ext.trans (by(repeat' (first|exact Ext.refl _|(with_reducible assumption)|(with_reducible refine Ext.alloc ?_ _)|(with_reducible refine Ext.setCell ?_ (by first|exact Nat.le_refl _|(dsimp only;omega)|(simp;done)|(simp;omega)) _)|(with_reducible refine Ext.drew ?_)|(with_reducible refine Ext.drewN ?_ _)|(refine Ext.trans ?_ (by with_reducible assumption))))) hx.of_drew))).mono ?_
        rintro e w5 ⟨rfl,hx5⟩
        go_simp
        exact hK _ _ ⟨.int .i64 (-1),rfl,rfl,hx5⟩
       refine StepsL.cons (ps:= [(3,some 18),(9,some 24)]) rfl (by kernel_rfl) (fun wi hx=> ?_) ?_
       ·intro v3 h3 v9 h9 K hK
        obtain rfl:=h3
        obtain rfl:=h9
        go_simp
        exact hK _ _ ⟨.bool false,rfl,rfl,Ext.refl _⟩
       refine StepsL.cons (ps:= [(3,some 18),(10,some 25)]) rfl (by kernel_rfl) (fun wi hx=> ?_) StepsL.nil
       ·intro v3 h3 v10 h10 K hK
        obtain rfl:=h3
        obtain rfl:=h10
        go_simp
        exact hK _ _ ⟨.bool false,rfl,rfl,Ext.refl _⟩
      case fin=>
       intro wi hx v0 h0 v1 h1 v2 h2 v3 h3 v4 h4 v5 h5 v6 h6 v7 h7 v8 h8 v9 h9 v10 h10 v11 h11
       obtain rfl:=h0
       obtain rfl:=h1
       obtain rfl:=h2
       obtain rfl:=h3
       obtain rfl:=h4
       obtain rfl:=h5
       obtain rfl:=h6
       obtain rfl:=h7
       obtain rfl:=h8
       obtain rfl:=h9
       obtain rfl:=h10
       obtain rfl:=h11
       refine wpAny_done (by kernel_rfl) ?_ _
       try simp only[Act.put,List.setIfInBounds_toArray,List.set_cons_zero,List.set_cons_succ]
       have hx':=hx.of_drew
       go_wp2
       go_roundw
       case rel=>exact⟨k+1,by omega,by go_num,hnx.out,hE.trans (Ext.trans (by(repeat' (first|exact Ext.refl _|(with_reducible assumption)|(with_reducible refine Ext.alloc ?_ _)|(with_reducible refine Ext.setCell ?_ (by first|exact Nat.le_refl _|(dsimp only;omega)|(simp;done)|(simp;omega)) _)|(with_reducible refine Ext.drew ?_)|(with_reducible refine Ext.drewN ?_ _)|(refine Ext.trans ?_ (by with_reducible assumption))))) hx')⟩
       case measure=>simp[intOf];omega
   ·obtain rfl:k=m:=by omega
    have hfin:Hid (booksOk bs=true):=by
     have:=HG.out
     show _=true
     unfold booksOk
     rw[hl.out,this];simp[h7]
    go_wp2
    go_ret
    exact⟨by rw[hfin.out];rfl,hE⟩
 ·have hfin:Hid (booksOk bs=false):=by
   show _=false
   unfold booksOk
   rw[hl.out];simp;intro h;omega
  go_enter Tryd.func40,Tryd.ntmps40
  go_wp2
  go_ret
  exact⟨by rw[hfin.out];rfl,Ext.refl _⟩
set_option maxRecDepth 100000 in
set_option maxHeartbeats 8000000 in
theorem specBat (q:Option Addr)(m c2:Nat)(bs:List Visit4)(h:Int)(w:World)(hS:Sl w q m c2 4 (bs.flatMap visitCells)):
  Calls Tryd.prog 71 #[.slice q m c2,.int .i64 h] w fun e w'=>e= .returned (.int .i64 (booksAt bs h))∧Ext w w':=by
 have hn:=hS.bd
 have HS:=Lib.hid hS
 have hl:Hid (bs.length=m):=by
  have:=hS.len;rw[flat_len visitCells 4 (fun _=>rfl)]at this;exact(by omega:bs.length=m)
 clear hS
 go_enter Tryd.func71,Tryd.ntmps71
 go_wp2
 go_loopw [5,6] (fun n i wr=> ∃(k x:Nat),k≤m∧x≤k∧i= .int .i64 k∧n= .int .i64 x∧x=booksAt (bs.take k) h∧Ext w wr) (fun _ i _=>m-(intOf i).toNat)
 case atStart=>exact⟨0,0,Nat.zero_le _,Nat.le_refl _,rfl,rfl,by simp[booksAt],Ext.refl _⟩
 case round=>
  obtain⟨k,x,hk,hxk,rfl,rfl,hx,hE⟩:=hrel
  have HXX:=Lib.hid hx
  clear hx
  by_cases hlt:k<m
  ·obtain⟨b,off,a0,a1,a2,a3,rfl,hv,hb,g0,g1,g2,g3⟩:=visit_at (HS.out.ext hE) hlt
   have hnx:=Lib.hid (booksAt_snoc hv h)
   clear hv
   have i1:(0:Int)≤(k:Int):=by omega
   have i2:(k:Int)<(m:Int):=by omega
   by_cases t1:a1≤h
   ·by_cases t2:h<a2
    ·have hin:Hid (x+1=booksAt (bs.take (k+1)) h):=by show _=_;rw[hnx.out,←HXX.out];simp[inHour,t1,t2]
     go_wp2
     go_roundw
     case rel=>exact⟨k+1,x+1,by omega,by omega,by go_num,by go_num,hin.out,by(repeat' (first|exact Ext.refl _|(with_reducible assumption)|(with_reducible refine Ext.alloc ?_ _)|(with_reducible refine Ext.setCell ?_ (by first|exact Nat.le_refl _|(dsimp only;omega)|(simp;done)|(simp;omega)) _)|(with_reducible refine Ext.drew ?_)|(with_reducible refine Ext.drewN ?_ _)|(refine Ext.trans ?_ (by with_reducible assumption))))⟩
     case measure=>simp[intOf];omega
    ·have hin:Hid (x=booksAt (bs.take (k+1)) h):=by show _=_;rw[hnx.out,←HXX.out];simp[inHour,t1,t2]
     go_wp2
     go_roundw
     case rel=>exact⟨k+1,x,by omega,by omega,by go_num,rfl,hin.out,by(repeat' (first|exact Ext.refl _|(with_reducible assumption)|(with_reducible refine Ext.alloc ?_ _)|(with_reducible refine Ext.setCell ?_ (by first|exact Nat.le_refl _|(dsimp only;omega)|(simp;done)|(simp;omega)) _)|(with_reducible refine Ext.drew ?_)|(with_reducible refine Ext.drewN ?_ _)|(refine Ext.trans ?_ (by with_reducible assumption))))⟩
     case measure=>simp[intOf];omega
   ·have hin:Hid (x=booksAt (bs.take (k+1)) h):=by show _=_;rw[hnx.out,←HXX.out];simp[inHour,t1]
    go_wp2
    go_roundw
    case rel=>exact⟨k+1,x,by omega,by omega,by go_num,rfl,hin.out,by(repeat' (first|exact Ext.refl _|(with_reducible assumption)|(with_reducible refine Ext.alloc ?_ _)|(with_reducible refine Ext.setCell ?_ (by first|exact Nat.le_refl _|(dsimp only;omega)|(simp;done)|(simp;omega)) _)|(with_reducible refine Ext.drew ?_)|(with_reducible refine Ext.drewN ?_ _)|(refine Ext.trans ?_ (by with_reducible assumption))))⟩
    case measure=>simp[intOf];omega
  ·obtain rfl:k=m:=by omega
   have hfin:Hid (x=booksAt bs h):=by have:=HXX.out;rwa[List.take_of_length_le (by rw[hl.out];exact Nat.le_refl _)]at this
   go_wp2
   go_ret
   exact⟨by rw[hfin.out];rfl,hE⟩
set_option maxRecDepth 100000 in
set_option maxHeartbeats 8000000 in
theorem implBat (q:Option Addr)(m c2:Nat)(bs:List Visit4)(h:Int)(w:World)(hS:Sl w q m c2 4 (bs.flatMap visitCells)):
  Calls Tryd.prog 50 #[.slice q m c2,.int .i64 h] w fun e w'=>e= .returned (.int .i64 (booksAt bs h))∧Ext w w':=by
 have hn:=hS.bd
 have HS:=Lib.hid hS
 have hl:Hid (bs.length=m):=by
  have:=hS.len;rw[flat_len visitCells 4 (fun _=>rfl)]at this;exact(by omega:bs.length=m)
 clear hS
 go_enter Tryd.func50,Tryd.ntmps50
 go_wp2
 go_loopw [5,10] (fun n i wr=> ∃(k x:Nat),k≤m∧x≤k∧i= .int .i64 k∧n= .int .i64 x∧x=booksAt (bs.take k) h∧Ext w wr) (fun _ i _=>m-(intOf i).toNat)
 case atStart=>exact⟨0,0,Nat.zero_le _,Nat.le_refl _,rfl,rfl,by simp[booksAt],Ext.refl _⟩
 case round=>
  obtain⟨k,x,hk,hxk,rfl,rfl,hx,hE⟩:=hrel
  have HXX:=Lib.hid hx
  clear hx
  by_cases hlt:k<m
  ·obtain⟨b,off,a0,a1,a2,a3,rfl,hv,hb,g0,g1,g2,g3⟩:=visit_at (HS.out.ext hE) hlt
   have hnx:=Lib.hid (booksAt_snoc hv h)
   clear hv
   have i1:(0:Int)≤(k:Int):=by omega
   have i2:(k:Int)<(m:Int):=by omega
   by_cases t1:a1≤h
   ·by_cases t2:h<a2
    ·have hin:Hid (x+1=booksAt (bs.take (k+1)) h):=by show _=_;rw[hnx.out,←HXX.out];simp[inHour,t1,t2]
     go_wp2
     go_roundw
     case rel=>exact⟨k+1,x+1,by omega,by omega,by go_num,by go_num,hin.out,by(repeat' (first|exact Ext.refl _|(with_reducible assumption)|(with_reducible refine Ext.alloc ?_ _)|(with_reducible refine Ext.setCell ?_ (by first|exact Nat.le_refl _|(dsimp only;omega)|(simp;done)|(simp;omega)) _)|(with_reducible refine Ext.drew ?_)|(with_reducible refine Ext.drewN ?_ _)|(refine Ext.trans ?_ (by with_reducible assumption))))⟩
     case measure=>simp[intOf];omega
    ·have hin:Hid (x=booksAt (bs.take (k+1)) h):=by show _=_;rw[hnx.out,←HXX.out];simp[inHour,t1,t2]
     go_wp2
     go_roundw
     case rel=>exact⟨k+1,x,by omega,by omega,by go_num,rfl,hin.out,by(repeat' (first|exact Ext.refl _|(with_reducible assumption)|(with_reducible refine Ext.alloc ?_ _)|(with_reducible refine Ext.setCell ?_ (by first|exact Nat.le_refl _|(dsimp only;omega)|(simp;done)|(simp;omega)) _)|(with_reducible refine Ext.drew ?_)|(with_reducible refine Ext.drewN ?_ _)|(refine Ext.trans ?_ (by with_reducible assumption))))⟩
     case measure=>simp[intOf];omega
   ·have hin:Hid (x=booksAt (bs.take (k+1)) h):=by show _=_;rw[hnx.out,←HXX.out];simp[inHour,t1]
    go_wp2
    go_roundw
    case rel=>exact⟨k+1,x,by omega,by omega,by go_num,rfl,hin.out,by(repeat' (first|exact Ext.refl _|(with_reducible assumption)|(with_reducible refine Ext.alloc ?_ _)|(with_reducible refine Ext.setCell ?_ (by first|exact Nat.le_refl _|(dsimp only;omega)|(simp;done)|(simp;omega)) _)|(with_reducible refine Ext.drew ?_)|(with_reducible refine Ext.drewN ?_ _)|(refine Ext.trans ?_ (by with_reducible assumption))))⟩
    case measure=>simp[intOf];omega
  ·obtain rfl:k=m:=by omega
   have hfin:Hid (x=booksAt bs h):=by have:=HXX.out;rwa[List.take_of_length_le (by rw[hl.out];exact Nat.le_refl _)]at this
   go_wp2
   go_ret
   exact⟨by rw[hfin.out];rfl,hE⟩
set_option maxRecDepth 100000 in
set_option maxHeartbeats 8000000 in
theorem specBm (q:Option Addr)(m c2:Nat)(bs:List Visit4)(w:World)(hS:Sl w q m c2 4 (bs.flatMap visitCells)):
  Calls Tryd.prog 45 #[.slice q m c2] w fun e w'=>e= .returned (.int .i64 (booksMost bs))∧Ext w w':=by
 have HA:Hid (∀(h:Int) w',Ext w w'→Calls Tryd.prog 71 #[.slice q m c2,.int .i64 h] w' fun e w''=>e= .returned (.int .i64 (booksAt bs h))∧Ext w' w''):=fun h w' hx=>specBat q m c2 bs h w' (hS.ext hx)
 have HV:Hid (∀w',Ext w w'→Calls Tryd.prog 28 #[.slice q m c2] w' fun e w''=>e= .returned (.bool (booksOk bs))∧Ext w' w''):=fun w' hx=>specBsv q m c2 bs w' (hS.ext hx)
 clear hS
 go_enter Tryd.func45,Tryd.ntmps45
 go_wp2
 go_loopw [3,4] (fun x i wr=> ∃k:Nat,k≤30∧i= .int .i64 k∧x= .int .i64 (mostTo bs k)∧Ext w wr) (fun _ i _=>30-(intOf i).toNat)
 case atStart=>exact⟨0,Nat.zero_le _,rfl,rfl,Ext.refl _⟩
 case round=>
  obtain⟨k,hk,rfl,rfl,hE⟩:=hrel
  by_cases hlt:k<30
  ·have hnx:Hid (max (mostTo bs k) (booksAt bs k:Int)=mostTo bs (k+1)):=rfl
   generalize mostTo bs k=Y at hnx⊢
   go_wp2_with fail
   refine(HA.out _ _ (by(repeat' (first|exact Ext.refl _|(with_reducible assumption)|(with_reducible refine Ext.alloc ?_ _)|(with_reducible refine Ext.setCell ?_ (by first|exact Nat.le_refl _|(dsimp only;omega)|(simp;done)|(simp;omega)) _)|(with_reducible refine Ext.drew ?_)|(with_reducible refine Ext.drewN ?_ _)|(refine Ext.trans ?_ (by with_reducible assumption)))))).mono ?_
   rintro e w1 ⟨rfl,h1⟩
   go_wp2
   go_roundw
   case rel=>exact⟨k+1,by omega,by go_num,by rw[←hnx.out],by(repeat' (first|exact Ext.refl _|(with_reducible assumption)|(with_reducible refine Ext.alloc ?_ _)|(with_reducible refine Ext.setCell ?_ (by first|exact Nat.le_refl _|(dsimp only;omega)|(simp;done)|(simp;omega)) _)|(with_reducible refine Ext.drew ?_)|(with_reducible refine Ext.drewN ?_ _)|(refine Ext.trans ?_ (by with_reducible assumption))))⟩
   case measure=>simp[intOf];omega
  ·obtain rfl:k=30:=by omega
   cases ho:booksOk bs with
   |false=>
    have hfin:Hid (booksMost bs= -1):=by show _=_;simp[booksMost,ho]
    rw[ho]at HV
    go_wp2_with fail
    refine(HV.out _ (by(repeat' (first|exact Ext.refl _|(with_reducible assumption)|(with_reducible refine Ext.alloc ?_ _)|(with_reducible refine Ext.setCell ?_ (by first|exact Nat.le_refl _|(dsimp only;omega)|(simp;done)|(simp;omega)) _)|(with_reducible refine Ext.drew ?_)|(with_reducible refine Ext.drewN ?_ _)|(refine Ext.trans ?_ (by with_reducible assumption)))))).mono ?_
    rintro e w1 ⟨rfl,h1⟩
    go_wp2
    go_ret
    exact⟨by rw[hfin.out];rfl,by(repeat' (first|exact Ext.refl _|(with_reducible assumption)|(with_reducible refine Ext.alloc ?_ _)|(with_reducible refine Ext.setCell ?_ (by first|exact Nat.le_refl _|(dsimp only;omega)|(simp;done)|(simp;omega)) _)|(with_reducible refine Ext.drew ?_)|(with_reducible refine Ext.drewN ?_ _)|(refine Ext.trans ?_ (by with_reducible assumption))))⟩
   |true=>
    have hfin:Hid (booksMost bs=mostTo bs 30):=by show _=_;simp[booksMost,ho]
    rw[ho]at HV
    go_wp2_with fail
    refine(HV.out _ (by(repeat' (first|exact Ext.refl _|(with_reducible assumption)|(with_reducible refine Ext.alloc ?_ _)|(with_reducible refine Ext.setCell ?_ (by first|exact Nat.le_refl _|(dsimp only;omega)|(simp;done)|(simp;omega)) _)|(with_reducible refine Ext.drew ?_)|(with_reducible refine Ext.drewN ?_ _)|(refine Ext.trans ?_ (by with_reducible assumption)))))).mono ?_
    rintro e w1 ⟨rfl,h1⟩
    go_wp2
    go_ret
    exact⟨by rw[hfin.out];rfl,by(repeat' (first|exact Ext.refl _|(with_reducible assumption)|(with_reducible refine Ext.alloc ?_ _)|(with_reducible refine Ext.setCell ?_ (by first|exact Nat.le_refl _|(dsimp only;omega)|(simp;done)|(simp;omega)) _)|(with_reducible refine Ext.drew ?_)|(with_reducible refine Ext.drewN ?_ _)|(refine Ext.trans ?_ (by with_reducible assumption))))⟩
set_option maxRecDepth 100000 in
set_option maxHeartbeats 8000000 in
theorem implBm (q:Option Addr)(m c2:Nat)(bs:List Visit4)(w:World)(hS:Sl w q m c2 4 (bs.flatMap visitCells)):
  Calls Tryd.prog 13 #[.slice q m c2] w fun e w'=>e= .returned (.int .i64 (booksMost bs))∧Ext w w':=by
 have HA:Hid (∀(h:Int) w',Ext w w'→Calls Tryd.prog 50 #[.slice q m c2,.int .i64 h] w' fun e w''=>e= .returned (.int .i64 (booksAt bs h))∧Ext w' w''):=fun h w' hx=>implBat q m c2 bs h w' (hS.ext hx)
 have HV:Hid (∀w',Ext w w'→Calls Tryd.prog 40 #[.slice q m c2] w' fun e w''=>e= .returned (.bool (booksOk bs))∧Ext w' w''):=fun w' hx=>implBsv q m c2 bs w' (hS.ext hx)
 clear hS
 cases ho:booksOk bs with
 |false=>
  have hfin:Hid (booksMost bs= -1):=by show _=_;simp[booksMost,ho]
  rw[ho]at HV
  go_enter Tryd.func13,Tryd.ntmps13
  go_wp2_with fail
  refine(HV.out _ (by(repeat' (first|exact Ext.refl _|(with_reducible assumption)|(with_reducible refine Ext.alloc ?_ _)|(with_reducible refine Ext.setCell ?_ (by first|exact Nat.le_refl _|(dsimp only;omega)|(simp;done)|(simp;omega)) _)|(with_reducible refine Ext.drew ?_)|(with_reducible refine Ext.drewN ?_ _)|(refine Ext.trans ?_ (by with_reducible assumption)))))).mono ?_
  rintro e w1 ⟨rfl,h1⟩
  go_wp2
  go_ret
  exact⟨by rw[hfin.out];rfl,by(repeat' (first|exact Ext.refl _|(with_reducible assumption)|(with_reducible refine Ext.alloc ?_ _)|(with_reducible refine Ext.setCell ?_ (by first|exact Nat.le_refl _|(dsimp only;omega)|(simp;done)|(simp;omega)) _)|(with_reducible refine Ext.drew ?_)|(with_reducible refine Ext.drewN ?_ _)|(refine Ext.trans ?_ (by with_reducible assumption))))⟩
 |true=>
  have hfin:Hid (booksMost bs=mostTo bs 30):=by show _=_;simp[booksMost,ho]
  rw[ho]at HV
  go_enter Tryd.func13,Tryd.ntmps13
  go_wp2_with fail
  refine(HV.out _ (by(repeat' (first|exact Ext.refl _|(with_reducible assumption)|(with_reducible refine Ext.alloc ?_ _)|(with_reducible refine Ext.setCell ?_ (by first|exact Nat.le_refl _|(dsimp only;omega)|(simp;done)|(simp;omega)) _)|(with_reducible refine Ext.drew ?_)|(with_reducible refine Ext.drewN ?_ _)|(refine Ext.trans ?_ (by with_reducible assumption)))))).mono ?_
  rintro e w1 ⟨rfl,h1⟩
  go_wp2
  go_loopw [3,8] (fun x i wr=> ∃k:Nat,k≤30∧i= .int .i64 k∧x= .int .i64 (mostTo bs k)∧Ext w wr) (fun _ i _=>30-(intOf i).toNat)
  case atStart=>exact⟨0,Nat.zero_le _,rfl,rfl,by(repeat' (first|exact Ext.refl _|(with_reducible assumption)|(with_reducible refine Ext.alloc ?_ _)|(with_reducible refine Ext.setCell ?_ (by first|exact Nat.le_refl _|(dsimp only;omega)|(simp;done)|(simp;omega)) _)|(with_reducible refine Ext.drew ?_)|(with_reducible refine Ext.drewN ?_ _)|(refine Ext.trans ?_ (by with_reducible assumption))))⟩
  case round=>
   obtain⟨k,hk,rfl,rfl,hE⟩:=hrel
   by_cases hlt:k<30
   ·have hnx:Hid (max (mostTo bs k) (booksAt bs k:Int)=mostTo bs (k+1)):=rfl
    generalize mostTo bs k=Y at hnx⊢
    go_wp2_with fail
    refine(HA.out _ _ (by(repeat' (first|exact Ext.refl _|(with_reducible assumption)|(with_reducible refine Ext.alloc ?_ _)|(with_reducible refine Ext.setCell ?_ (by first|exact Nat.le_refl _|(dsimp only;omega)|(simp;done)|(simp;omega)) _)|(with_reducible refine Ext.drew ?_)|(with_reducible refine Ext.drewN ?_ _)|(refine Ext.trans ?_ (by with_reducible assumption)))))).mono ?_
    rintro e w2 ⟨rfl,h2⟩
    go_wp2
    go_roundw
    case rel=>exact⟨k+1,by omega,by go_num,by rw[←hnx.out],by(repeat' (first|exact Ext.refl _|(with_reducible assumption)|(with_reducible refine Ext.alloc ?_ _)|(with_reducible refine Ext.setCell ?_ (by first|exact Nat.le_refl _|(dsimp only;omega)|(simp;done)|(simp;omega)) _)|(with_reducible refine Ext.drew ?_)|(with_reducible refine Ext.drewN ?_ _)|(refine Ext.trans ?_ (by with_reducible assumption))))⟩
    case measure=>simp[intOf];omega
   ·obtain rfl:k=30:=by omega
    go_wp2
    go_ret
    exact⟨by rw[hfin.out];rfl,by(repeat' (first|exact Ext.refl _|(with_reducible assumption)|(with_reducible refine Ext.alloc ?_ _)|(with_reducible refine Ext.setCell ?_ (by first|exact Nat.le_refl _|(dsimp only;omega)|(simp;done)|(simp;omega)) _)|(with_reducible refine Ext.drew ?_)|(with_reducible refine Ext.drewN ?_ _)|(refine Ext.trans ?_ (by with_reducible assumption))))⟩
end Go.Proofs.YtndcnflchkfaeaaDoor

