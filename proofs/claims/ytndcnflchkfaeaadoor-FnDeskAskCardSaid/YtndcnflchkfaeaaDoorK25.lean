/-
  Texts of this proof, packed (@packed).
-/
import Derived.Test.YtndcnflchkfaeaaDoorK10
import Derived.Test.YtndcnflchkfaeaaDoorK11
import Derived.Test.YtndcnflchkfaeaaDoorK23
import Derived.Test.YtndcnflchkfaeaaDoorK24
namespace Go.Proofs.YtndcnflchkfaeaaDoor
open Go.RowKit
set_option linter.unusedVariables false
set_option linter.unusedSimpArgs false
theorem mk8 (w:World):(Instr.makeSlice 23 (.int .i64 8) (.int .i64 8)).run Tryd.prog w= .ok (.slice (some ⟨w.heap.size,0,none⟩) 8 8) (w.alloc (.cells (Array.replicate 32 (.int .i64 0)) TBk)):=by kernel_rfl
def RandBooks (R k:Nat)(w:World)(e:Ending)(w':World):Prop:=
 ∃(bs:List Visit4) (q:Option Addr) (n c:Nat),e= .returned (.slice q n c)∧n≤10∧bs.length=n∧w'.ownsRow w.heap.size TBk 4 (.slice q n c) n (bs.flatMap visitCells)∧Rand w' R (k+1000)∧ExtR R w w'
theorem sl_dropIf {w:World}{b n cap sz k:Nat}{xs:List Value}(h:Sl w (some ⟨b,0,none⟩) n cap sz xs)(hk:k≤n):Sl w (if cap=k then some ⟨b,0,none⟩else some ⟨b,k*sz,none⟩) (n-k) (cap-k) sz (xs.drop (k*sz)):=by
 have hl:=h.len
 have hle:=h.le
 have hmx:=h.mx
 split
 ·have e1:n-k=0:=by omega
  rw[e1]
  have e2:n=k:=by omega
  exact⟨by rw[List.length_drop,hl,e2];omega,Nat.zero_le _,by omega,fun h=>absurd h (by omega)⟩
 ·have:=sl_dropZ h hk
  simpa using this
theorem ifR {g R m j:Nat}{P:Prop}[Decidable P](h:g≠R):0<m→ ∀b off,(if P then some (⟨g,0,none⟩:Addr)else some ⟨g,j,none⟩)=some ⟨b,off,none⟩→b≠R:=by
 intro _ b off e
 split at e
 ·injection e with e;injection e with e;omega
 ·injection e with e;injection e with e;omega
theorem made_books (w:World):(w.alloc (.cells (Array.replicate 32 (.int .i64 0)) TBk)).ownsRow w.heap.size TBk 4 (.slice (some ⟨w.heap.size,0,none⟩) 8 8) 8 ((List.replicate 8 ((0,0,0,0):Visit4)).flatMap visitCells):=by
 have:=own_lit (n:=8) (sz:=4) (Blk.new w TBk (Array.replicate 32 (.int .i64 0))) (by simp) (by simp[maxLen]) (Nat.le_refl _)
 exact this
set_option maxRecDepth 100000 in
set_option maxHeartbeats 8000000 in
theorem l20Books_any (R k:Nat)(n:Int)(w:World)(hr0:Rand w R k)(hk:k≤1099511400000)(hn0:0≤n)(hn1:n≤1000000):
  Calls Tryd.prog 80 #[.pointer (some ⟨R,0,none⟩),.int .i64 n] w (RandBooks R k w):=by
 have hR:=hr0.lt
 go_enter Tryd.func80,Tryd.ntmps80
 go_wp2_with fail
 refine(pick_any R k 8 _ (hr0.ext (by(repeat' (first|exact Ext.refl _|(with_reducible assumption)|(with_reducible refine Ext.alloc ?_ _)|(with_reducible refine Ext.setCell ?_ (by first|exact Nat.le_refl _|(dsimp only;omega)|(simp;done)|(simp;omega)) _)|(with_reducible refine Ext.drew ?_)|(with_reducible refine Ext.drewN ?_ _)|(refine Ext.trans ?_ (by with_reducible assumption)))))) (by omega)).mono ?_
 rintro e w1 ⟨x,rfl,xa,xb,r1,x1⟩
 obtain⟨j0,rfl⟩:=Int.eq_ofNat_of_zero_le xa
 have hj0:j0≤7:=by omega
 clear xa xb
 have M1:=Lib.hid ((((MemR.start R w hR).made0 TBk 4 (w.heap.size) (by simp))).pickd x1)
 clear x1
 have MS:=Lib.hid (show MemR R w w1 [ownI w.heap.size TBk 4 (some ⟨w.heap.size,0,none⟩) (0) (0) (([]:List Visit4).flatMap visitCells)]from M1.out)
 clear M1
 go_wp2
 go_loopw [5,6] (fun o i wr=> ∃(bs:List Visit4) (gq n1 c j:Nat),o= .slice (some ⟨gq,0,none⟩) n1 c∧i= .int .i64 (j:Int)∧n1+j≤7∧bs.length=n1∧MemR R w wr [ownI w.heap.size TBk 4 (some ⟨gq,0,none⟩) (n1) (c) (bs.flatMap visitCells)]∧Rand wr R (k+1+40*(7-j))) (fun _ i _=>(intOf i).toNat)
 case atStart=>exact⟨[],_,0,0,j0,rfl,rfl,by omega,rfl,MS.out,r1.mono (by omega)⟩
 case round=>
  clear MS r1 hr0
  obtain⟨bs,gq,n1,c,j,rfl,rfl,hj,hbl,hM,rr⟩:=hrel
  have M1:=Lib.hid hM
  have hl:=Lib.hid hbl
  clear hM hbl
  have hRw:R<wr.heap.size:=rr.lt
  by_cases hj0:j=0
  ·skip
   subst hj0
   have dj:decide ((0:Int)<((0:Nat):Int))=false:=by simp
   go_wp2_with fail
   refine(odd_any R (k+1+40*(7-0)) n _ rr (by omega) hn0 hn1).mono ?_
   rintro e w2 ⟨t,rfl,r2,x2⟩
   clear rr
   have M2:=Lib.hid ((M1.out).pickd x2)
   clear x2 M1
   cases t with
   |false=>
    go_wp2
    go_ret
    exact⟨bs,_,n1,_,rfl,by omega,hl.out,(M2.out.own (i:=0) rfl),r2.mono (by omega),M2.out.ext⟩
   |true=>
    go_wp2_with fail
    refine(pick_any R (k+1+40*(7-0)+1) (3) _ r2 (by omega)).mono ?_
    rintro e w3 ⟨x,rfl,xa,xb,r3,xx⟩
    have M3:=Lib.hid ((M2.out).pickd xx)
    clear xx M2
    have hx3:x=0∨x=1∨x=2:=by omega
    clear xa xb r2
    rcases hx3 with rfl|rfl|rfl
    ·skip
     have hmk:=mk8 w3
     have o9:=made_books w3
     have x9:Ext w3 (w3.alloc (.cells (Array.replicate 32 (.int .i64 0)) TBk)):=(Ext.refl _).alloc _
     have r4:=r3.ext x9
     have hE:=(M3.out.ext).ext x9
     have hw:w.heap.size≤w3.heap.size:=M3.out.ext.sz
     go_wp2
     go_ret
     exact⟨List.replicate 8 (0,0,0,0),_,8,8,rfl,by omega,by simp,own_low o9 hw,r4.mono (by omega),hE⟩
    ·skip
     go_wp2_with fail
     refine(l20Book_any R (k+1+40*(7-0)+1+1) 60 1 _ r3 (by omega) (by omega) (by omega)).mono ?_
     rintro e w4 ⟨a0,a1,a2,a3,rfl,r4,x4⟩
     clear r3
     have M4:=Lib.hid ((M3.out).pickd x4)
     clear x4 M3
     go_wp2_with (at_builtin;refine wpList_appR elBk rfl _ _ rfl (((M4.out).lit TBk 4 1 (w4.heap.size) #[.int .i64 a0,.int .i64 a1,.int .i64 a2,.int .i64 a3] (by simp) (by simp) (by simp[maxLen]))) 0 rfl rfl (bs.flatMap visitCells) rfl ((M4.out.sl (i:=0) rfl).ext (by(repeat' (first|exact Ext.refl _|(with_reducible assumption)|(with_reducible refine Ext.alloc ?_ _)|(with_reducible refine Ext.setCell ?_ (by first|exact Nat.le_refl _|(dsimp only;omega)|(simp;done)|(simp;omega)) _)|(with_reducible refine Ext.drew ?_)|(with_reducible refine Ext.drewN ?_ _)|(refine Ext.trans ?_ (by with_reducible assumption)))))) (books_one _) (by omega) ?_;intro q7 c7 w7 M7X hr7;have M7:=Lib.hid M7X;have r7:=hr7 _ (r4.ext (by(repeat' (first|exact Ext.refl _|(with_reducible assumption)|(with_reducible refine Ext.alloc ?_ _)|(with_reducible refine Ext.setCell ?_ (by first|exact Nat.le_refl _|(dsimp only;omega)|(simp;done)|(simp;omega)) _)|(with_reducible refine Ext.drew ?_)|(with_reducible refine Ext.drewN ?_ _)|(refine Ext.trans ?_ (by with_reducible assumption)))))))
     go_ret
     have o7:=M7.out.own (i:=0) rfl
     exact⟨(a0,a1,a2,a3)::bs,_,1+n1,_,rfl,by omega,by simp[hl.out];omega,o7,r7.mono (by omega),M7.out.ext⟩
    ·skip
     obtain⟨z,hz0⟩: ∃z:Nat,z=min 2 n1:=⟨_,rfl⟩
     have hz2:z≤n1:=by omega
     have hz:=Lib.hid (show min (2:Int) (n1:Int)=(z:Int) by omega)
     clear hz0
     have HSl:=Lib.hid (M3.out.sl (i:=0) rfl)
     have hgR:gq≠R:=by have:w.heap.size≤gq:=(M3.out.lt (i:=0) rfl rfl).1;omega
     go_upto_region 8 with fail
     have hR3:R<w3.heap.size:=r3.lt
     refine region_linR (gl [gEq (.pointer (some ⟨R,0,none⟩)),(fun v _=> ∃a b c d:Int,v=bookV a b c d),gEq (.pointer (some ⟨R,0,none⟩)),(fun v _=> ∃a b c d:Int,v=bookV a b c d),(fun v w'=> ∃(g:Nat) (x y:Visit4),v= .slice (some ⟨g,0,none⟩) 2 2∧w3.heap.size≤g∧Blk w' g TBk (visitCells x++visitCells y).toArray),gEq (.slice (some ⟨gq,0,none⟩) n1 c),gEq (.slice (some ⟨gq,0,none⟩) n1 c),gEq (.int .i64 (n1:Int)),gEq (.int .i64 (z:Int)),(fun v w'=> ∃(p:Option Addr) (c2:Nat),(0<n1-z→ ∀b off,p=some ⟨b,off,none⟩→b≠R)∧v= .slice p (n1-z) c2∧Sl w' p (n1-z) c2 4 ((bs.drop z).flatMap visitCells))]) R (k+1+40*(7-0)+1+1) 40 10 (by kernel_rfl) rfl (by kernel_rfl) (by kernel_rfl) (by kernel_rfl) r3 (glR_mono (glR_cons (gEqR_mono _) (glR_cons (fun _ _ _ h _=>h) (glR_cons (gEqR_mono _) (glR_cons (fun _ _ _ h _=>h) (glR_cons (fun v w w' ⟨g,x,y,h1,h2,h3⟩ hx=>⟨g,x,y,h1,h2,ExtR.blk hx h3 (by omega)⟩) (glR_cons (gEqR_mono _) (glR_cons (gEqR_mono _) (glR_cons (gEqR_mono _) (glR_cons (gEqR_mono _) (glR_cons (fun v w w' ⟨p,c2,h0,h1,h2⟩ hx=>⟨p,c2,h0,h1,hx.sl (b0:=0) h2 h0⟩) (glR_nil)))))))))))) rfl (k:=12) (by kernel_rfl) (by decide) (ls:= [(0,some 28),(1,some 29),(2,some 30),(3,some 31),(4,some 32),(5,some 33),(6,some 34),(7,some 35),(8,some 36),(9,some 37)]) (by kernel_rfl) (ir:= [0,1,2,3,4,5,6,7,8,9]) (by kernel_rfl) ?steps (tl:=#[true,true,true,true,true,true,true,true,true,true,false,false]) (by kernel_rfl) ?fin
     case steps=>
      refine StepsLR.cons (ps:= []) rfl (by kernel_rfl) (fun wi kk hx hr hkk=> ?_) ?_
      ·intro K hK
       go_simp
       exact hK _ _ ⟨.pointer (some ⟨R,0,none⟩),rfl,rfl,(randE hr (Ext.refl _))⟩
      refine StepsLR.cons (ps:= [(0,some 28)]) rfl (by kernel_rfl) (fun wi kk hx hr hkk=> ?_) ?_
      ·intro v0 h0 K hK
       obtain rfl:=h0
       go_wp2_with fail
       refine(l20Book_any R kk 2 0 _ hr (by omega) (by omega) (by omega)).mono ?_
       rintro e w5 ⟨ba,bb,bc,bd,rfl,r5,x5⟩
       go_simp
       exact hK _ _ ⟨_,rfl,⟨ba,bb,bc,bd,rfl⟩,⟨x5,r5⟩⟩
      refine StepsLR.cons (ps:= []) rfl (by kernel_rfl) (fun wi kk hx hr hkk=> ?_) ?_
      ·intro K hK
       go_simp
       exact hK _ _ ⟨.pointer (some ⟨R,0,none⟩),rfl,rfl,(randE hr (Ext.refl _))⟩
      refine StepsLR.cons (ps:= [(2,some 30)]) rfl (by kernel_rfl) (fun wi kk hx hr hkk=> ?_) ?_
      ·intro v2 h2 K hK
       obtain rfl:=h2
       go_wp2_with fail
       refine(l20Book_any R kk 2 0 _ hr (by omega) (by omega) (by omega)).mono ?_
       rintro e w5 ⟨ba,bb,bc,bd,rfl,r5,x5⟩
       go_simp
       exact hK _ _ ⟨_,rfl,⟨ba,bb,bc,bd,rfl⟩,⟨x5,r5⟩⟩
      refine StepsLR.cons (ps:= [(1,some 29),(3,some 31)]) rfl (by kernel_rfl) (fun wi kk hx hr hkk=> ?_) ?_
      ·intro v1 h1 v3 h3 K hK
       obtain⟨ba1,bb1,bc1,bd1,rfl⟩:=h1
       obtain⟨ba3,bb3,bc3,bd3,rfl⟩:=h3
       go_simp
       exact hK _ _ ⟨_,rfl,⟨wi.heap.size,(ba1,bb1,bc1,bd1),(ba3,bb3,bc3,bd3),rfl,by have:=hx.sz;simp at this;omega,Blk.new _ _ _⟩,(randE hr ((Ext.refl _).alloc _))⟩
      refine StepsLR.cons (ps:= []) rfl (by kernel_rfl) (fun wi kk hx hr hkk=> ?_) ?_
      ·intro K hK
       go_simp
       exact hK _ _ ⟨.slice (some ⟨gq,0,none⟩) n1 c,rfl,rfl,(randE hr (Ext.refl _))⟩
      refine StepsLR.cons (ps:= []) rfl (by kernel_rfl) (fun wi kk hx hr hkk=> ?_) ?_
      ·intro K hK
       go_simp
       exact hK _ _ ⟨.slice (some ⟨gq,0,none⟩) n1 c,rfl,rfl,(randE hr (Ext.refl _))⟩
      refine StepsLR.cons (ps:= [(6,some 34)]) rfl (by kernel_rfl) (fun wi kk hx hr hkk=> ?_) ?_
      ·intro v6 h6 K hK
       obtain rfl:=h6
       go_simp
       exact hK _ _ ⟨.int .i64 (n1:Int),rfl,rfl,(randE hr (Ext.refl _))⟩
      refine StepsLR.cons (ps:= [(7,some 35)]) rfl (by kernel_rfl) (fun wi kk hx hr hkk=> ?_) ?_
      ·intro v7 h7 K hK
       obtain rfl:=h7
       go_simp
       exact hK _ _ ⟨.int .i64 (min 2 (n1:Int)),rfl,(by show _=_;rw[hz.out]),(randE hr (Ext.refl _))⟩
      refine StepsLR.cons (ps:= [(5,some 33),(8,some 36)]) rfl (by kernel_rfl) (fun wi kk hx hr hkk=> ?_) StepsLR.nil
      ·intro v5 h5 v8 h8 K hK
       obtain rfl:=h5
       obtain rfl:=h8
       have j0:(0:Int)≤(z:Int):=by omega
       have j1:(z:Int)≤(n1:Int):=by omega
       have hcl:=HSl.out.le
       have hcb:=HSl.out.bd
       have j2:(n1:Int)≤(c:Int):=by omega
       have S0:=hx.of_drew.sl (b0:=0) HSl.out (fun _ b off e=>by injection e with e;injection e with e;omega)
       go_simp
       exact hK _ _ ⟨_,rfl,⟨_,_,ifR hgR,rfl,drop_books z bs▸sl_dropIf S0 hz2⟩,randE hr (Ext.refl _)⟩
     case fin=>
      intro wi hx hr v0 h0 v1 h1 v2 h2 v3 h3 v4 h4 v5 h5 v6 h6 v7 h7 v8 h8 v9 h9
      obtain rfl:=h0
      obtain⟨ba1,bb1,bc1,bd1,rfl⟩:=h1
      obtain rfl:=h2
      obtain⟨ba3,bb3,bc3,bd3,rfl⟩:=h3
      obtain⟨g4,x4,y4,rfl,hg4,B4⟩:=h4
      obtain rfl:=h5
      obtain rfl:=h6
      obtain rfl:=h7
      obtain rfl:=h8
      obtain⟨p9,d9,hp9,rfl,S9⟩:=h9
      have hx1:ExtR R w3 wi:=hx.of_drew
      have hBx:=Lib.hid B4
      have hS9:=Lib.hid S9
      have M4:=Lib.hid (show MemR R w wi [ownI w.heap.size TBk 4 (some ⟨g4,0,none⟩) 2 2 (visitCells x4++visitCells y4)]from by
       have h:=M3.out.callR hx1 (own_lit (n:=2) (sz:=4) B4 (by simp[visitCells]) (by simp[maxLen]) hg4)
       simpa using h.pick [0] (by decide) rfl)
      have e4:visitCells x4++visitCells y4= [x4,y4].flatMap visitCells:=by simp
      have SS:=HSl.out.len
      rw[flat_len visitCells 4 (fun _=>rfl)]at SS
      simp only[Act.put,List.setIfInBounds_toArray,List.set_cons_zero,List.set_cons_succ]
      refine wpAny_ready (rs:= [10]) (by kernel_rfl) (by simp) ?_
      refine AllReady.cons rfl (fun K hK=> ?_) AllReady.nil
      refine step_appR elBk rfl _ _ rfl M4.out 0 rfl rfl ((bs.drop z).flatMap visitCells) rfl S9 (books_one _) (by omega) (fun q7 c7 w7 M7X hr7=>hK _ _ ?_)
      clear hK K
      have M7:=Lib.hid (show MemR R w w7 [ownI w.heap.size TBk 4 q7 (2+(n1-z)) c7 (([x4,y4]++bs.drop z).flatMap visitCells)]from by rw[List.flatMap_append,←e4];exact M7X)
      have r7:=hr7 _ hr
      clear M7X hr7 M4
      refine wpAny_ready (rs:= [11]) (by kernel_rfl) (by simp) ?_
      refine AllReady.cons rfl (fun K hK=> ?_) AllReady.nil
      go_simp
      refine hK _ _ ?_
      clear hK K
      refine wpAny_done (by kernel_rfl) ?_ _
      try simp only[Act.put,List.setIfInBounds_toArray,List.set_cons_zero,List.set_cons_succ]
      go_wp2
      go_ret
      exact⟨[x4,y4]++bs.drop z,q7,2+(n1-z),c7,rfl,by omega,by simp[hl.out];omega,M7.out.own (i:=0) rfl,r7.mono (by omega),M7.out.ext⟩
  ·obtain⟨j,rfl⟩: ∃i,j=i+1:=⟨j-1,by omega⟩
   have i1:decide ((0:Int)<((j+1:Nat):Int))=true:=by first|(simp;done)|(simp;omega)
   have i2:decide ((0:Int)<(j:Int)+1)=true:=by first|(simp;done)|(simp;omega)
   go_wp2_with fail
   refine(l20Book_any R (k+1+40*(7-(j+1))) _ 0 _ rr (by omega) (by omega) (by omega)).mono ?_
   rintro e w4 ⟨a0,a1,a2,a3,rfl,r4,x4⟩
   clear rr
   have M2:=Lib.hid ((M1.out).pickd x4)
   clear x4 M1
   go_wp2_with (at_builtin;refine wpList_appR elBk rfl _ _ rfl (M2.out.adv ((Ext.refl _).alloc (.cells #[.int .i64 a0,.int .i64 a1,.int .i64 a2,.int .i64 a3] TBk))) 0 rfl rfl (visitCells (a0,a1,a2,a3)) rfl (sl_lit _ _ _ 1 4 _ (by first|rfl|simp) (by first|rfl|simp) (by simp[maxLen])) (book_one _) (by omega) ?_;intro q7 c7 w7 M7X hr7;obtain⟨g7,hg7,_,_⟩:=M7X.some (i:=0) rfl (by omega);subst hg7;have M7:=Lib.hid (show MemR R w w7 [ownI w.heap.size TBk 4 (some ⟨g7,0,none⟩) (n1+1) c7 ((bs++ [(a0,a1,a2,a3)]).flatMap visitCells)]from by rw[List.flatMap_append];simpa using M7X);have r7:=hr7 _ (r4.ext (by(repeat' (first|exact Ext.refl _|(with_reducible assumption)|(with_reducible refine Ext.alloc ?_ _)|(with_reducible refine Ext.setCell ?_ (by first|exact Nat.le_refl _|(dsimp only;omega)|(simp;done)|(simp;omega)) _)|(with_reducible refine Ext.drew ?_)|(with_reducible refine Ext.drewN ?_ _)|(refine Ext.trans ?_ (by with_reducible assumption))))));clear M7X hr7)
   go_roundw
   case rel=>exact⟨bs++ [(a0,a1,a2,a3)],g7,n1+1,c7,j,rfl,by go_num,by omega,by simp[hl.out],M7.out,r7.mono (by omega)⟩
   case measure=>simp[intOf]
end Go.Proofs.YtndcnflchkfaeaaDoor

namespace Go.Proofs.YtndcnflchkfaeaaDoor
open Go Go.RowKit
set_option linter.unusedVariables false
theorem MemR.put3 {R:Nat}{w0 w:World}{L:List Item}{i g B:Nat}{t:TypeId}{a0 a1 a2:Value}(h:MemR R w0 w L)(hi:L[i]? =Option.some (blkI B g t #[a0,a1,a2])) (b0 b1 b2:Value):MemR R w0 (((w.setCell ⟨g,0,none⟩ b0).setCell ⟨g,1,none⟩ b1).setCell ⟨g,2,none⟩ b2) (L.set i (blkI w0.heap.size g t #[b0,b1,b2])):=by
 have hl:i<L.length:=(List.getElem?_eq_some_iff.1 hi).1
 have h0:MemR R w0 (w.setCell ⟨g,0,none⟩ b0) (L.set i (blkI w0.heap.size g t #[b0,a1,a2])):=by have:=h.store (i:=i) hi 0 b0;simpa[List.set_set]using this
 have i0:(L.set i (blkI w0.heap.size g t #[b0,a1,a2]))[i]? =Option.some (blkI w0.heap.size g t #[b0,a1,a2]):=by rw[List.getElem?_set_self hl]
 have h1:MemR R w0 ((w.setCell ⟨g,0,none⟩ b0).setCell ⟨g,1,none⟩ b1) (L.set i (blkI w0.heap.size g t #[b0,b1,a2])):=by have:=h0.store (i:=i) i0 1 b1;simpa[List.set_set]using this
 have i1:(L.set i (blkI w0.heap.size g t #[b0,b1,a2]))[i]? =Option.some (blkI w0.heap.size g t #[b0,b1,a2]):=by rw[List.getElem?_set_self hl]
 have h2:MemR R w0 (((w.setCell ⟨g,0,none⟩ b0).setCell ⟨g,1,none⟩ b1).setCell ⟨g,2,none⟩ b2) (L.set i (blkI w0.heap.size g t #[b0,b1,b2])):=by have:=h1.store (i:=i) i1 2 b2;simpa[List.set_set]using this
 have i2:(L.set i (blkI w0.heap.size g t #[b0,b1,b2]))[i]? =Option.some (blkI w0.heap.size g t #[b0,b1,b2]):=by rw[List.getElem?_set_self hl]
 exact h2
end Go.Proofs.YtndcnflchkfaeaaDoor

