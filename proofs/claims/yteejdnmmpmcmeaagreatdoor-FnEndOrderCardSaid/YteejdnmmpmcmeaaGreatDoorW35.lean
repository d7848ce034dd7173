/-
  A law's walk or frame (@packed).
-/
import Derived.Test.YteejdnmmpmcmeaaGreatDoorK4
import Derived.Test.YteejdnmmpmcmeaaGreatDoorK35
namespace Go.Proofs.YteejdnmmpmcmeaaGreatDoor
open Go.RowKit
set_option linter.unusedVariables false
set_option linter.unusedSimpArgs false
set_option maxRecDepth 100000 in
set_option maxHeartbeats 8000000 in
theorem fnEndOrder_big (p:Option Addr)(n cap:Nat)(w:World)(h:(1048576:Int)<n):
  Calls Tryz.prog 7 #[.slice p n cap] w fun e w'=>e= .returned (.bool true)∧Ext w w':=by
 go_enter Tryz.func7,Tryz.ntmps7
 go_wp2
 go_ret
 exact⟨rfl,by(repeat' (first|exact Ext.refl _|(with_reducible assumption)|(with_reducible refine Ext.alloc ?_ _)|(with_reducible refine Ext.setCell ?_ (by first|exact Nat.le_refl _|(dsimp only;omega)|(simp;done)|(simp;omega)) _)|(with_reducible refine Ext.drew ?_)|(with_reducible refine Ext.drewN ?_ _)|(refine Ext.trans ?_ (by with_reducible assumption))))⟩
set_option maxRecDepth 100000 in
set_option maxHeartbeats 8000000 in
theorem fnEndOrder_o (p0:Option Addr)(n0 cap0:Nat)(w:World)(hn:(n0:Int)≤1048576)(HE:Hid (Env w))
  (HD:Calls Tryz.prog 32 #[.slice p0 n0 cap0] w (DrewHouse w)):
  Calls Tryz.prog 7 #[.slice p0 n0 cap0] w fun e w'=>e= .returned (.bool true)∧Ext w w':=by
 unfold DrewHouse at HD
 have HD:=Lib.hid HD
 have hd0:decide ((1048576:Int)<(n0:Int))=false:=by simp;omega
 have hd1:decide (1048576<n0)=false:=by simp;omega
 go_enter Tryz.func7,Tryz.ntmps7
 go_wp2_with fail
 refine HD.out.mono ?_
 rintro e w1 ⟨h,p,cap,q,c2,rfl,hs1,hs2,hi,hx1⟩
 have HI:=Lib.hid hi
 have hX1:=Lib.hid hx1
 clear hi HD hx1
 have HOi:=Lib.hid fun(w':World) (hx:Ext w1 w')=>implEndOrder h p _ cap q _ c2 w' (HI.out.ext hx)
 have HOs:=Lib.hid fun(w':World) (hx:Ext w1 w')=>specEndOrder h p _ cap q _ c2 w' (HI.out.ext hx)
 have HVs:=Lib.hid fun(w':World) (hx:Ext w1 w')=>specHouse h p _ cap q _ c2 w' (HI.out.ext hx)
 have hcases:(houseOk h=false∧endOrder h= [])∨(houseOk h=true∧((endOrder h).length=h.vs.length∧(endOrder h).Nodup∧(∀x∈endOrder h,0≤hallFind h.wide h.deep h.cells x)∧(freeL h.cells= []→ ∃x r,endOrder h=x::r∧hallFind h.wide h.deep h.cells x=0))):=by
  cases hok:houseOk h with
  |false=>exact .inl ⟨rfl,by unfold endOrder;rw[if_neg (by simp[hok])]⟩
  |true=>exact .inr ⟨rfl,order_cars hok⟩
 obtain⟨O,hO⟩: ∃o,endOrder h=o:=⟨_,rfl⟩
 rw[hO]at HOi HOs hcases
 clear hO
 unfold RetInts at HOi HOs
 go_wp2_with fail
 refine(HOi.out _ (((Mem.start w1).blkNew TH10 #[.int .i64 h.wide,.int .i64 h.deep,.slice p h.cells.length cap,.int .i64 h.free,.int .i64 h.step,.int .i64 h.price,.int .i64 h.capp,.int .i64 h.clock,.int .i64 h.bank,.slice q h.vs.length c2] (w1.heap.size) (by simp))).ext).mono ?_
 rintro e w2 ⟨po,co,rfl,ho2,hx2⟩
 have M2:=Lib.hid ((((Mem.start w1).blkNew TH10 #[.int .i64 h.wide,.int .i64 h.deep,.slice p h.cells.length cap,.int .i64 h.free,.int .i64 h.step,.int .i64 h.price,.int .i64 h.capp,.int .i64 h.clock,.int .i64 h.bank,.slice q h.vs.length c2] (w1.heap.size) (by simp))).call hx2 ho2)
 have lt2_1:w1.heap.size<w2.heap.size:=(M2.out.lt (i:=1) rfl rfl).2
 clear hx2 ho2
 clear HOi
 obtain⟨ce0,ce1,ce2,ce3,ce4,ce5,ce6,ce7,ce8,ce9⟩:=(M2.out.blk (i:=1) rfl).ten
 go_wp2_with fail
 clear ce0 ce1 ce2 ce3 ce4 ce5 ce6 ce7 ce8 ce9
 refine(HOs.out _ (M2.out).ext).mono ?_
 rintro e w3 ⟨pp,cc,rfl,ho3,hx3⟩
 have M3:=Lib.hid ((M2.out).call hx3 ho3)
 clear M2
 clear lt2_1
 have lt3_2:w1.heap.size<w3.heap.size:=(M3.out.lt (i:=2) rfl rfl).2
 clear hx3 ho3
 clear HOs
 go_wp2_with fail
 refine(sameInts_any po pp O.length co cc O _ ((M3.out.sl (i:=1) rfl).ext (by(repeat' (first|exact Ext.refl _|(with_reducible assumption)|(with_reducible refine Ext.alloc ?_ _)|(with_reducible refine Ext.setCell ?_ (by first|exact Nat.le_refl _|(dsimp only;omega)|(simp;done)|(simp;omega)) _)|(with_reducible refine Ext.drew ?_)|(with_reducible refine Ext.drewN ?_ _)|(refine Ext.trans ?_ (by with_reducible assumption)))))) ((M3.out.sl (i:=0) rfl).ext (by(repeat' (first|exact Ext.refl _|(with_reducible assumption)|(with_reducible refine Ext.alloc ?_ _)|(with_reducible refine Ext.setCell ?_ (by first|exact Nat.le_refl _|(dsimp only;omega)|(simp;done)|(simp;omega)) _)|(with_reducible refine Ext.drew ?_)|(with_reducible refine Ext.drewN ?_ _)|(refine Ext.trans ?_ (by with_reducible assumption))))))).mono ?_
 rintro e w4 ⟨rfl,hx4⟩
 have M4:=Lib.hid ((M3.out).adv hx4)
 clear M3
 clear lt3_2
 have lt4_2:w1.heap.size<w4.heap.size:=(M4.out.lt (i:=2) rfl rfl).2
 clear hx4
 obtain⟨ce0,ce1,ce2,ce3,ce4,ce5,ce6,ce7,ce8,ce9⟩:=(M4.out.blk (i:=2) rfl).ten
 go_wp2_with fail
 clear ce0 ce1 ce2 ce3 ce4 ce5 ce6 ce7 ce8 ce9
 refine(HVs.out _ (M4.out).ext).mono ?_
 rintro e w5 ⟨rfl,hx5⟩
 have M5:=Lib.hid ((M4.out).adv hx5)
 clear M4
 clear lt4_2
 have lt5_2:w1.heap.size<w5.heap.size:=(M5.out.lt (i:=2) rfl rfl).2
 clear hx5
 clear HVs
 rcases hcases with⟨l1,rfl⟩|⟨l1,l2,l3,l4,l5⟩
 ·skip
  simp only[l1]
  go_wp2_with fail
  refine(alive_any _ (HE.out.ext (hX1.out.trans (M5.out).ext))).mono ?_
  rintro e wz ⟨rfl,hxz⟩
  have XZ:Ext w wz:=hX1.out.trans ((M5.out).ext.trans hxz)
  go_wp2
  go_ret
  exact⟨rfl,XZ⟩
 ·skip
  simp only[l1]
  have HN:=Lib.hid l3
  have HF4:=Lib.hid l4
  have HF5:=Lib.hid l5
  have HL2:=Lib.hid l2
  clear l2 l3 l4 l5
  go_wp2
  go_loopw [5] (fun i wr=> ∃k:Nat,k≤O.length∧i= .int .i64 (k:Int)∧Mem w1 wr [ownI w1.heap.size TI 1 (pp) (O.length) (cc) (ivs O),ownI w1.heap.size TI 1 (po) (O.length) (co) (ivs O),blkI w1.heap.size (w1.heap.size) TH10 #[.int .i64 h.wide,.int .i64 h.deep,.slice p h.cells.length cap,.int .i64 h.free,.int .i64 h.step,.int .i64 h.price,.int .i64 h.capp,.int .i64 h.clock,.int .i64 h.bank,.slice q h.vs.length c2]]) (fun i _=>O.length-(intOf i).toNat)
  case atStart=>exact⟨0,Nat.zero_le _,rfl,M5.out⟩
  case round=>
   clear M5 lt5_2
   obtain⟨k,hk,rfl,hM⟩:=hrel
   have M5:=Lib.hid hM
   clear hM
   by_cases hlt:k<O.length
   ·skip
    have lt5_2:w1.heap.size<wr.heap.size:=(M5.out.lt (i:=2) rfl rfl).2
    have HSo:=Lib.hid (M5.out.sl (i:=1) rfl)
    obtain⟨bb,off,x,rfl,hx,hb,hcell⟩:=HSo.out.int_at hlt
    have hf:=HF4.out _ (List.mem_of_getElem? hx)
    have hnot:=take_not HN.out hx
    have HHi:=Lib.hid fun(w':World) (hx':Ext wr w')=>hasInt_any (some ⟨bb,off,none⟩) k co (O.take k) x w' (sl_cutI (HSo.out.ext hx') (m:=k) (by omega))
    rw[hnot]at HHi
    have HFi:=Lib.hid fun(w':World) (hx':Ext wr w')=>implHfind h.wide h.deep x p _ cap h.cells w' (HI.out.cells.ext (M5.out.ext.trans hx'))
    obtain⟨fi,hfi⟩: ∃f,hallFind h.wide h.deep h.cells x=f:=⟨_,rfl⟩
    rw[hfi]at hf HFi
    clear hfi hx hnot
    have t0:decide ((k:Int)<(O.length:Int))=true:=by simp;omega
    have t1:decide (k<O.length)=true:=by simp;omega
    have t2:decide (fi<0)=false:=by simp;omega
    have i1:(0:Int)≤(k:Int):=by omega
    have i2:(k:Int)<(O.length:Int):=by omega
    have i3: ¬(O.length≤k):=by omega
    have i4:(k:Int)≤(O.length:Int):=by omega
    have hoc:=HSo.out.le
    have hob:=HSo.out.bd
    have i5:(k:Int)≤(co:Int):=by omega
    obtain⟨ce0,ce1,ce2,ce3,ce4,ce5,ce6,ce7,ce8,ce9⟩:=(M5.out.blk (i:=2) rfl).ten
    have B0:=Lib.hid (M5.out.blk (i:=2) rfl)
    go_wp2
    clear ce0 ce1 ce2 ce3 ce4 ce5 ce6 ce7 ce8 ce9
    refine region_lin (gl [gEq (.slice (some ⟨bb,off,none⟩) O.length co),gEq (.int .i64 (k:Int)),gEq (.slice (some ⟨bb,off,none⟩) k co),gEq (.slice (some ⟨bb,off,none⟩) O.length co),gEq (.int .i64 (k:Int)),gEq (.pointer (some ⟨bb,off+k,none⟩)),gEq (.int .i64 x),gEq (.bool false),gEq (.bool false),gEq (.pointer (some ⟨w1.heap.size,0,none⟩)),gEq (.agg #[.int .i64 h.wide,.int .i64 h.deep,.slice p h.cells.length cap]),gEq (.slice (some ⟨bb,off,none⟩) O.length co),gEq (.int .i64 (k:Int)),gEq (.pointer (some ⟨bb,off+k,none⟩)),gEq (.int .i64 x),gEq (.int .i64 fi),gEq (.bool false),gEq (.bool false)]) 18 (by kernel_rfl) rfl (by kernel_rfl) (by kernel_rfl) (by kernel_rfl) (gl_mono (gl_cons (gEq_mono _) (gl_cons (gEq_mono _) (gl_cons (gEq_mono _) (gl_cons (gEq_mono _) (gl_cons (gEq_mono _) (gl_cons (gEq_mono _) (gl_cons (gEq_mono _) (gl_cons (gEq_mono _) (gl_cons (gEq_mono _) (gl_cons (gEq_mono _) (gl_cons (gEq_mono _) (gl_cons (gEq_mono _) (gl_cons (gEq_mono _) (gl_cons (gEq_mono _) (gl_cons (gEq_mono _) (gl_cons (gEq_mono _) (gl_cons (gEq_mono _) (gl_cons (gEq_mono _) (gl_nil)))))))))))))))))))) (k:=18) (by kernel_rfl) (by decide) (ls:= [(0,some 33),(1,some 34),(2,some 35),(3,some 36),(4,some 37),(5,some 38),(6,some 39),(7,some 40),(8,some 41),(9,some 42),(10,some 43),(11,some 44),(12,some 45),(13,some 46),(14,some 47),(15,some 48),(16,some 49),(17,some 50)]) (by kernel_rfl) (ir:= [0,1,2,3,4,5,6,7,8,9,10,11,12,13,14,15,16,17]) (by kernel_rfl) ?steps (tl:=#[true,true,true,true,true,true,true,true,true,true,true,true,true,true,true,true,true,true]) (by kernel_rfl) ?fin
    case steps=>
     refine StepsL.cons (ps:= []) rfl (by kernel_rfl) (fun wi hx=> ?_) ?_
     ·intro K hK
      go_simp
      exact hK _ _ ⟨.slice (some ⟨bb,off,none⟩) O.length co,rfl,rfl,Ext.refl _⟩
     refine StepsL.cons (ps:= []) rfl (by kernel_rfl) (fun wi hx=> ?_) ?_
     ·intro K hK
      go_simp
      exact hK _ _ ⟨.int .i64 (k:Int),rfl,rfl,Ext.refl _⟩
     refine StepsL.cons (ps:= [(0,some 33),(1,some 34)]) rfl (by kernel_rfl) (fun wi hx=> ?_) ?_
     ·intro v0 h0 v1 h1 K hK
      obtain rfl:=h0
      obtain rfl:=h1
      go_simp
      exact hK _ _ ⟨.slice (some ⟨bb,off,none⟩) k co,rfl,rfl,Ext.refl _⟩
     refine StepsL.cons (ps:= []) rfl (by kernel_rfl) (fun wi hx=> ?_) ?_
     ·intro K hK
      go_simp
      exact hK _ _ ⟨.slice (some ⟨bb,off,none⟩) O.length co,rfl,rfl,Ext.refl _⟩
     refine StepsL.cons (ps:= []) rfl (by kernel_rfl) (fun wi hx=> ?_) ?_
     ·intro K hK
      go_simp
      exact hK _ _ ⟨.int .i64 (k:Int),rfl,rfl,Ext.refl _⟩
     refine StepsL.cons (ps:= [(3,some 36),(4,some 37)]) rfl (by kernel_rfl) (fun wi hx=> ?_) ?_
     ·intro v3 h3 v4 h4 K hK
      obtain rfl:=h3
      obtain rfl:=h4
      go_simp
      exact hK _ _ ⟨.pointer (some ⟨bb,off+k,none⟩),rfl,rfl,Ext.refl _⟩
     refine StepsL.cons (ps:= [(5,some 38)]) rfl (by kernel_rfl) (fun wi hx=> ?_) ?_
     ·intro v5 h5 K hK
      obtain rfl:=h5
      have hX:Ext wr wi:=by(repeat' (first|exact Ext.refl _|(with_reducible assumption)|(with_reducible refine Ext.alloc ?_ _)|(with_reducible refine Ext.setCell ?_ (by first|exact Nat.le_refl _|(dsimp only;omega)|(simp;done)|(simp;omega)) _)|(with_reducible refine Ext.drew ?_)|(with_reducible refine Ext.drewN ?_ _)|(refine Ext.trans ?_ (by with_reducible assumption))))
      have cl:=(hX.cells.1 _ _ hb).trans hcell
      go_simp
      exact hK _ _ ⟨.int .i64 x,rfl,rfl,Ext.refl _⟩
     refine StepsL.cons (ps:= [(2,some 35),(6,some 39)]) rfl (by kernel_rfl) (fun wi hx=> ?_) ?_
     ·intro v2 h2 v6 h6 K hK
      obtain rfl:=h2
      obtain rfl:=h6
      go_wp2_with fail
      refine(HHi.out _ (by(repeat' (first|exact Ext.refl _|(with_reducible assumption)|(with_reducible refine Ext.alloc ?_ _)|(with_reducible refine Ext.setCell ?_ (by first|exact Nat.le_refl _|(dsimp only;omega)|(simp;done)|(simp;omega)) _)|(with_reducible refine Ext.drew ?_)|(with_reducible refine Ext.drewN ?_ _)|(refine Ext.trans ?_ (by with_reducible assumption)))))).mono ?_
      rintro e w5 ⟨rfl,rfl⟩
      go_simp
      exact hK _ _ ⟨.bool false,rfl,rfl,Ext.refl _⟩
     refine StepsL.cons (ps:= [(7,some 40)]) rfl (by kernel_rfl) (fun wi hx=> ?_) ?_
     ·intro v7 h7 K hK
      obtain rfl:=h7
      go_simp
      exact hK _ _ ⟨.bool false,rfl,rfl,Ext.refl _⟩
     refine StepsL.cons (ps:= [(8,some 41)]) rfl (by kernel_rfl) (fun wi hx=> ?_) ?_
     ·intro v8 h8 K hK
      obtain rfl:=h8
      go_simp
      exact hK _ _ ⟨.pointer (some ⟨w1.heap.size,0,none⟩),rfl,rfl,Ext.refl _⟩
     refine StepsL.cons (ps:= [(8,some 41),(9,some 42)]) rfl (by kernel_rfl) (fun wi hx=> ?_) ?_
     ·intro v8 h8 v9 h9 K hK
      obtain rfl:=h8
      obtain rfl:=h9
      have hX:Ext wr wi:=by(repeat' (first|exact Ext.refl _|(with_reducible assumption)|(with_reducible refine Ext.alloc ?_ _)|(with_reducible refine Ext.setCell ?_ (by first|exact Nat.le_refl _|(dsimp only;omega)|(simp;done)|(simp;omega)) _)|(with_reducible refine Ext.drew ?_)|(with_reducible refine Ext.drewN ?_ _)|(refine Ext.trans ?_ (by with_reducible assumption))))
      have cl0:wi.cell? ⟨w1.heap.size,0,none⟩=some (.int .i64 h.wide):=(B0.out.ext hX).cell 0
      have cl1:wi.cell? ⟨w1.heap.size,1,none⟩=some (.int .i64 h.deep):=(B0.out.ext hX).cell 1
      have cl2:wi.cell? ⟨w1.heap.size,2,none⟩=some (.slice p h.cells.length cap):=(B0.out.ext hX).cell 2
      go_simp
      exact hK _ _ ⟨.agg #[.int .i64 h.wide,.int .i64 h.deep,.slice p h.cells.length cap],rfl,rfl,Ext.refl _⟩
     refine StepsL.cons (ps:= [(8,some 41)]) rfl (by kernel_rfl) (fun wi hx=> ?_) ?_
     ·intro v8 h8 K hK
      obtain rfl:=h8
      go_simp
      exact hK _ _ ⟨.slice (some ⟨bb,off,none⟩) O.length co,rfl,rfl,Ext.refl _⟩
     refine StepsL.cons (ps:= [(8,some 41)]) rfl (by kernel_rfl) (fun wi hx=> ?_) ?_
     ·intro v8 h8 K hK
      obtain rfl:=h8
      go_simp
      exact hK _ _ ⟨.int .i64 (k:Int),rfl,rfl,Ext.refl _⟩
     refine StepsL.cons (ps:= [(8,some 41),(11,some 44),(12,some 45)]) rfl (by kernel_rfl) (fun wi hx=> ?_) ?_
     ·intro v8 h8 v11 h11 v12 h12 K hK
      obtain rfl:=h8
      obtain rfl:=h11
      obtain rfl:=h12
      go_simp
      exact hK _ _ ⟨.pointer (some ⟨bb,off+k,none⟩),rfl,rfl,Ext.refl _⟩
     refine StepsL.cons (ps:= [(8,some 41),(13,some 46)]) rfl (by kernel_rfl) (fun wi hx=> ?_) ?_
     ·intro v8 h8 v13 h13 K hK
      obtain rfl:=h8
      obtain rfl:=h13
      have hX:Ext wr wi:=by(repeat' (first|exact Ext.refl _|(with_reducible assumption)|(with_reducible refine Ext.alloc ?_ _)|(with_reducible refine Ext.setCell ?_ (by first|exact Nat.le_refl _|(dsimp only;omega)|(simp;done)|(simp;omega)) _)|(with_reducible refine Ext.drew ?_)|(with_reducible refine Ext.drewN ?_ _)|(refine Ext.trans ?_ (by with_reducible assumption))))
      have cl:=(hX.cells.1 _ _ hb).trans hcell
      go_simp
      exact hK _ _ ⟨.int .i64 x,rfl,rfl,Ext.refl _⟩
     refine StepsL.cons (ps:= [(8,some 41),(10,some 43),(14,some 47)]) rfl (by kernel_rfl) (fun wi hx=> ?_) ?_
     ·intro v8 h8 v10 h10 v14 h14 K hK
      obtain rfl:=h8
      obtain rfl:=h10
      obtain rfl:=h14
      go_wp2_with fail
      refine(HFi.out _ (by(repeat' (first|exact Ext.refl _|(with_reducible assumption)|(with_reducible refine Ext.alloc ?_ _)|(with_reducible refine Ext.setCell ?_ (by first|exact Nat.le_refl _|(dsimp only;omega)|(simp;done)|(simp;omega)) _)|(with_reducible refine Ext.drew ?_)|(with_reducible refine Ext.drewN ?_ _)|(refine Ext.trans ?_ (by with_reducible assumption)))))).mono ?_
      rintro e w5 ⟨rfl,hx5⟩
      go_simp
      exact hK _ _ ⟨.int .i64 fi,rfl,rfl,hx5⟩
     refine StepsL.cons (ps:= [(8,some 41),(15,some 48)]) rfl (by kernel_rfl) (fun wi hx=> ?_) ?_
     ·intro v8 h8 v15 h15 K hK
      obtain rfl:=h8
      obtain rfl:=h15
      go_simp
      exact hK _ _ ⟨.bool false,rfl,rfl,Ext.refl _⟩
     refine StepsL.cons (ps:= [(8,some 41),(16,some 49)]) rfl (by kernel_rfl) (fun wi hx=> ?_) StepsL.nil
     ·intro v8 h8 v16 h16 K hK
      obtain rfl:=h8
      obtain rfl:=h16
      go_simp
      exact hK _ _ ⟨.bool false,rfl,rfl,Ext.refl _⟩
    case fin=>
     intro wi hx v0 h0 v1 h1 v2 h2 v3 h3 v4 h4 v5 h5 v6 h6 v7 h7 v8 h8 v9 h9 v10 h10 v11 h11 v12 h12 v13 h13 v14 h14 v15 h15 v16 h16 v17 h17
     obtain rfl:=h0
     obtain rfl:=h1
     obtain rfl:=h2
     obtain rfl:=h3
     obtain rfl:=h4
     obtain rfl:=h5
     obtain rfl:=h6
     obtain rfl:=h7
     obtain rfl:=h8
     obtain rfl:=h9
     obtain rfl:=h10
     obtain rfl:=h11
     obtain rfl:=h12
     obtain rfl:=h13
     obtain rfl:=h14
     obtain rfl:=h15
     obtain rfl:=h16
     obtain rfl:=h17
     refine wpAny_done (by kernel_rfl) ?_ _
     try simp only[Act.put,List.setIfInBounds_toArray,List.set_cons_zero,List.set_cons_succ]
     have hX:Ext wr wi:=by(repeat' (first|exact Ext.refl _|(with_reducible assumption)|(with_reducible refine Ext.alloc ?_ _)|(with_reducible refine Ext.setCell ?_ (by first|exact Nat.le_refl _|(dsimp only;omega)|(simp;done)|(simp;omega)) _)|(with_reducible refine Ext.drew ?_)|(with_reducible refine Ext.drewN ?_ _)|(refine Ext.trans ?_ (by with_reducible assumption))))
     go_wp2
     go_roundw
     case rel=>exact⟨k+1,by omega,by go_num,M5.out.adv hX⟩
     case measure=>simp[intOf];omega
   ·skip
    have lt5_2:w1.heap.size<wr.heap.size:=(M5.out.lt (i:=2) rfl rfl).2
    obtain rfl:k=O.length:=by omega
    clear hlt hk
    have t0:decide ((O.length:Int)<(O.length:Int))=false:=by simp
    have HSo:=Lib.hid (M5.out.sl (i:=1) rfl)
    have hcl:(hallOk h.wide h.deep h.cells)=true:=house_hall l1
    have HFr:=Lib.hid fun(w':World) (hx':Ext wr w')=>implHf h.wide h.deep p _ cap h.cells w' (HI.out.cells.ext (M5.out.ext.trans hx'))
    unfold RetInts at HFr
    rw[if_pos hcl]at HFr
    obtain⟨F,hF⟩: ∃f,freeL h.cells=f:=⟨_,rfl⟩
    rw[hF]at HFr HF5
    clear hF hcl
    obtain⟨ce0,ce1,ce2,ce3,ce4,ce5,ce6,ce7,ce8,ce9⟩:=(M5.out.blk (i:=2) rfl).ten
    have B0:=Lib.hid (M5.out.blk (i:=2) rfl)
    go_wp2
    have e1:((O.length:Int)==(h.vs.length:Int))=true:=by have:=HL2.out;simp;omega
    by_cases hF0:F= []
    clear ce0 ce1 ce2 ce3 ce4 ce5 ce6 ce7 ce8 ce9
    ·skip
     subst hF0
     obtain⟨x,r,hO,hz⟩:=HF5.out rfl
     have HFi:=Lib.hid fun(w':World) (hx':Ext wr w')=>implHfind h.wide h.deep x p _ cap h.cells w' (HI.out.cells.ext (M5.out.ext.trans hx'))
     rw[hz]at HFi
     have hol:0<O.length:=by rw[hO];simp
     have hO0:O[0]? =some x:=by rw[hO];rfl
     obtain⟨bb,off,x',rfl,hx,hb,hcell⟩:=HSo.out.int_at hol
     obtain rfl:x=x':=by rw[hO0]at hx;injection hx
     clear hO hz hO0 hx
     have e2:decide ((0:Int)<(O.length:Int))=true:=by simp;omega
     have e3:decide (0<O.length)=true:=by simp;omega
     have i2:(0:Int)<(O.length:Int):=by omega
     refine region_lin (gl [gEq (.slice (some ⟨bb,off,none⟩) O.length co),gEq (.int .i64 (O.length:Int)),gEq (.pointer (some ⟨w1.heap.size,9,none⟩)),gEq (.slice q h.vs.length c2),gEq (.int .i64 (h.vs.length:Int)),gEq (.bool true),gEq (.bool true),gEq (.pointer (some ⟨w1.heap.size,0,none⟩)),gEq (.agg #[.int .i64 h.wide,.int .i64 h.deep,.slice p h.cells.length cap]),(fun v _=> ∃(p':Option Addr) (c':Nat),v= .slice p' 0 c'),gEq (.int .i64 (0:Int)),gEq (.bool false),gEq (.bool false),gEq (.slice (some ⟨bb,off,none⟩) O.length co),gEq (.int .i64 (O.length:Int)),gEq (.bool true),gEq (.bool true),gEq (.pointer (some ⟨w1.heap.size,0,none⟩)),gEq (.agg #[.int .i64 h.wide,.int .i64 h.deep,.slice p h.cells.length cap]),gEq (.slice (some ⟨bb,off,none⟩) O.length co),gEq (.pointer (some ⟨bb,off,none⟩)),gEq (.int .i64 x),gEq (.int .i64 0),gEq (.bool true),gEq (.bool true),gEq (.bool true),gEq (.bool true),gEq (.bool true)]) 28 (by kernel_rfl) rfl (by kernel_rfl) (by kernel_rfl) (by kernel_rfl) (gl_mono (gl_cons (gEq_mono _) (gl_cons (gEq_mono _) (gl_cons (gEq_mono _) (gl_cons (gEq_mono _) (gl_cons (gEq_mono _) (gl_cons (gEq_mono _) (gl_cons (gEq_mono _) (gl_cons (gEq_mono _) (gl_cons (gEq_mono _) (gl_cons (fun _ _ _ h _=>h) (gl_cons (gEq_mono _) (gl_cons (gEq_mono _) (gl_cons (gEq_mono _) (gl_cons (gEq_mono _) (gl_cons (gEq_mono _) (gl_cons (gEq_mono _) (gl_cons (gEq_mono _) (gl_cons (gEq_mono _) (gl_cons (gEq_mono _) (gl_cons (gEq_mono _) (gl_cons (gEq_mono _) (gl_cons (gEq_mono _) (gl_cons (gEq_mono _) (gl_cons (gEq_mono _) (gl_cons (gEq_mono _) (gl_cons (gEq_mono _) (gl_cons (gEq_mono _) (gl_cons (gEq_mono _) (gl_nil)))))))))))))))))))))))))))))) (k:=28) (by kernel_rfl) (by decide) (ls:= [(0,some 51),(1,some 52),(2,some 53),(3,some 54),(4,some 55),(5,some 56),(6,some 57),(7,some 58),(8,some 59),(9,some 60),(10,some 61),(11,some 62),(12,some 63),(13,some 64),(14,some 65),(15,some 66),(16,some 67),(17,some 68),(18,some 69),(19,some 70),(20,some 71),(21,some 72),(22,some 73),(23,some 74),(24,some 75),(25,some 76),(26,some 77),(27,some 2)]) (by kernel_rfl) (ir:= [0,1,2,3,4,5,6,7,8,9,10,11,12,13,14,15,16,17,18,19,20,21,22,23,24,25,26,27]) (by kernel_rfl) ?steps (tl:=#[true,true,true,true,true,true,true,true,true,true,true,true,true,true,true,true,true,true,true,true,true,true,true,true,true,true,true,true]) (by kernel_rfl) ?fin
     case steps=>
      refine StepsL.cons (ps:= []) rfl (by kernel_rfl) (fun wi hx=> ?_) ?_
      ·intro K hK
       go_simp
       exact hK _ _ ⟨.slice (some ⟨bb,off,none⟩) O.length co,rfl,rfl,Ext.refl _⟩
      refine StepsL.cons (ps:= [(0,some 51)]) rfl (by kernel_rfl) (fun wi hx=> ?_) ?_
      ·intro v0 h0 K hK
       obtain rfl:=h0
       go_simp
       exact hK _ _ ⟨.int .i64 (O.length:Int),rfl,rfl,Ext.refl _⟩
      refine StepsL.cons (ps:= []) rfl (by kernel_rfl) (fun wi hx=> ?_) ?_
      ·intro K hK
       go_simp
       exact hK _ _ ⟨.pointer (some ⟨w1.heap.size,9,none⟩),rfl,rfl,Ext.refl _⟩
      refine StepsL.cons (ps:= [(2,some 53)]) rfl (by kernel_rfl) (fun wi hx=> ?_) ?_
      ·intro v2 h2 K hK
       obtain rfl:=h2
       have hX:Ext wr wi:=by(repeat' (first|exact Ext.refl _|(with_reducible assumption)|(with_reducible refine Ext.alloc ?_ _)|(with_reducible refine Ext.setCell ?_ (by first|exact Nat.le_refl _|(dsimp only;omega)|(simp;done)|(simp;omega)) _)|(with_reducible refine Ext.drew ?_)|(with_reducible refine Ext.drewN ?_ _)|(refine Ext.trans ?_ (by with_reducible assumption))))
       have cl9:wi.cell? ⟨w1.heap.size,9,none⟩=some (.slice q h.vs.length c2):=(B0.out.ext hX).cell 9
       go_simp
       exact hK _ _ ⟨.slice q h.vs.length c2,rfl,rfl,Ext.refl _⟩
      refine StepsL.cons (ps:= [(3,some 54)]) rfl (by kernel_rfl) (fun wi hx=> ?_) ?_
      ·intro v3 h3 K hK
       obtain rfl:=h3
       go_simp
       exact hK _ _ ⟨.int .i64 (h.vs.length:Int),rfl,rfl,Ext.refl _⟩
      refine StepsL.cons (ps:= [(1,some 52),(4,some 55)]) rfl (by kernel_rfl) (fun wi hx=> ?_) ?_
      ·intro v1 h1 v4 h4 K hK
       obtain rfl:=h1
       obtain rfl:=h4
       go_simp
       exact hK _ _ ⟨.bool true,rfl,rfl,Ext.refl _⟩
      refine StepsL.cons (ps:= [(5,some 56)]) rfl (by kernel_rfl) (fun wi hx=> ?_) ?_
      ·intro v5 h5 K hK
       obtain rfl:=h5
       go_simp
       exact hK _ _ ⟨.bool true,rfl,rfl,Ext.refl _⟩
      refine StepsL.cons (ps:= [(6,some 57)]) rfl (by kernel_rfl) (fun wi hx=> ?_) ?_
      ·intro v6 h6 K hK
       obtain rfl:=h6
       go_simp
       exact hK _ _ ⟨.pointer (some ⟨w1.heap.size,0,none⟩),rfl,rfl,Ext.refl _⟩
      refine StepsL.cons (ps:= [(6,some 57),(7,some 58)]) rfl (by kernel_rfl) (fun wi hx=> ?_) ?_
      ·intro v6 h6 v7 h7 K hK
       obtain rfl:=h6
       obtain rfl:=h7
       have hX:Ext wr wi:=by(repeat' (first|exact Ext.refl _|(with_reducible assumption)|(with_reducible refine Ext.alloc ?_ _)|(with_reducible refine Ext.setCell ?_ (by first|exact Nat.le_refl _|(dsimp only;omega)|(simp;done)|(simp;omega)) _)|(with_reducible refine Ext.drew ?_)|(with_reducible refine Ext.drewN ?_ _)|(refine Ext.trans ?_ (by with_reducible assumption))))
       have cl0:wi.cell? ⟨w1.heap.size,0,none⟩=some (.int .i64 h.wide):=(B0.out.ext hX).cell 0
       have cl1:wi.cell? ⟨w1.heap.size,1,none⟩=some (.int .i64 h.deep):=(B0.out.ext hX).cell 1
       have cl2:wi.cell? ⟨w1.heap.size,2,none⟩=some (.slice p h.cells.length cap):=(B0.out.ext hX).cell 2
       go_simp
       exact hK _ _ ⟨.agg #[.int .i64 h.wide,.int .i64 h.deep,.slice p h.cells.length cap],rfl,rfl,Ext.refl _⟩
      refine StepsL.cons (ps:= [(6,some 57),(8,some 59)]) rfl (by kernel_rfl) (fun wi hx=> ?_) ?_
      ·intro v6 h6 v8 h8 K hK
       obtain rfl:=h6
       obtain rfl:=h8
       go_wp2_with fail
       refine(HFr.out _ (by(repeat' (first|exact Ext.refl _|(with_reducible assumption)|(with_reducible refine Ext.alloc ?_ _)|(with_reducible refine Ext.setCell ?_ (by first|exact Nat.le_refl _|(dsimp only;omega)|(simp;done)|(simp;omega)) _)|(with_reducible refine Ext.drew ?_)|(with_reducible refine Ext.drewN ?_ _)|(refine Ext.trans ?_ (by with_reducible assumption)))))).mono ?_
       rintro e w5 ⟨p',c',rfl,_,hx5⟩
       go_simp
       exact hK _ _ ⟨_,rfl,⟨p',c',rfl⟩,hx5⟩
      refine StepsL.cons (ps:= [(6,some 57),(9,some 60)]) rfl (by kernel_rfl) (fun wi hx=> ?_) ?_
      ·intro v6 h6 v9 h9 K hK
       obtain rfl:=h6
       obtain⟨p9,c9,rfl⟩:=h9
       go_simp
       exact hK _ _ ⟨.int .i64 (0:Int),rfl,rfl,Ext.refl _⟩
      refine StepsL.cons (ps:= [(6,some 57),(10,some 61)]) rfl (by kernel_rfl) (fun wi hx=> ?_) ?_
      ·intro v6 h6 v10 h10 K hK
       obtain rfl:=h6
       obtain rfl:=h10
       go_simp
       exact hK _ _ ⟨.bool false,rfl,rfl,Ext.refl _⟩
      refine StepsL.cons (ps:= [(6,some 57),(11,some 62)]) rfl (by kernel_rfl) (fun wi hx=> ?_) ?_
      ·intro v6 h6 v11 h11 K hK
       obtain rfl:=h6
       obtain rfl:=h11
       go_simp
       exact hK _ _ ⟨.bool false,rfl,rfl,Ext.refl _⟩
      refine StepsL.cons (ps:= [(12,some 63)]) rfl (by kernel_rfl) (fun wi hx=> ?_) ?_
      ·intro v12 h12 K hK
       obtain rfl:=h12
       go_simp
       exact hK _ _ ⟨.slice (some ⟨bb,off,none⟩) O.length co,rfl,rfl,Ext.refl _⟩
      refine StepsL.cons (ps:= [(12,some 63),(13,some 64)]) rfl (by kernel_rfl) (fun wi hx=> ?_) ?_
      ·intro v12 h12 v13 h13 K hK
       obtain rfl:=h12
       obtain rfl:=h13
       go_simp
       exact hK _ _ ⟨.int .i64 (O.length:Int),rfl,rfl,Ext.refl _⟩
      refine StepsL.cons (ps:= [(12,some 63),(14,some 65)]) rfl (by kernel_rfl) (fun wi hx=> ?_) ?_
      ·intro v12 h12 v14 h14 K hK
       obtain rfl:=h12
       obtain rfl:=h14
       go_simp
       exact hK _ _ ⟨.bool true,rfl,rfl,Ext.refl _⟩
      refine StepsL.cons (ps:= [(12,some 63),(15,some 66)]) rfl (by kernel_rfl) (fun wi hx=> ?_) ?_
      ·intro v12 h12 v15 h15 K hK
       obtain rfl:=h12
       obtain rfl:=h15
       go_simp
       exact hK _ _ ⟨.bool true,rfl,rfl,Ext.refl _⟩
      refine StepsL.cons (ps:= [(16,some 67)]) rfl (by kernel_rfl) (fun wi hx=> ?_) ?_
      ·intro v16 h16 K hK
       obtain rfl:=h16
       go_simp
       exact hK _ _ ⟨.pointer (some ⟨w1.heap.size,0,none⟩),rfl,rfl,Ext.refl _⟩
      refine StepsL.cons (ps:= [(16,some 67),(17,some 68)]) rfl (by kernel_rfl) (fun wi hx=> ?_) ?_
      ·intro v16 h16 v17 h17 K hK
       obtain rfl:=h16
       obtain rfl:=h17
       have hX:Ext wr wi:=by(repeat' (first|exact Ext.refl _|(with_reducible assumption)|(with_reducible refine Ext.alloc ?_ _)|(with_reducible refine Ext.setCell ?_ (by first|exact Nat.le_refl _|(dsimp only;omega)|(simp;done)|(simp;omega)) _)|(with_reducible refine Ext.drew ?_)|(with_reducible refine Ext.drewN ?_ _)|(refine Ext.trans ?_ (by with_reducible assumption))))
       have cl0:wi.cell? ⟨w1.heap.size,0,none⟩=some (.int .i64 h.wide):=(B0.out.ext hX).cell 0
       have cl1:wi.cell? ⟨w1.heap.size,1,none⟩=some (.int .i64 h.deep):=(B0.out.ext hX).cell 1
       have cl2:wi.cell? ⟨w1.heap.size,2,none⟩=some (.slice p h.cells.length cap):=(B0.out.ext hX).cell 2
       go_simp
       exact hK _ _ ⟨.agg #[.int .i64 h.wide,.int .i64 h.deep,.slice p h.cells.length cap],rfl,rfl,Ext.refl _⟩
      refine StepsL.cons (ps:= [(16,some 67)]) rfl (by kernel_rfl) (fun wi hx=> ?_) ?_
      ·intro v16 h16 K hK
       obtain rfl:=h16
       go_simp
       exact hK _ _ ⟨.slice (some ⟨bb,off,none⟩) O.length co,rfl,rfl,Ext.refl _⟩
      refine StepsL.cons (ps:= [(16,some 67),(19,some 70)]) rfl (by kernel_rfl) (fun wi hx=> ?_) ?_
      ·intro v16 h16 v19 h19 K hK
       obtain rfl:=h16
       obtain rfl:=h19
       go_simp
       exact hK _ _ ⟨.pointer (some ⟨bb,off,none⟩),rfl,rfl,Ext.refl _⟩
      refine StepsL.cons (ps:= [(16,some 67),(20,some 71)]) rfl (by kernel_rfl) (fun wi hx=> ?_) ?_
      ·intro v16 h16 v20 h20 K hK
       obtain rfl:=h16
       obtain rfl:=h20
       have hX:Ext wr wi:=by(repeat' (first|exact Ext.refl _|(with_reducible assumption)|(with_reducible refine Ext.alloc ?_ _)|(with_reducible refine Ext.setCell ?_ (by first|exact Nat.le_refl _|(dsimp only;omega)|(simp;done)|(simp;omega)) _)|(with_reducible refine Ext.drew ?_)|(with_reducible refine Ext.drewN ?_ _)|(refine Ext.trans ?_ (by with_reducible assumption))))
       have cl:wi.cell? ⟨bb,off,none⟩=some (.int .i64 x):=by have:=(hX.cells.1 _ _ hb).trans hcell;simpa using this
       go_simp
       exact hK _ _ ⟨.int .i64 x,rfl,rfl,Ext.refl _⟩
      refine StepsL.cons (ps:= [(16,some 67),(18,some 69),(21,some 72)]) rfl (by kernel_rfl) (fun wi hx=> ?_) ?_
      ·intro v16 h16 v18 h18 v21 h21 K hK
       obtain rfl:=h16
       obtain rfl:=h18
       obtain rfl:=h21
       go_wp2_with fail
       refine(HFi.out _ (by(repeat' (first|exact Ext.refl _|(with_reducible assumption)|(with_reducible refine Ext.alloc ?_ _)|(with_reducible refine Ext.setCell ?_ (by first|exact Nat.le_refl _|(dsimp only;omega)|(simp;done)|(simp;omega)) _)|(with_reducible refine Ext.drew ?_)|(with_reducible refine Ext.drewN ?_ _)|(refine Ext.trans ?_ (by with_reducible assumption)))))).mono ?_
       rintro e w5 ⟨rfl,hx5⟩
       go_simp
       exact hK _ _ ⟨.int .i64 0,rfl,rfl,hx5⟩
      refine StepsL.cons (ps:= [(16,some 67),(22,some 73)]) rfl (by kernel_rfl) (fun wi hx=> ?_) ?_
      ·intro v16 h16 v22 h22 K hK
       obtain rfl:=h16
       obtain rfl:=h22
       go_simp
       exact hK _ _ ⟨.bool true,rfl,rfl,Ext.refl _⟩
      refine StepsL.cons (ps:= [(12,some 63),(16,some 67),(23,some 74)]) rfl (by kernel_rfl) (fun wi hx=> ?_) ?_
      ·intro v12 h12 v16 h16 v23 h23 K hK
       obtain rfl:=h12
       obtain rfl:=h16
       obtain rfl:=h23
       go_simp
       exact hK _ _ ⟨.bool true,rfl,rfl,Ext.refl _⟩
      refine StepsL.cons (ps:= [(6,some 57),(12,some 63),(24,some 75)]) rfl (by kernel_rfl) (fun wi hx=> ?_) ?_
      ·intro v6 h6 v12 h12 v24 h24 K hK
       obtain rfl:=h6
       obtain rfl:=h12
       obtain rfl:=h24
       go_simp
       exact hK _ _ ⟨.bool true,rfl,rfl,Ext.refl _⟩
      refine StepsL.cons (ps:= [(6,some 57),(25,some 76)]) rfl (by kernel_rfl) (fun wi hx=> ?_) ?_
      ·intro v6 h6 v25 h25 K hK
       obtain rfl:=h6
       obtain rfl:=h25
       go_simp
       exact hK _ _ ⟨.bool true,rfl,rfl,Ext.refl _⟩
      refine StepsL.cons (ps:= [(26,some 77)]) rfl (by kernel_rfl) (fun wi hx=> ?_) StepsL.nil
      ·intro v26 h26 K hK
       obtain rfl:=h26
       go_simp
       exact hK _ _ ⟨.bool true,rfl,rfl,Ext.refl _⟩
     case fin=>
      intro wi hx v0 h0 v1 h1 v2 h2 v3 h3 v4 h4 v5 h5 v6 h6 v7 h7 v8 h8 v9 h9 v10 h10 v11 h11 v12 h12 v13 h13 v14 h14 v15 h15 v16 h16 v17 h17 v18 h18 v19 h19 v20 h20 v21 h21 v22 h22 v23 h23 v24 h24 v25 h25 v26 h26 v27 h27
      obtain rfl:=h0
      obtain rfl:=h1
      obtain rfl:=h2
      obtain rfl:=h3
      obtain rfl:=h4
      obtain rfl:=h5
      obtain rfl:=h6
      obtain rfl:=h7
      obtain rfl:=h8
      obtain⟨p9,c9,rfl⟩:=h9
      obtain rfl:=h10
      obtain rfl:=h11
      obtain rfl:=h12
      obtain rfl:=h13
      obtain rfl:=h14
      obtain rfl:=h15
      obtain rfl:=h16
      obtain rfl:=h17
      obtain rfl:=h18
      obtain rfl:=h19
      obtain rfl:=h20
      obtain rfl:=h21
      obtain rfl:=h22
      obtain rfl:=h23
      obtain rfl:=h24
      obtain rfl:=h25
      obtain rfl:=h26
      obtain rfl:=h27
      refine wpAny_done (by kernel_rfl) ?_ _
      try simp only[Act.put,List.setIfInBounds_toArray,List.set_cons_zero,List.set_cons_succ]
      have hX:Ext wr wi:=by(repeat' (first|exact Ext.refl _|(with_reducible assumption)|(with_reducible refine Ext.alloc ?_ _)|(with_reducible refine Ext.setCell ?_ (by first|exact Nat.le_refl _|(dsimp only;omega)|(simp;done)|(simp;omega)) _)|(with_reducible refine Ext.drew ?_)|(with_reducible refine Ext.drewN ?_ _)|(refine Ext.trans ?_ (by with_reducible assumption))))
      have XZ:Ext w wi:=hX1.out.trans (M5.out.ext.trans hX)
      go_wp2
      go_ret
      exact⟨rfl,XZ⟩
    ·skip
     have e4:decide ((0:Int)<(F.length:Int))=true:=by cases F with|nil=>exact absurd rfl hF0|cons _ _=>simp
     have e5:decide (0<F.length)=true:=by cases F with|nil=>exact absurd rfl hF0|cons _ _=>simp
     refine region_lin (gl [gEq (.slice po O.length co),gEq (.int .i64 (O.length:Int)),gEq (.pointer (some ⟨w1.heap.size,9,none⟩)),gEq (.slice q h.vs.length c2),gEq (.int .i64 (h.vs.length:Int)),gEq (.bool true),gEq (.bool true),gEq (.pointer (some ⟨w1.heap.size,0,none⟩)),gEq (.agg #[.int .i64 h.wide,.int .i64 h.deep,.slice p h.cells.length cap]),(fun v _=> ∃(p':Option Addr) (c':Nat),v= .slice p' F.length c'),gEq (.int .i64 (F.length:Int)),gEq (.bool true),gEq (.bool true),gEq (undef),gEq (undef),gEq (undef),gEq (undef),gEq (undef),gEq (undef),gEq (undef),gEq (undef),gEq (undef),gEq (undef),gEq (undef),gEq (undef),gEq (.bool true),gEq (.bool true),gEq (.bool true)]) 28 (by kernel_rfl) rfl (by kernel_rfl) (by kernel_rfl) (by kernel_rfl) (gl_mono (gl_cons (gEq_mono _) (gl_cons (gEq_mono _) (gl_cons (gEq_mono _) (gl_cons (gEq_mono _) (gl_cons (gEq_mono _) (gl_cons (gEq_mono _) (gl_cons (gEq_mono _) (gl_cons (gEq_mono _) (gl_cons (gEq_mono _) (gl_cons (fun _ _ _ h _=>h) (gl_cons (gEq_mono _) (gl_cons (gEq_mono _) (gl_cons (gEq_mono _) (gl_cons (gEq_mono _) (gl_cons (gEq_mono _) (gl_cons (gEq_mono _) (gl_cons (gEq_mono _) (gl_cons (gEq_mono _) (gl_cons (gEq_mono _) (gl_cons (gEq_mono _) (gl_cons (gEq_mono _) (gl_cons (gEq_mono _) (gl_cons (gEq_mono _) (gl_cons (gEq_mono _) (gl_cons (gEq_mono _) (gl_cons (gEq_mono _) (gl_cons (gEq_mono _) (gl_cons (gEq_mono _) (gl_nil)))))))))))))))))))))))))))))) (k:=28) (by kernel_rfl) (by decide) (ls:= [(0,some 51),(1,some 52),(2,some 53),(3,some 54),(4,some 55),(5,some 56),(6,some 57),(7,some 58),(8,some 59),(9,some 60),(10,some 61),(11,some 62),(12,some 63),(13,some 64),(14,some 65),(15,some 66),(16,some 67),(17,some 68),(18,some 69),(19,some 70),(20,some 71),(21,some 72),(22,some 73),(23,some 74),(24,some 75),(25,some 76),(26,some 77),(27,some 2)]) (by kernel_rfl) (ir:= [0,1,2,3,4,5,6,7,8,9,10,11,12,13,14,15,16,17,18,19,20,21,22,23,24,25,26,27]) (by kernel_rfl) ?steps (tl:=#[true,true,true,true,true,true,true,true,true,true,true,true,true,true,true,true,true,true,true,true,true,true,true,true,true,true,true,true]) (by kernel_rfl) ?fin
     case steps=>
      refine StepsL.cons (ps:= []) rfl (by kernel_rfl) (fun wi hx=> ?_) ?_
      ·intro K hK
       go_simp
       exact hK _ _ ⟨.slice po O.length co,rfl,rfl,Ext.refl _⟩
      refine StepsL.cons (ps:= [(0,some 51)]) rfl (by kernel_rfl) (fun wi hx=> ?_) ?_
      ·intro v0 h0 K hK
       obtain rfl:=h0
       go_simp
       exact hK _ _ ⟨.int .i64 (O.length:Int),rfl,rfl,Ext.refl _⟩
      refine StepsL.cons (ps:= []) rfl (by kernel_rfl) (fun wi hx=> ?_) ?_
      ·intro K hK
       go_simp
       exact hK _ _ ⟨.pointer (some ⟨w1.heap.size,9,none⟩),rfl,rfl,Ext.refl _⟩
      refine StepsL.cons (ps:= [(2,some 53)]) rfl (by kernel_rfl) (fun wi hx=> ?_) ?_
      ·intro v2 h2 K hK
       obtain rfl:=h2
       have hX:Ext wr wi:=by(repeat' (first|exact Ext.refl _|(with_reducible assumption)|(with_reducible refine Ext.alloc ?_ _)|(with_reducible refine Ext.setCell ?_ (by first|exact Nat.le_refl _|(dsimp only;omega)|(simp;done)|(simp;omega)) _)|(with_reducible refine Ext.drew ?_)|(with_reducible refine Ext.drewN ?_ _)|(refine Ext.trans ?_ (by with_reducible assumption))))
       have cl9:wi.cell? ⟨w1.heap.size,9,none⟩=some (.slice q h.vs.length c2):=(B0.out.ext hX).cell 9
       go_simp
       exact hK _ _ ⟨.slice q h.vs.length c2,rfl,rfl,Ext.refl _⟩
      refine StepsL.cons (ps:= [(3,some 54)]) rfl (by kernel_rfl) (fun wi hx=> ?_) ?_
      ·intro v3 h3 K hK
       obtain rfl:=h3
       go_simp
       exact hK _ _ ⟨.int .i64 (h.vs.length:Int),rfl,rfl,Ext.refl _⟩
      refine StepsL.cons (ps:= [(1,some 52),(4,some 55)]) rfl (by kernel_rfl) (fun wi hx=> ?_) ?_
      ·intro v1 h1 v4 h4 K hK
       obtain rfl:=h1
       obtain rfl:=h4
       go_simp
       exact hK _ _ ⟨.bool true,rfl,rfl,Ext.refl _⟩
      refine StepsL.cons (ps:= [(5,some 56)]) rfl (by kernel_rfl) (fun wi hx=> ?_) ?_
      ·intro v5 h5 K hK
       obtain rfl:=h5
       go_simp
       exact hK _ _ ⟨.bool true,rfl,rfl,Ext.refl _⟩
      refine StepsL.cons (ps:= [(6,some 57)]) rfl (by kernel_rfl) (fun wi hx=> ?_) ?_
      ·intro v6 h6 K hK
       obtain rfl:=h6
       go_simp
       exact hK _ _ ⟨.pointer (some ⟨w1.heap.size,0,none⟩),rfl,rfl,Ext.refl _⟩
      refine StepsL.cons (ps:= [(6,some 57),(7,some 58)]) rfl (by kernel_rfl) (fun wi hx=> ?_) ?_
      ·intro v6 h6 v7 h7 K hK
       obtain rfl:=h6
       obtain rfl:=h7
       have hX:Ext wr wi:=by(repeat' (first|exact Ext.refl _|(with_reducible assumption)|(with_reducible refine Ext.alloc ?_ _)|(with_reducible refine Ext.setCell ?_ (by first|exact Nat.le_refl _|(dsimp only;omega)|(simp;done)|(simp;omega)) _)|(with_reducible refine Ext.drew ?_)|(with_reducible refine Ext.drewN ?_ _)|(refine Ext.trans ?_ (by with_reducible assumption))))
       have cl0:wi.cell? ⟨w1.heap.size,0,none⟩=some (.int .i64 h.wide):=(B0.out.ext hX).cell 0
       have cl1:wi.cell? ⟨w1.heap.size,1,none⟩=some (.int .i64 h.deep):=(B0.out.ext hX).cell 1
       have cl2:wi.cell? ⟨w1.heap.size,2,none⟩=some (.slice p h.cells.length cap):=(B0.out.ext hX).cell 2
       go_simp
       exact hK _ _ ⟨.agg #[.int .i64 h.wide,.int .i64 h.deep,.slice p h.cells.length cap],rfl,rfl,Ext.refl _⟩
      refine StepsL.cons (ps:= [(6,some 57),(8,some 59)]) rfl (by kernel_rfl) (fun wi hx=> ?_) ?_
      ·intro v6 h6 v8 h8 K hK
       obtain rfl:=h6
       obtain rfl:=h8
       go_wp2_with fail
       refine(HFr.out _ (by(repeat' (first|exact Ext.refl _|(with_reducible assumption)|(with_reducible refine Ext.alloc ?_ _)|(with_reducible refine Ext.setCell ?_ (by first|exact Nat.le_refl _|(dsimp only;omega)|(simp;done)|(simp;omega)) _)|(with_reducible refine Ext.drew ?_)|(with_reducible refine Ext.drewN ?_ _)|(refine Ext.trans ?_ (by with_reducible assumption)))))).mono ?_
       rintro e w5 ⟨p',c',rfl,_,hx5⟩
       go_simp
       exact hK _ _ ⟨_,rfl,⟨p',c',rfl⟩,hx5⟩
      refine StepsL.cons (ps:= [(6,some 57),(9,some 60)]) rfl (by kernel_rfl) (fun wi hx=> ?_) ?_
      ·intro v6 h6 v9 h9 K hK
       obtain rfl:=h6
       obtain⟨p9,c9,rfl⟩:=h9
       go_simp
       exact hK _ _ ⟨.int .i64 (F.length:Int),rfl,rfl,Ext.refl _⟩
      refine StepsL.cons (ps:= [(6,some 57),(10,some 61)]) rfl (by kernel_rfl) (fun wi hx=> ?_) ?_
      ·intro v6 h6 v10 h10 K hK
       obtain rfl:=h6
       obtain rfl:=h10
       go_simp
       exact hK _ _ ⟨.bool true,rfl,rfl,Ext.refl _⟩
      refine StepsL.cons (ps:= [(6,some 57),(11,some 62)]) rfl (by kernel_rfl) (fun wi hx=> ?_) ?_
      ·intro v6 h6 v11 h11 K hK
       obtain rfl:=h6
       obtain rfl:=h11
       go_simp
       exact hK _ _ ⟨.bool true,rfl,rfl,Ext.refl _⟩
      refine StepsL.cons (ps:= [(12,some 63)]) rfl (by kernel_rfl) (fun wi hx=> ?_) ?_
      ·intro v12 h12 K hK
       obtain rfl:=h12
       go_simp
       exact hK _ _ ⟨undef,rfl,rfl,Ext.refl _⟩
      refine StepsL.cons (ps:= [(12,some 63),(13,some 64)]) rfl (by kernel_rfl) (fun wi hx=> ?_) ?_
      ·intro v12 h12 v13 h13 K hK
       obtain rfl:=h12
       obtain rfl:=h13
       go_simp
       exact hK _ _ ⟨undef,rfl,rfl,Ext.refl _⟩
      refine StepsL.cons (ps:= [(12,some 63),(14,some 65)]) rfl (by kernel_rfl) (fun wi hx=> ?_) ?_
      ·intro v12 h12 v14 h14 K hK
       obtain rfl:=h12
       obtain rfl:=h14
       go_simp
       exact hK _ _ ⟨undef,rfl,rfl,Ext.refl _⟩
      refine StepsL.cons (ps:= [(12,some 63),(15,some 66)]) rfl (by kernel_rfl) (fun wi hx=> ?_) ?_
      ·intro v12 h12 v15 h15 K hK
       obtain rfl:=h12
       obtain rfl:=h15
       go_simp
       exact hK _ _ ⟨undef,rfl,rfl,Ext.refl _⟩
      refine StepsL.cons (ps:= [(16,some 67)]) rfl (by kernel_rfl) (fun wi hx=> ?_) ?_
      ·intro v16 h16 K hK
       obtain rfl:=h16
       go_simp
       exact hK _ _ ⟨undef,rfl,rfl,Ext.refl _⟩
      refine StepsL.cons (ps:= [(16,some 67),(17,some 68)]) rfl (by kernel_rfl) (fun wi hx=> ?_) ?_
      ·intro v16 h16 v17 h17 K hK
       obtain rfl:=h16
       obtain rfl:=h17
       go_simp
       exact hK _ _ ⟨undef,rfl,rfl,Ext.refl _⟩
      refine StepsL.cons (ps:= [(16,some 67)]) rfl (by kernel_rfl) (fun wi hx=> ?_) ?_
      ·intro v16 h16 K hK
       obtain rfl:=h16
       go_simp
       exact hK _ _ ⟨undef,rfl,rfl,Ext.refl _⟩
      refine StepsL.cons (ps:= [(16,some 67),(19,some 70)]) rfl (by kernel_rfl) (fun wi hx=> ?_) ?_
      ·intro v16 h16 v19 h19 K hK
       obtain rfl:=h16
       obtain rfl:=h19
       go_simp
       exact hK _ _ ⟨undef,rfl,rfl,Ext.refl _⟩
      refine StepsL.cons (ps:= [(16,some 67),(20,some 71)]) rfl (by kernel_rfl) (fun wi hx=> ?_) ?_
      ·intro v16 h16 v20 h20 K hK
       obtain rfl:=h16
       obtain rfl:=h20
       go_simp
       exact hK _ _ ⟨undef,rfl,rfl,Ext.refl _⟩
      refine StepsL.cons (ps:= [(16,some 67),(18,some 69),(21,some 72)]) rfl (by kernel_rfl) (fun wi hx=> ?_) ?_
      ·intro v16 h16 v18 h18 v21 h21 K hK
       obtain rfl:=h16
       obtain rfl:=h18
       obtain rfl:=h21
       go_simp
       exact hK _ _ ⟨undef,rfl,rfl,Ext.refl _⟩
      refine StepsL.cons (ps:= [(16,some 67),(22,some 73)]) rfl (by kernel_rfl) (fun wi hx=> ?_) ?_
      ·intro v16 h16 v22 h22 K hK
       obtain rfl:=h16
       obtain rfl:=h22
       go_simp
       exact hK _ _ ⟨undef,rfl,rfl,Ext.refl _⟩
      refine StepsL.cons (ps:= [(12,some 63),(16,some 67),(23,some 74)]) rfl (by kernel_rfl) (fun wi hx=> ?_) ?_
      ·intro v12 h12 v16 h16 v23 h23 K hK
       obtain rfl:=h12
       obtain rfl:=h16
       obtain rfl:=h23
       go_simp
       exact hK _ _ ⟨undef,rfl,rfl,Ext.refl _⟩
      refine StepsL.cons (ps:= [(6,some 57),(12,some 63),(24,some 75)]) rfl (by kernel_rfl) (fun wi hx=> ?_) ?_
      ·intro v6 h6 v12 h12 v24 h24 K hK
       obtain rfl:=h6
       obtain rfl:=h12
       obtain rfl:=h24
       go_simp
       exact hK _ _ ⟨.bool true,rfl,rfl,Ext.refl _⟩
      refine StepsL.cons (ps:= [(6,some 57),(25,some 76)]) rfl (by kernel_rfl) (fun wi hx=> ?_) ?_
      ·intro v6 h6 v25 h25 K hK
       obtain rfl:=h6
       obtain rfl:=h25
       go_simp
       exact hK _ _ ⟨.bool true,rfl,rfl,Ext.refl _⟩
      refine StepsL.cons (ps:= [(26,some 77)]) rfl (by kernel_rfl) (fun wi hx=> ?_) StepsL.nil
      ·intro v26 h26 K hK
       obtain rfl:=h26
       go_simp
       exact hK _ _ ⟨.bool true,rfl,rfl,Ext.refl _⟩
     case fin=>
      intro wi hx v0 h0 v1 h1 v2 h2 v3 h3 v4 h4 v5 h5 v6 h6 v7 h7 v8 h8 v9 h9 v10 h10 v11 h11 v12 h12 v13 h13 v14 h14 v15 h15 v16 h16 v17 h17 v18 h18 v19 h19 v20 h20 v21 h21 v22 h22 v23 h23 v24 h24 v25 h25 v26 h26 v27 h27
      obtain rfl:=h0
      obtain rfl:=h1
      obtain rfl:=h2
      obtain rfl:=h3
      obtain rfl:=h4
      obtain rfl:=h5
      obtain rfl:=h6
      obtain rfl:=h7
      obtain rfl:=h8
      obtain⟨p9,c9,rfl⟩:=h9
      obtain rfl:=h10
      obtain rfl:=h11
      obtain rfl:=h12
      obtain rfl:=h13
      obtain rfl:=h14
      obtain rfl:=h15
      obtain rfl:=h16
      obtain rfl:=h17
      obtain rfl:=h18
      obtain rfl:=h19
      obtain rfl:=h20
      obtain rfl:=h21
      obtain rfl:=h22
      obtain rfl:=h23
      obtain rfl:=h24
      obtain rfl:=h25
      obtain rfl:=h26
      obtain rfl:=h27
      refine wpAny_done (by kernel_rfl) ?_ _
      try simp only[Act.put,List.setIfInBounds_toArray,List.set_cons_zero,List.set_cons_succ]
      have hX:Ext wr wi:=by(repeat' (first|exact Ext.refl _|(with_reducible assumption)|(with_reducible refine Ext.alloc ?_ _)|(with_reducible refine Ext.setCell ?_ (by first|exact Nat.le_refl _|(dsimp only;omega)|(simp;done)|(simp;omega)) _)|(with_reducible refine Ext.drew ?_)|(with_reducible refine Ext.drewN ?_ _)|(refine Ext.trans ?_ (by with_reducible assumption))))
      have XZ:Ext w wi:=hX1.out.trans (M5.out.ext.trans hX)
      go_wp2
      go_ret
      exact⟨rfl,XZ⟩
theorem walk_FnEndOrder (W:World)(v:Value)(u:Unit)(hc:Code W v)(hE:Env W):Calls Tryz.prog 7 #[v] W fun e w'=>e= .returned (.bool true)∧Ext W w':=by
 have hD:=drawEndOrder v W hc
 obtain⟨p0,n,cap,bs,rfl,h,hb⟩:=hc
 by_cases hn:(n:Int)≤1048576
 ·exact fnEndOrder_o p0 n cap W hn (Lib.hid hE) hD
 ·exact fnEndOrder_big p0 n cap W (by omega)
end Go.Proofs.YteejdnmmpmcmeaaGreatDoor
