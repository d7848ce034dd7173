/-
  A law's walk or frame (@packed).
-/
import Derived.Test.YteejdnmmpmcmeaaGreatDoorK1
import Derived.Test.YteejdnmmpmcmeaaGreatDoorK3
import Derived.Test.YteejdnmmpmcmeaaGreatDoorK4
import Derived.Test.YteejdnmmpmcmeaaGreatDoorK34
namespace Go.Proofs.YteejdnmmpmcmeaaGreatDoor
open Go.RowKit
set_option linter.unusedVariables false
set_option linter.unusedSimpArgs false
theorem valid_law {h:HouseD}(hok:houseOk h=true):(if hallOk h.wide h.deep h.cells then carsOf h.cells else []).length=h.vs.length∧(∀v∈h.vs,0≤hallFind h.wide h.deep h.cells v.1)∧houseOk {h with vs:=h.vs++ [(99,0,0,0)]}=false:=by
 obtain⟨q1,q2,q3,q4,q5⟩:=(house_iff h).1 hok
 have hl:(carsOf h.cells).length=h.vs.length:=by rw[←q4];simp
 refine⟨by rw[if_pos q1];exact hl,fun v hv=> ?_,?_⟩
 ·rcases find_cars q1 v.1 with h1|h1
  ·exact h1.2
  ·exfalso
   refine h1.1 ?_
   rw[←q4]
   exact List.mem_map.2 ⟨v,hv,rfl⟩
 ·cases hh:houseOk {h with vs:=h.vs++ [(99,0,0,0)]} with
  |false=>rfl
  |true=>
   obtain⟨_,_,_,p4,_⟩:=(house_iff _).1 hh
   have:=congrArg List.length p4
   dsimp only at this
   rw[hl]at this
   simp at this
set_option maxRecDepth 100000 in
set_option maxHeartbeats 8000000 in
theorem fnHouseValid_big (p:Option Addr)(n cap:Nat)(w:World)(h:(1048576:Int)<n):
  Calls Tryz.prog 3 #[.slice p n cap] w fun e w'=>e= .returned (.bool true)∧Ext w w':=by
 go_enter Tryz.func3,Tryz.ntmps3
 go_wp2
 go_ret
 exact⟨rfl,by exact .refl _⟩
set_option maxRecDepth 100000 in
set_option maxHeartbeats 8000000 in
theorem fnHouseValid_o (p0:Option Addr)(n0 cap0:Nat)(w:World)(hn:(n0:Int)≤1048576)(HE:Hid (Env w))
  (HD:Calls Tryz.prog 15 #[.slice p0 n0 cap0] w (DrewHouse w)):
  Calls Tryz.prog 3 #[.slice p0 n0 cap0] w fun e w'=>e= .returned (.bool true)∧Ext w w':=by
 unfold DrewHouse at HD
 have HD:=Lib.hid HD
 have hd0:decide ((1048576:Int)<(n0:Int))=false:=by simp;omega
 have hd1:decide (1048576<n0)=false:=by simp;omega
 go_enter Tryz.func3,Tryz.ntmps3
 go_wp2_with fail
 refine HD.out.mono ?_
 rintro e w1 ⟨h,p,cap,q,c2,rfl,hs1,hs2,hi,hx1⟩
 have HI:=Lib.hid hi
 have hX1:=Lib.hid hx1
 clear hi HD hx1
 have HVi:=Lib.hid fun(w':World) (hx:Ext w1 w')=>implHouse h p _ cap q _ c2 w' (HI.out.ext hx)
 have HVs:=Lib.hid fun(w':World) (hx:Ext w1 w')=>specHouse h p _ cap q _ c2 w' (HI.out.ext hx)
 obtain⟨ok,hok⟩: ∃b,houseOk h=b:=⟨_,rfl⟩
 rw[hok]at HVi HVs
 go_wp2_with fail
 refine(HVi.out _ (((Mem.start w1).blkNew TH10 #[.int .i64 h.wide,.int .i64 h.deep,.slice p h.cells.length cap,.int .i64 h.free,.int .i64 h.step,.int .i64 h.price,.int .i64 h.capp,.int .i64 h.clock,.int .i64 h.bank,.slice q h.vs.length c2] (w1.heap.size) (by simp))).ext).mono ?_
 rintro e w2 ⟨rfl,hx2⟩
 have M2:=Lib.hid ((((Mem.start w1).blkNew TH10 #[.int .i64 h.wide,.int .i64 h.deep,.slice p h.cells.length cap,.int .i64 h.free,.int .i64 h.step,.int .i64 h.price,.int .i64 h.capp,.int .i64 h.clock,.int .i64 h.bank,.slice q h.vs.length c2] (w1.heap.size) (by simp))).adv hx2)
 have lt2_0:w1.heap.size<w2.heap.size:=(M2.out.lt (i:=0) rfl rfl).2
 clear hx2
 clear HVi
 obtain⟨ce0,ce1,ce2,ce3,ce4,ce5,ce6,ce7,ce8,ce9⟩:=(M2.out.blk (i:=0) rfl).ten
 go_wp2_with fail
 clear ce0 ce1 ce2 ce3 ce4 ce5 ce6 ce7 ce8 ce9
 refine(HVs.out _ (M2.out).ext).mono ?_
 rintro e w3 ⟨rfl,hx3⟩
 have M3:=Lib.hid ((M2.out).adv hx3)
 clear M2
 clear lt2_0
 have lt3_0:w1.heap.size<w3.heap.size:=(M3.out.lt (i:=0) rfl rfl).2
 clear hx3
 clear HVs
 cases ok with
 |false=>
  have HZ:=Lib.hid fun(w':World)=>implHouse houseZero none 0 0 none 0 0 w' (houseZero_is w')
  rw[show houseOk houseZero=false from by decide]at HZ
  go_wp2_with fail
  refine(HZ.out _).mono ?_
  rintro e w4 ⟨rfl,hx4⟩
  have M4:=Lib.hid ((M3.out).adv hx4)
  clear M3
  clear lt3_0
  have lt4_0:w1.heap.size<w4.heap.size:=(M4.out.lt (i:=0) rfl rfl).2
  clear hx4
  go_wp2_with fail
  refine(alive_any _ (HE.out.ext (hX1.out.trans (M4.out).ext))).mono ?_
  rintro e wz ⟨rfl,hxz⟩
  have XZ:Ext w wz:=hX1.out.trans ((M4.out).ext.trans hxz)
  go_wp2
  go_ret
  exact⟨rfl,XZ⟩
 |true=>
  obtain⟨v1,v2,v3⟩:=valid_law hok
  have HV1:=Lib.hid v1
  have HV2:=Lib.hid v2
  have HV3:=Lib.hid v3
  clear hok v1 v2 v3
  go_wp2
  go_loopw [5] (fun i wr=> ∃k:Nat,k≤h.vs.length∧i= .int .i64 (k:Int)∧Mem w1 wr [blkI w1.heap.size (w1.heap.size) TH10 #[.int .i64 h.wide,.int .i64 h.deep,.slice p h.cells.length cap,.int .i64 h.free,.int .i64 h.step,.int .i64 h.price,.int .i64 h.capp,.int .i64 h.clock,.int .i64 h.bank,.slice q h.vs.length c2]]) (fun i _=>h.vs.length-(intOf i).toNat)
  case atStart=>exact⟨0,Nat.zero_le _,rfl,M3.out⟩
  case round=>
   clear M3 lt3_0
   obtain⟨k,hk,rfl,hM⟩:=hrel
   have M5:=Lib.hid hM
   clear hM
   by_cases hlt:k<h.vs.length
   ·skip
    have lt5_0:w1.heap.size<wr.heap.size:=(M5.out.lt (i:=0) rfl rfl).2
    obtain⟨bb,off,a0,a1,a2,a3,rfl,hv,hb,g0,g1,g2,g3⟩:=visit_at (HI.out.vs.ext M5.out.ext) hlt
    have hf:=HV2.out _ (List.mem_of_getElem? hv)
    have HFi:=Lib.hid fun(w':World) (hx:Ext wr w')=>implHfind h.wide h.deep a0 p _ cap h.cells w' (HI.out.cells.ext (M5.out.ext.trans hx))
    dsimp only at hf
    obtain⟨fi,hfi⟩: ∃f,hallFind h.wide h.deep h.cells a0=f:=⟨_,rfl⟩
    rw[hfi]at hf HFi
    clear hfi hv g1 g2 g3
    have t0:decide ((k:Int)<(h.vs.length:Int))=true:=by simp;omega
    have t1:decide (k<h.vs.length)=true:=by simp;omega
    have t2:decide (fi<0)=false:=by simp;omega
    have i1:(0:Int)≤(k:Int):=by omega
    have i2:(k:Int)<(h.vs.length:Int):=by omega
    have i3: ¬(h.vs.length≤k):=by omega
    obtain⟨ce0,ce1,ce2,ce3,ce4,ce5,ce6,ce7,ce8,ce9⟩:=(M5.out.blk (i:=0) rfl).ten
    have B0:=Lib.hid (M5.out.blk (i:=0) rfl)
    go_wp2
    clear ce0 ce1 ce2 ce3 ce4 ce5 ce6 ce7 ce8 ce9
    refine region_lin (gl [gEq (.pointer (some ⟨w1.heap.size,0,none⟩)),gEq (.agg #[.int .i64 h.wide,.int .i64 h.deep,.slice p h.cells.length cap]),gEq (.pointer (some ⟨w1.heap.size,9,none⟩)),gEq (.slice (some ⟨bb,off,none⟩) h.vs.length c2),gEq (.int .i64 (k:Int)),gEq (.pointer (some ⟨bb,off+k*4,none⟩)),gEq (.pointer (some ⟨bb,off+k*4,none⟩)),gEq (.int .i64 a0),gEq (.int .i64 fi),gEq (.bool false)]) 10 (by kernel_rfl) rfl (by kernel_rfl) (by kernel_rfl) (by kernel_rfl) (gl_mono (gl_cons (gEq_mono _) (gl_cons (gEq_mono _) (gl_cons (gEq_mono _) (gl_cons (gEq_mono _) (gl_cons (gEq_mono _) (gl_cons (gEq_mono _) (gl_cons (gEq_mono _) (gl_cons (gEq_mono _) (gl_cons (gEq_mono _) (gl_cons (gEq_mono _) (gl_nil)))))))))))) (k:=10) (by kernel_rfl) (by decide) (ls:= [(0,some 33),(1,some 34),(2,some 35),(3,some 36),(4,some 37),(5,some 38),(6,some 39),(7,some 40),(8,some 41),(9,some 42)]) (by kernel_rfl) (ir:= [0,1,2,3,4,5,6,7,8,9]) (by kernel_rfl) ?steps (tl:=#[true,true,true,true,true,true,true,true,true,true]) (by kernel_rfl) ?fin
    case steps=>
     refine StepsL.cons (ps:= []) rfl (by kernel_rfl) (fun wi hx=> ?_) ?_
     ·intro K hK
      go_simp
      exact hK _ _ ⟨.pointer (some ⟨w1.heap.size,0,none⟩),rfl,rfl,Ext.refl _⟩
     refine StepsL.cons (ps:= [(0,some 33)]) rfl (by kernel_rfl) (fun wi hx=> ?_) ?_
     ·intro v0 h0 K hK
      obtain rfl:=h0
      have hX:Ext wr wi:=by exact .trans (.drew (.refl _)) hx
      have cl0:wi.cell? ⟨w1.heap.size,0,none⟩=some (.int .i64 h.wide):=(B0.out.ext hX).cell 0
      have cl1:wi.cell? ⟨w1.heap.size,1,none⟩=some (.int .i64 h.deep):=(B0.out.ext hX).cell 1
      have cl2:wi.cell? ⟨w1.heap.size,2,none⟩=some (.slice p h.cells.length cap):=(B0.out.ext hX).cell 2
      go_simp
      exact hK _ _ ⟨.agg #[.int .i64 h.wide,.int .i64 h.deep,.slice p h.cells.length cap],rfl,rfl,Ext.refl _⟩
     refine StepsL.cons (ps:= []) rfl (by kernel_rfl) (fun wi hx=> ?_) ?_
     ·intro K hK
      go_simp
      exact hK _ _ ⟨.pointer (some ⟨w1.heap.size,9,none⟩),rfl,rfl,Ext.refl _⟩
     refine StepsL.cons (ps:= [(2,some 35)]) rfl (by kernel_rfl) (fun wi hx=> ?_) ?_
     ·intro v2 h2 K hK
      obtain rfl:=h2
      have hX:Ext wr wi:=by exact .trans (.drew (.refl _)) hx
      have cl9:wi.cell? ⟨w1.heap.size,9,none⟩=some (.slice (some ⟨bb,off,none⟩) h.vs.length c2):=(B0.out.ext hX).cell 9
      go_simp
      exact hK _ _ ⟨.slice (some ⟨bb,off,none⟩) h.vs.length c2,rfl,rfl,Ext.refl _⟩
     refine StepsL.cons (ps:= []) rfl (by kernel_rfl) (fun wi hx=> ?_) ?_
     ·intro K hK
      go_simp
      exact hK _ _ ⟨.int .i64 (k:Int),rfl,rfl,Ext.refl _⟩
     refine StepsL.cons (ps:= [(3,some 36),(4,some 37)]) rfl (by kernel_rfl) (fun wi hx=> ?_) ?_
     ·intro v3 h3 v4 h4 K hK
      obtain rfl:=h3
      obtain rfl:=h4
      go_simp
      exact hK _ _ ⟨.pointer (some ⟨bb,off+k*4,none⟩),rfl,rfl,Ext.refl _⟩
     refine StepsL.cons (ps:= [(5,some 38)]) rfl (by kernel_rfl) (fun wi hx=> ?_) ?_
     ·intro v5 h5 K hK
      obtain rfl:=h5
      go_simp
      exact hK _ _ ⟨.pointer (some ⟨bb,off+k*4,none⟩),rfl,rfl,Ext.refl _⟩
     refine StepsL.cons (ps:= [(6,some 39)]) rfl (by kernel_rfl) (fun wi hx=> ?_) ?_
     ·intro v6 h6 K hK
      obtain rfl:=h6
      have hX:Ext wr wi:=by exact .trans (.drew (.refl _)) hx
      have cl:=(hX.cells.1 _ _ hb).trans g0
      go_simp
      exact hK _ _ ⟨.int .i64 a0,rfl,rfl,Ext.refl _⟩
     refine StepsL.cons (ps:= [(1,some 34),(7,some 40)]) rfl (by kernel_rfl) (fun wi hx=> ?_) ?_
     ·intro v1 h1 v7 h7 K hK
      obtain rfl:=h1
      obtain rfl:=h7
      go_wp2_with fail
      refine(HFi.out _ (by exact .trans (.drew (.refl _)) hx)).mono ?_
      rintro e w5 ⟨rfl,hx5⟩
      go_simp
      exact hK _ _ ⟨.int .i64 fi,rfl,rfl,hx5⟩
     refine StepsL.cons (ps:= [(8,some 41)]) rfl (by kernel_rfl) (fun wi hx=> ?_) StepsL.nil
     ·intro v8 h8 K hK
      obtain rfl:=h8
      go_simp
      exact hK _ _ ⟨.bool false,rfl,rfl,Ext.refl _⟩
    case fin=>
     intro wi hx v0 h0 v1 h1 v2 h2 v3 h3 v4 h4 v5 h5 v6 h6 v7 h7 v8 h8 v9 h9
     obtain rfl:=h0
     obtain rfl:=h1
     obtain rfl:=h2
     obtain rfl:=h3
     obtain rfl:=h4
     obtain rfl:=h5
     obtain rfl:=h6
     obtain rfl:=h7
     obtain rfl:=h8
     obtain rfl:=h9
     refine wpAny_done (by kernel_rfl) ?_ _
     try simp only[Act.put,List.setIfInBounds_toArray,List.set_cons_zero,List.set_cons_succ]
     have hX:Ext wr wi:=by exact .trans (.drew (.refl _)) hx
     go_wp2
     go_roundw
     case rel=>exact⟨k+1,by omega,by go_num,M5.out.adv hX⟩
     case measure=>simp[intOf];omega
   ·skip
    have lt5_0:w1.heap.size<wr.heap.size:=(M5.out.lt (i:=0) rfl rfl).2
    obtain rfl:k=h.vs.length:=by omega
    clear hlt hk
    have t0:decide ((h.vs.length:Int)<(h.vs.length:Int))=false:=by simp
    have l0:=lt5_0
    obtain⟨ce0,ce1,ce2,ce3,ce4,ce5,ce6,ce7,ce8,ce9⟩:=(M5.out.blk (i:=0) rfl).ten
    go_upto_region 15 with fail
    have hXa:Ext wr (wr.alloc (.cells #[.int .i64 h.wide,.int .i64 h.deep,.slice p h.cells.length cap,.int .i64 h.free,.int .i64 h.step,.int .i64 h.price,.int .i64 h.capp,.int .i64 h.clock,.int .i64 h.bank,.slice q h.vs.length c2] TH10)):=by exact .alloc (.refl _) _
    have M6:=Lib.hid (((M5.out).blkNew TH10 #[.int .i64 h.wide,.int .i64 h.deep,.slice p h.cells.length cap,.int .i64 h.free,.int .i64 h.step,.int .i64 h.price,.int .i64 h.capp,.int .i64 h.clock,.int .i64 h.bank,.slice q h.vs.length c2] (wr.heap.size) (by simp)))
    generalize (wr.alloc (.cells #[.int .i64 h.wide,.int .i64 h.deep,.slice p h.cells.length cap,.int .i64 h.free,.int .i64 h.step,.int .i64 h.price,.int .i64 h.capp,.int .i64 h.clock,.int .i64 h.bank,.slice q h.vs.length c2] TH10))=w6 at M6 hXa⊢
    clear M5
    clear ce0 ce1 ce2 ce3 ce4 ce5 ce6 ce7 ce8 ce9 lt5_0
    obtain⟨HC,hHC⟩: ∃a,a=wr.heap.size:=⟨_,rfl⟩
    have l1:w1.heap.size<wr.heap.size:=l0
    rw[←hHC]at M6 l1⊢
    clear hHC l0
    have lt6_0:HC<w6.heap.size:=(M6.out.lt (i:=0) rfl rfl).2
    have lt6_1:w1.heap.size<w6.heap.size:=(M6.out.lt (i:=1) rfl rfl).2
    have ce9:w6.cell? ⟨w1.heap.size,9,none⟩=some (.slice q h.vs.length c2):=(M6.out.blk (i:=1) rfl).cell 9
    have de9:w6.cell? ⟨HC,9,none⟩=some (.slice q h.vs.length c2):=(M6.out.blk (i:=0) rfl).cell 9
    have def9:w6.frozen? ⟨HC,9,none⟩=false:=(M6.out.blk (i:=0) rfl).frozen 9
    go_upto_region 16 with(at_builtin;first
     |(refine wpList_appM elV4 rfl _ _ rfl (M6.out.made0 TV 4 w6.heap.size (by simp)) 0 rfl rfl (h.vs.flatMap visitCells) rfl (HI.out.vs.ext ((M6.out.made0 TV 4 w6.heap.size (by simp)).ext)) (visits_one _) (by omega) ?_;intro q7 c7 w7 M7X;have M7:=Lib.hid (show Mem w1 w7 [ownI w1.heap.size TV 4 (q7) (h.vs.length) (c7) (h.vs.flatMap visitCells),blkI w1.heap.size (HC) TH10 #[.int .i64 h.wide,.int .i64 h.deep,.slice p h.cells.length cap,.int .i64 h.free,.int .i64 h.step,.int .i64 h.price,.int .i64 h.capp,.int .i64 h.clock,.int .i64 h.bank,.slice q h.vs.length c2],blkI w1.heap.size (w1.heap.size) TH10 #[.int .i64 h.wide,.int .i64 h.deep,.slice p h.cells.length cap,.int .i64 h.free,.int .i64 h.step,.int .i64 h.price,.int .i64 h.capp,.int .i64 h.clock,.int .i64 h.bank,.slice q h.vs.length c2]]from by simpa only[List.set_cons_zero,Nat.zero_add,List.nil_append]using M7X);clear M7X)
     |(refine wpList_appM elV4 rfl _ _ rfl (M7.out.adv ((Ext.refl _).alloc (.cells #[.int .i64 99,.int .i64 0,.int .i64 0,.int .i64 0] TV))) 0 rfl rfl (visitCells (99,0,0,0)) rfl (sl_lit _ _ _ 1 4 _ (by first|rfl|simp) (by first|rfl|simp) (by simp[maxLen])) (visit_one _) (by omega) ?_;intro q9 c9 w9 M9X;have M9:=Lib.hid (show Mem w1 w9 [ownI w1.heap.size TV 4 (q9) (h.vs.length+1) (c9) (h.vs.flatMap visitCells++visitCells (99,0,0,0)),blkI w1.heap.size (HC) TH10 #[.int .i64 h.wide,.int .i64 h.deep,.slice p h.cells.length cap,.int .i64 h.free,.int .i64 h.step,.int .i64 h.price,.int .i64 h.capp,.int .i64 h.clock,.int .i64 h.bank,.slice q h.vs.length c2],blkI w1.heap.size (w1.heap.size) TH10 #[.int .i64 h.wide,.int .i64 h.deep,.slice p h.cells.length cap,.int .i64 h.free,.int .i64 h.step,.int .i64 h.price,.int .i64 h.capp,.int .i64 h.clock,.int .i64 h.bank,.slice q h.vs.length c2]]from M9X);clear M9X;have lC:HC<w9.heap.size:=(M9.out.lt (i:=1) rfl rfl).2;have ge9:w9.cell? ⟨HC,9,none⟩=some (.slice q h.vs.length c2):=(M9.out.blk (i:=1) rfl).cell 9;have gef9:w9.frozen? ⟨HC,9,none⟩=false:=(M9.out.blk (i:=1) rfl).frozen 9))
    clear ce9 de9 def9 lt6_0 lt6_1
    have M10:=Lib.hid (show Mem w1 (w9.setCell ⟨HC,9,none⟩ (.slice q9 (h.vs.length+1) c9)) [ownI w1.heap.size TV 4 (q9) (h.vs.length+1) (c9) (h.vs.flatMap visitCells++visitCells (99,0,0,0)),blkI w1.heap.size (HC) TH10 #[.int .i64 h.wide,.int .i64 h.deep,.slice p h.cells.length cap,.int .i64 h.free,.int .i64 h.step,.int .i64 h.price,.int .i64 h.capp,.int .i64 h.clock,.int .i64 h.bank,.slice q9 (h.vs.length+1) c9],blkI w1.heap.size (w1.heap.size) TH10 #[.int .i64 h.wide,.int .i64 h.deep,.slice p h.cells.length cap,.int .i64 h.free,.int .i64 h.step,.int .i64 h.price,.int .i64 h.capp,.int .i64 h.clock,.int .i64 h.bank,.slice q h.vs.length c2]]from((M9.out).store (i:=1) rfl 9 (.slice q9 (h.vs.length+1) c9)))
    generalize hwz:World.setCell _ _ _=w10
    rw[hwz]at M10
    clear hwz M9 M7 M6 lC
    have lt10_1:HC<w10.heap.size:=(M10.out.lt (i:=1) rfl rfl).2
    have lt10_2:w1.heap.size<w10.heap.size:=(M10.out.lt (i:=2) rfl rfl).2
    have B0:=Lib.hid (M10.out.blk (i:=2) rfl)
    have BC:=Lib.hid (M10.out.blk (i:=1) rfl)
    have HCa:=Lib.hid fun(w':World) (hx:Ext w10 w')=>implHc h.wide h.deep p _ cap h.cells w' (HI.out.cells.ext (M10.out.ext.trans hx))
    unfold RetInts at HCa
    rw[HV1.out]at HCa
    have HVm:=Lib.hid fun(w':World) (hx:Ext w10 w')=>implHouse {h with vs:=h.vs++ [(99,0,0,0)]} p h.cells.length cap q9 (h.vs.length+1) c9 w' ⟨HI.out.cells.ext (M10.out.ext.trans hx),by have:=(M10.out.sl (i:=0) rfl).ext hx;simpa using this⟩
    rw[HV3.out]at HVm
    go_wp2
    refine region_lin (gl [gEq (.pointer (some ⟨w1.heap.size,9,none⟩)),gEq (.slice q h.vs.length c2),gEq (.int .i64 (h.vs.length:Int)),gEq (.pointer (some ⟨w1.heap.size,0,none⟩)),gEq (.agg #[.int .i64 h.wide,.int .i64 h.deep,.slice p h.cells.length cap]),(fun v _=> ∃(p':Option Addr) (c':Nat),v= .slice p' h.vs.length c'),gEq (.int .i64 (h.vs.length:Int)),gEq (.bool true),gEq (.bool true),gEq (.agg #[.int .i64 h.wide,.int .i64 h.deep,.slice p h.cells.length cap,.int .i64 h.free,.int .i64 h.step,.int .i64 h.price,.int .i64 h.capp,.int .i64 h.clock,.int .i64 h.bank,.slice q9 (h.vs.length+1) c9]),gEq (.bool false),gEq (.bool true),gEq (.bool true),gEq (.bool true)]) 14 (by kernel_rfl) rfl (by kernel_rfl) (by kernel_rfl) (by kernel_rfl) (gl_mono (gl_cons (gEq_mono _) (gl_cons (gEq_mono _) (gl_cons (gEq_mono _) (gl_cons (gEq_mono _) (gl_cons (gEq_mono _) (gl_cons (fun _ _ _ h _=>h) (gl_cons (gEq_mono _) (gl_cons (gEq_mono _) (gl_cons (gEq_mono _) (gl_cons (gEq_mono _) (gl_cons (gEq_mono _) (gl_cons (gEq_mono _) (gl_cons (gEq_mono _) (gl_cons (gEq_mono _) (gl_nil)))))))))))))))) (k:=14) (by kernel_rfl) (by decide) (ls:= [(0,some 52),(1,some 53),(2,some 54),(3,some 55),(4,some 56),(5,some 57),(6,some 58),(7,some 59),(8,some 60),(9,some 61),(10,some 62),(11,some 63),(12,some 64),(13,some 2)]) (by kernel_rfl) (ir:= [0,1,2,3,4,5,6,7,8,9,10,11,12,13]) (by kernel_rfl) ?steps (tl:=#[true,true,true,true,true,true,true,true,true,true,true,true,true,true]) (by kernel_rfl) ?fin
    case steps=>
     refine StepsL.cons (ps:= []) rfl (by kernel_rfl) (fun wi hx=> ?_) ?_
     ·intro K hK
      go_simp
      exact hK _ _ ⟨.pointer (some ⟨w1.heap.size,9,none⟩),rfl,rfl,Ext.refl _⟩
     refine StepsL.cons (ps:= [(0,some 52)]) rfl (by kernel_rfl) (fun wi hx=> ?_) ?_
     ·intro v0 h0 K hK
      obtain rfl:=h0
      have hX:Ext w10 wi:=by exact .trans (.drew (.refl _)) hx
      have cl9:wi.cell? ⟨w1.heap.size,9,none⟩=some (.slice q h.vs.length c2):=(B0.out.ext hX).cell 9
      go_simp
      exact hK _ _ ⟨.slice q h.vs.length c2,rfl,rfl,Ext.refl _⟩
     refine StepsL.cons (ps:= [(1,some 53)]) rfl (by kernel_rfl) (fun wi hx=> ?_) ?_
     ·intro v1 h1 K hK
      obtain rfl:=h1
      go_simp
      exact hK _ _ ⟨.int .i64 (h.vs.length:Int),rfl,rfl,Ext.refl _⟩
     refine StepsL.cons (ps:= []) rfl (by kernel_rfl) (fun wi hx=> ?_) ?_
     ·intro K hK
      go_simp
      exact hK _ _ ⟨.pointer (some ⟨w1.heap.size,0,none⟩),rfl,rfl,Ext.refl _⟩
     refine StepsL.cons (ps:= [(3,some 55)]) rfl (by kernel_rfl) (fun wi hx=> ?_) ?_
     ·intro v3 h3 K hK
      obtain rfl:=h3
      have hX:Ext w10 wi:=by exact .trans (.drew (.refl _)) hx
      have cl0:wi.cell? ⟨w1.heap.size,0,none⟩=some (.int .i64 h.wide):=(B0.out.ext hX).cell 0
      have cl1:wi.cell? ⟨w1.heap.size,1,none⟩=some (.int .i64 h.deep):=(B0.out.ext hX).cell 1
      have cl2:wi.cell? ⟨w1.heap.size,2,none⟩=some (.slice p h.cells.length cap):=(B0.out.ext hX).cell 2
      go_simp
      exact hK _ _ ⟨.agg #[.int .i64 h.wide,.int .i64 h.deep,.slice p h.cells.length cap],rfl,rfl,Ext.refl _⟩
     refine StepsL.cons (ps:= [(4,some 56)]) rfl (by kernel_rfl) (fun wi hx=> ?_) ?_
     ·intro v4 h4 K hK
      obtain rfl:=h4
      go_wp2_with fail
      refine(HCa.out _ (by exact .trans (.drew (.refl _)) hx)).mono ?_
      rintro e w5 ⟨p',c',rfl,_,hx5⟩
      go_simp
      exact hK _ _ ⟨_,rfl,⟨p',c',rfl⟩,hx5⟩
     refine StepsL.cons (ps:= [(5,some 57)]) rfl (by kernel_rfl) (fun wi hx=> ?_) ?_
     ·intro v5 h5 K hK
      obtain⟨p5,c5,rfl⟩:=h5
      go_simp
      exact hK _ _ ⟨.int .i64 (h.vs.length:Int),rfl,rfl,Ext.refl _⟩
     refine StepsL.cons (ps:= [(2,some 54),(6,some 58)]) rfl (by kernel_rfl) (fun wi hx=> ?_) ?_
     ·intro v2 h2 v6 h6 K hK
      obtain rfl:=h2
      obtain rfl:=h6
      go_simp
      exact hK _ _ ⟨.bool true,rfl,rfl,Ext.refl _⟩
     refine StepsL.cons (ps:= [(7,some 59)]) rfl (by kernel_rfl) (fun wi hx=> ?_) ?_
     ·intro v7 h7 K hK
      obtain rfl:=h7
      go_simp
      exact hK _ _ ⟨.bool true,rfl,rfl,Ext.refl _⟩
     refine StepsL.cons (ps:= [(8,some 60)]) rfl (by kernel_rfl) (fun wi hx=> ?_) ?_
     ·intro v8 h8 K hK
      obtain rfl:=h8
      have hX:Ext w10 wi:=by exact .trans (.drew (.refl _)) hx
      obtain⟨cl0,cl1,cl2,cl3,cl4,cl5,cl6,cl7,cl8,cl9⟩:=(BC.out.ext hX).ten
      go_simp
      exact hK _ _ ⟨.agg #[.int .i64 h.wide,.int .i64 h.deep,.slice p h.cells.length cap,.int .i64 h.free,.int .i64 h.step,.int .i64 h.price,.int .i64 h.capp,.int .i64 h.clock,.int .i64 h.bank,.slice q9 (h.vs.length+1) c9],rfl,rfl,Ext.refl _⟩
     refine StepsL.cons (ps:= [(8,some 60),(9,some 61)]) rfl (by kernel_rfl) (fun wi hx=> ?_) ?_
     ·intro v8 h8 v9 h9 K hK
      obtain rfl:=h8
      obtain rfl:=h9
      go_wp2_with fail
      refine(HVm.out _ (by exact .trans (.drew (.refl _)) hx)).mono ?_
      rintro e w5 ⟨rfl,hx5⟩
      go_simp
      exact hK _ _ ⟨.bool false,rfl,rfl,hx5⟩
     refine StepsL.cons (ps:= [(8,some 60),(10,some 62)]) rfl (by kernel_rfl) (fun wi hx=> ?_) ?_
     ·intro v8 h8 v10 h10 K hK
      obtain rfl:=h8
      obtain rfl:=h10
      go_simp
      exact hK _ _ ⟨.bool true,rfl,rfl,Ext.refl _⟩
     refine StepsL.cons (ps:= [(8,some 60),(11,some 63)]) rfl (by kernel_rfl) (fun wi hx=> ?_) ?_
     ·intro v8 h8 v11 h11 K hK
      obtain rfl:=h8
      obtain rfl:=h11
      go_simp
      exact hK _ _ ⟨.bool true,rfl,rfl,Ext.refl _⟩
     refine StepsL.cons (ps:= [(12,some 64)]) rfl (by kernel_rfl) (fun wi hx=> ?_) StepsL.nil
     ·intro v12 h12 K hK
      obtain rfl:=h12
      go_simp
      exact hK _ _ ⟨.bool true,rfl,rfl,Ext.refl _⟩
    case fin=>
     intro wi hx v0 h0 v1 h1 v2 h2 v3 h3 v4 h4 v5 h5 v6 h6 v7 h7 v8 h8 v9 h9 v10 h10 v11 h11 v12 h12 v13 h13
     obtain rfl:=h0
     obtain rfl:=h1
     obtain rfl:=h2
     obtain rfl:=h3
     obtain rfl:=h4
     obtain⟨p5,c5,rfl⟩:=h5
     obtain rfl:=h6
     obtain rfl:=h7
     obtain rfl:=h8
     obtain rfl:=h9
     obtain rfl:=h10
     obtain rfl:=h11
     obtain rfl:=h12
     obtain rfl:=h13
     refine wpAny_done (by kernel_rfl) ?_ _
     try simp only[Act.put,List.setIfInBounds_toArray,List.set_cons_zero,List.set_cons_succ]
     have hX:Ext w10 wi:=by exact .trans (.drew (.refl _)) hx
     have XZ:Ext w wi:=hX1.out.trans (M10.out.ext.trans hX)
     go_wp2
     go_ret
     exact⟨rfl,XZ⟩
theorem walk_FnHouseValid (W:World)(v:Value)(u:Unit)(hc:Code W v)(hE:Env W):Calls Tryz.prog 3 #[v] W fun e w'=>e= .returned (.bool true)∧Ext W w':=by
 have hD:=drawHouseValid v W hc
 obtain⟨p0,n,cap,bs,rfl,h,hb⟩:=hc
 by_cases hn:(n:Int)≤1048576
 ·exact fnHouseValid_o p0 n cap W hn (Lib.hid hE) hD
 ·exact fnHouseValid_big p0 n cap W (by omega)
end Go.Proofs.YteejdnmmpmcmeaaGreatDoor
