/-
  Texts of this proof, packed (@packed).
-/
import Derived.Test.YteejdnmmpmcmeaaGreatDoorP5
import Derived.Test.YteejdnmmpmcmeaaGreatDoorP23
import Derived.Test.YteejdnmmpmcmeaaGreatDoorP24
import Derived.Test.YteejdnmmpmcmeaaGreatDoorP25
import Derived.Test.YteejdnmmpmcmeaaGreatDoorP26
namespace Go.Proofs.YteejdnmmpmcmeaaGreatDoor
open Go.RowKit
set_option linter.unusedVariables false
set_option linter.unusedSimpArgs false
set_option maxRecDepth 100000 in
set_option maxHeartbeats 8000000 in
theorem qI (aA aB free step aD aH aC aI slides one two:Int)(p:Option Addr)(n cap:Nat)(b off k:Nat)(xs ys:List Int)(vs:List bC)(w:World)(h0:0≤slides)(hm:(k+1)≤1000)(hdn:Hid (vs.drop (k+1)= []))(HS:Hid (Sl w (some ⟨b,off,none⟩) (k+1) (k+1) 4 (vs.flatMap aE)))
  (HVd:Hid (∀w',Ext w w'→Calls Tryz.prog 17 #[.agg #[.int .i64 aA,.int .i64 aB,.slice p n cap,.int .i64 free,.int .i64 step,.int .i64 aD,.int .i64 aH,.int .i64 aC,.int .i64 aI,.slice (some ⟨b,off,none⟩) (k+1) (k+1)]] w' fun e w''=>e= .returned (.bool true)∧Ext w' w''))
  (HL:Hid (∀w',Ext w w'→Calls Tryz.prog 146 #[.agg #[.int .i64 aA,.int .i64 aB,.slice p n cap,.int .i64 free,.int .i64 step,.int .i64 aD,.int .i64 aH,.int .i64 aC,.int .i64 aI,.slice (some ⟨b,off,none⟩) (k+1) (k+1)]] w' fun e w''=> ∃p' cap' q' c2',e= .returned (.agg #[.int .i64 aA,.int .i64 aB,.slice p' n cap',.int .i64 free,.int .i64 step,.int .i64 aD,.int .i64 aH,.int .i64 aC,.int .i64 aI,.slice q' (k+1) c2'])∧w''.ownsRow w'.heap.size TI 1 (.slice p' n cap') n (ivs xs)∧w''.ownsRow w'.heap.size TV 4 (.slice q' (k+1) c2') (k+1) (vs.flatMap aE)∧Ext w' w''))
  (HP:Hid (∀w',Ext w w'→Calls Tryz.prog 150 #[aJ aA aB p n cap,.int .i64 one] w' fun e w''=> ∃p' cap',e= .returned (.tuple #[aJ aA aB p' n cap',.int .i64 slides])∧w''.ownsRow w'.heap.size TI 1 (.slice p' n cap') n (ivs ys)∧Ext w' w''))
  (HF:Hid (∀w',Ext w w'→Calls Tryz.prog 73 #[.agg #[.int .i64 aA,.int .i64 aB,.slice p n cap,.int .i64 free,.int .i64 step,.int .i64 aD,.int .i64 aH,.int .i64 aC,.int .i64 aI,.slice (some ⟨b,off,none⟩) (k+1) (k+1)],.int .i64 one] w' fun e w''=>e= .returned (.int .i64 (k:Int))∧Ext w' w''))
  (HM:Hid (∀w',Ext w w'→Calls Tryz.prog 31 #[.agg #[.int .i64 aA,.int .i64 aB,.slice p n cap,.int .i64 free,.int .i64 step,.int .i64 aD,.int .i64 aH,.int .i64 aC,.int .i64 aI,.slice (some ⟨b,off,none⟩) (k+1) (k+1)],.int .i64 one] w' fun e w''=>e= .returned (.bool true)∧Ext w' w'')):
  Calls Tryz.prog 116 #[.agg #[.int .i64 aA,.int .i64 aB,.slice p n cap,.int .i64 free,.int .i64 step,.int .i64 aD,.int .i64 aH,.int .i64 aC,.int .i64 aI,.slice (some ⟨b,off,none⟩) (k+1) (k+1)],.agg #[.int .i64 2,.int .i64 one,.int .i64 two]] w fun e w'=> ∃p' cap' q' c2',e= .returned (.tuple #[.agg #[.int .i64 aA,.int .i64 aB,.slice p' n cap',.int .i64 free,.int .i64 step,.int .i64 aD,.int .i64 aH,.int .i64 aC,.int .i64 aI,.slice q' (k) c2'],.int .i64 slides,.bool true])∧w'.ownsRow w.heap.size TI 1 (.slice p' n cap') n (ivs ys)∧w'.ownsRow w.heap.size TV 4 (.slice q' (k) c2') (k) ((vs.take k++vs.drop (k+1)).flatMap aE)∧Ext w w':=by
 go_enter Tryz.func116,Tryz.ntmps116
 go_wp2_with fail
 refine(HVd.out _ (((((((Mem.start w).blkNew aQ #[.int .i64 aA,.int .i64 aB,.slice p n cap,.int .i64 free,.int .i64 step,.int .i64 aD,.int .i64 aH,.int .i64 aC,.int .i64 aI,.slice (some ⟨b,off,none⟩) (k+1) (k+1)] (w.heap.size) (by simp))).blkNew THD #[.int .i64 2,.int .i64 one,.int .i64 two] (w.heap.size+1) (by simp))).blkNew aQ #[.int .i64 0,.int .i64 0,.slice none 0 0,.int .i64 0,.int .i64 0,.int .i64 0,.int .i64 0,.int .i64 0,.int .i64 0,.slice none 0 0] (w.heap.size+1+1) (by simp))).ext).mono ?_
 rintro e w1 ⟨rfl,hx1⟩
 have M1:=xQ ((((((((Mem.start w).blkNew aQ #[.int .i64 aA,.int .i64 aB,.slice p n cap,.int .i64 free,.int .i64 step,.int .i64 aD,.int .i64 aH,.int .i64 aC,.int .i64 aI,.slice (some ⟨b,off,none⟩) (k+1) (k+1)] (w.heap.size) (by simp))).blkNew THD #[.int .i64 2,.int .i64 one,.int .i64 two] (w.heap.size+1) (by simp))).blkNew aQ #[.int .i64 0,.int .i64 0,.slice none 0 0,.int .i64 0,.int .i64 0,.int .i64 0,.int .i64 0,.int .i64 0,.int .i64 0,.slice none 0 0] (w.heap.size+1+1) (by simp))).adv hx1)
 have lt1_0:=M1.out.hi 0
 have lt1_1:=M1.out.hi 1
 have lt1_2:=M1.out.hi 2
 clear hx1
 clear HVd
 obtain⟨ce0,ce1,ce2,ce3,ce4,ce5,ce6,ce7,ce8,ce9⟩:=(M1.out.blk (i:=2) rfl).ten
 go_wp2_with fail
 clear ce0 ce1 ce2 ce3 ce4 ce5 ce6 ce7 ce8 ce9
 refine(HL.out _ (M1.out).ext).mono ?_
 rintro e w2 ⟨p1,cp1,q1,cq1,rfl,ho,hq,hx⟩
 have M2:=xQ ((M1.out).own2 hx ho hq (Nat.le_refl _) (by decide))
 clear M1
 clear lt1_0 lt1_1 lt1_2
 have lt2_2:=M2.out.hi 2
 have lt2_3:=M2.out.hi 3
 have lt2_4:=M2.out.hi 4
 clear hx ho hq
 obtain⟨ce0,ce1,ce2,ce3,ce4,ce5,ce6,ce7,ce8,ce9⟩:=(M2.out.blk (i:=4) rfl).ten
 obtain⟨de0,de1,de2⟩:=(M2.out.blk (i:=3) rfl).tri
 go_wp2_with fail
 clear ce0 ce1 ce2 ce3 ce4 ce5 ce6 ce7 ce8 ce9 de0 de1 de2
 refine(HP.out _ (((M2.out).blkNew aQ #[.int .i64 aA,.int .i64 aB,.slice p1 n cp1,.int .i64 free,.int .i64 step,.int .i64 aD,.int .i64 aH,.int .i64 aC,.int .i64 aI,.slice q1 (k+1) cq1] (w2.heap.size) (by simp))).ext).mono ?_
 rintro e w3 ⟨p5,cp5,rfl,ho,hx⟩
 have M3:=xQ ((((M2.out).blkNew aQ #[.int .i64 aA,.int .i64 aB,.slice p1 n cp1,.int .i64 free,.int .i64 step,.int .i64 aD,.int .i64 aH,.int .i64 aC,.int .i64 aI,.slice q1 (k+1) cq1] (w2.heap.size) (by simp))).call hx ho)
 clear M2
 clear lt2_2 lt2_3 lt2_4
 have lt3_1:=M3.out.hi 1
 have lt3_4:=M3.out.hi 4
 have lt3_5:=M3.out.hi 5
 have lt3_6:=M3.out.hi 6
 clear hx ho HP
 obtain⟨ce0,ce1,ce2,ce3,ce4,ce5,ce6,ce7,ce8,ce9⟩:=(M3.out.blk (i:=6) rfl).ten
 obtain⟨de0,de1,de2⟩:=(M3.out.blk (i:=5) rfl).tri
 go_wp2_with fail
 clear ce0 ce1 ce2 ce3 ce4 ce5 ce6 ce7 ce8 ce9 de0 de1 de2
 refine(HF.out _ (((M3.out).blkNew TH3 #[.int .i64 aA,.int .i64 aB,.slice p5 n cp5] (w3.heap.size) (by simp))).ext).mono ?_
 rintro e w4 ⟨rfl,hx4⟩
 have M4:=xQ ((((M3.out).blkNew TH3 #[.int .i64 aA,.int .i64 aB,.slice p5 n cp5] (w3.heap.size) (by simp))).adv hx4)
 clear M3
 clear lt3_1 lt3_4 lt3_5 lt3_6
 have lt4_0:=M4.out.hi 0
 have lt4_2:=M4.out.hi 2
 have lt4_5:=M4.out.hi 5
 have lt4_6:=M4.out.hi 6
 have lt4_7:=M4.out.hi 7
 clear hx4
 clear HF
 obtain⟨ce0,ce1,ce2,ce3,ce4,ce5,ce6,ce7,ce8,ce9⟩:=(M4.out.blk (i:=7) rfl).ten
 obtain⟨de0,de1,de2⟩:=(M4.out.blk (i:=6) rfl).tri
 go_wp2_with fail
 clear ce0 ce1 ce2 ce3 ce4 ce5 ce6 ce7 ce8 ce9 de0 de1 de2
 refine(HM.out _ (M4.out).ext).mono ?_
 rintro e w5 ⟨rfl,hx5⟩
 have M5:=xQ ((M4.out).adv hx5)
 clear M4
 clear lt4_0 lt4_2 lt4_5 lt4_6 lt4_7
 have lt5_0:=M5.out.hi 0
 have lt5_2:=M5.out.hi 2
 have lt5_5:=M5.out.hi 5
 have lt5_6:=M5.out.hi 6
 have lt5_7:=M5.out.hi 7
 clear hx5
 clear HM
 have hd:decide (slides<0)=false:=by simp;omega
 have hd2:decide (0≤slides)=true:=by simp;omega
 clear HL
 obtain⟨d0,df0,d1,df1,d2,df2,d3,df3,d4,df4,d5,df5,d6,df6,d7,df7,d8,df8,d9,df9⟩:=(M5.out.blk (i:=2) rfl).tenf
 obtain⟨xc0,xc1,xc2⟩:=(M5.out.blk (i:=0) rfl).tri
 have ne0_1a: ¬(w3.heap.size=w2.heap.size):=M5.out.ne (i:=0) (j:=2) (by omega) rfl rfl rfl rfl
 have ne0_1b: ¬(w2.heap.size=w3.heap.size):=fun h=>ne0_1a h.symm
 go_upto_region 22 with fail
 clear d0 df0 d1 df1 d2 df2 d3 df3 d4 df4 d5 df5 d6 df6 d7 df7 d8 df8 d9 df9 xc0 xc1 xc2 ne0_1a ne0_1b lt5_0 lt5_2 lt5_5 lt5_6 lt5_7
 have M6:=xQ (show Mem w (((w5.setCell ⟨w2.heap.size,0,none⟩ (.int .i64 aA)).setCell ⟨w2.heap.size,1,none⟩ (.int .i64 aB)).setCell ⟨w2.heap.size,2,none⟩ (.slice p5 n cp5)) [aK w.heap.size (w3.heap.size) TH3 #[.int .i64 aA,.int .i64 aB,.slice p5 n cp5],aP w.heap.size TI 1 (p5) (n) (cp5) (ivs ys),aK w.heap.size (w2.heap.size) aQ #[.int .i64 aA,.int .i64 aB,.slice p5 n cp5,.int .i64 free,.int .i64 step,.int .i64 aD,.int .i64 aH,.int .i64 aC,.int .i64 aI,.slice q1 (k+1) cq1],aP w.heap.size TI 1 (p1) (n) (cp1) (ivs xs),aP w.heap.size TV 4 (q1) ((k+1)) (cq1) (vs.flatMap aE),aK w.heap.size (w.heap.size+1+1) aQ #[.int .i64 0,.int .i64 0,.slice none 0 0,.int .i64 0,.int .i64 0,.int .i64 0,.int .i64 0,.int .i64 0,.int .i64 0,.slice none 0 0],aK w.heap.size (w.heap.size+1) THD #[.int .i64 2,.int .i64 one,.int .i64 two],aK w.heap.size (w.heap.size) aQ #[.int .i64 aA,.int .i64 aB,.slice p n cap,.int .i64 free,.int .i64 step,.int .i64 aD,.int .i64 aH,.int .i64 aC,.int .i64 aI,.slice (some ⟨b,off,none⟩) (k+1) (k+1)]]from((((((M5.out).store (i:=2) rfl 0 (.int .i64 aA))).store (i:=2) rfl 1 (.int .i64 aB))).store (i:=2) rfl 2 (.slice p5 n cp5)))
 generalize hwz:World.setCell _ _ _=w6
 rw[hwz]at M6
 clear hwz M5
 have lt6_0:=M6.out.hi 0
 have lt6_2:=M6.out.hi 2
 have lt6_5:=M6.out.hi 5
 have lt6_6:=M6.out.hi 6
 have lt6_7:=M6.out.hi 7
 have ce9:w6.cell? ⟨w.heap.size,9,none⟩=some (.slice (some ⟨b,off,none⟩) (k+1) (k+1)):=(M6.out.blk (i:=7) rfl).cell 9
 obtain⟨d0,df0,d1,df1,d2,df2,d3,df3,d4,df4,d5,df5,d6,df6,d7,df7,d8,df8,d9,df9⟩:=(M6.out.blk (i:=2) rfl).tenf
 have ne0_1a: ¬(w2.heap.size=w.heap.size):=M6.out.ne (i:=2) (j:=7) (by omega) rfl rfl rfl rfl
 have ne0_1b: ¬(w.heap.size=w2.heap.size):=fun h=>ne0_1a h.symm
 have ne0_2a: ¬(w.heap.size+1+1=w.heap.size):=M6.out.ne (i:=5) (j:=7) (by omega) rfl rfl rfl rfl
 have ne0_2b: ¬(w.heap.size=w.heap.size+1+1):=fun h=>ne0_2a h.symm
 have ne1_2a: ¬(w2.heap.size=w.heap.size+1+1):=M6.out.ne (i:=2) (j:=5) (by omega) rfl rfl rfl rfl
 have ne1_2b: ¬(w.heap.size+1+1=w2.heap.size):=fun h=>ne1_2a h.symm
 have i1:(0:Int)≤(k:Int):=by omega
 have i2:(k:Int)≤((k+1):Int):=by omega
 have i3:(k:Int)≤((k+1):Int):=by omega
 have i4:(k:Int)+1≤((k+1):Int):=by omega
 have i5:(0:Int)≤(k:Int)+1:=by omega
 have i6:((k:Int)+1).toNat=k+1:=by omega
 have i7:IntKind.i64.wrap ((k:Int)+1)=(k:Int)+1:=IntWalk.i64_in _ (by omega)
 have hc0: ¬(k+1)=0:=by omega
 go_cut [] (fun wx=> ∃(q9:Option Addr) (c9:Nat),Mem w wx [aP w.heap.size TV 4 (q9) (k) (c9) ((vs.take k++vs.drop (k+1)).flatMap aE),aK w.heap.size (w3.heap.size) TH3 #[.int .i64 aA,.int .i64 aB,.slice p5 n cp5],aP w.heap.size TI 1 (p5) (n) (cp5) (ivs ys),aK w.heap.size (w2.heap.size) aQ #[.int .i64 aA,.int .i64 aB,.slice p5 n cp5,.int .i64 free,.int .i64 step,.int .i64 aD,.int .i64 aH,.int .i64 aC,.int .i64 aI,.slice q9 (k) c9],aP w.heap.size TI 1 (p1) (n) (cp1) (ivs xs),aP w.heap.size TV 4 (q1) ((k+1)) (cq1) (vs.flatMap aE),aK w.heap.size (w.heap.size+1+1) aQ #[.int .i64 0,.int .i64 0,.slice none 0 0,.int .i64 0,.int .i64 0,.int .i64 0,.int .i64 0,.int .i64 0,.int .i64 0,.slice none 0 0],aK w.heap.size (w.heap.size+1) THD #[.int .i64 2,.int .i64 one,.int .i64 two],aK w.heap.size (w.heap.size) aQ #[.int .i64 aA,.int .i64 aB,.slice p n cap,.int .i64 free,.int .i64 step,.int .i64 aD,.int .i64 aH,.int .i64 aC,.int .i64 aI,.slice (some ⟨b,off,none⟩) (k+1) (k+1)]])
 case first=>
  go_region_law ((first
   |(refine iJ wL (by rfl) _ _ (by rfl) (by first|exact M6.out.made0 TV 4 w6.heap.size (by simp)|exact(M6.out.made0 TV 4 w6.heap.size (by simp)).adv (by exact .drew (.refl _))|exact(M6.out.adv xE).made0 TV 4 w6.heap.size (by simp)) 0 (by rfl) (by rfl) ((vs.take k).flatMap aE) (by rfl) (aBw (HS.out.ext (M6.out.ext.trans (by exact .drew (.alloc (.refl _) _)))) (by omega)) (iC _) (by omega) ?_
     intro q7 c7 w7 M7X
     have M7:=xQ (show Mem w w7 [aP w.heap.size TV 4 (q7) (k) (c7) ((vs.take k).flatMap aE),aK w.heap.size (w3.heap.size) TH3 #[.int .i64 aA,.int .i64 aB,.slice p5 n cp5],aP w.heap.size TI 1 (p5) (n) (cp5) (ivs ys),aK w.heap.size (w2.heap.size) aQ #[.int .i64 aA,.int .i64 aB,.slice p5 n cp5,.int .i64 free,.int .i64 step,.int .i64 aD,.int .i64 aH,.int .i64 aC,.int .i64 aI,.slice q1 (k+1) cq1],aP w.heap.size TI 1 (p1) (n) (cp1) (ivs xs),aP w.heap.size TV 4 (q1) ((k+1)) (cq1) (vs.flatMap aE),aK w.heap.size (w.heap.size+1+1) aQ #[.int .i64 0,.int .i64 0,.slice none 0 0,.int .i64 0,.int .i64 0,.int .i64 0,.int .i64 0,.int .i64 0,.int .i64 0,.slice none 0 0],aK w.heap.size (w.heap.size+1) THD #[.int .i64 2,.int .i64 one,.int .i64 two],aK w.heap.size (w.heap.size) aQ #[.int .i64 aA,.int .i64 aB,.slice p n cap,.int .i64 free,.int .i64 step,.int .i64 aD,.int .i64 aH,.int .i64 aC,.int .i64 aI,.slice (some ⟨b,off,none⟩) (k+1) (k+1)]]from by simpa only[List.set_cons_zero,Nat.zero_add,List.nil_append]using M7X)
     clear M7X
     have gc9:w7.cell? ⟨w.heap.size,9,none⟩=some (.slice (some ⟨b,off,none⟩) (k+1) (k+1)):=(M7.out.blk (i:=8) rfl).cell 9
     have gd9:w7.cell? ⟨w2.heap.size,9,none⟩=some (.slice q1 (k+1) cq1):=(M7.out.blk (i:=3) rfl).cell 9
     have gdf9:w7.frozen? ⟨w2.heap.size,9,none⟩=false:=(M7.out.blk (i:=3) rfl).frozen 9
     have gl0:w.heap.size<w7.heap.size:=(M7.out.lt (i:=8) rfl rfl).2
     have gl1:w2.heap.size<w7.heap.size:=(M7.out.lt (i:=3) rfl rfl).2)
   |(refine iJ wL (by rfl) _ _ (by rfl) (M7.out.adv (by exact .refl _)) 0 (by rfl) (by rfl) (([]:List bC).flatMap aE) (by rfl) (⟨by simp,Nat.zero_le _,by have:=HS.out.mx;omega,fun h=>absurd h (by omega)⟩) (iC _) (by omega) ?_
     intro q9 c9 w9 M9X
     have M9:=xQ (show Mem w w9 [aP w.heap.size TV 4 (q9) (k+(0)) (c9) ((vs.take k).flatMap aE++([]:List bC).flatMap aE),aK w.heap.size (w3.heap.size) TH3 #[.int .i64 aA,.int .i64 aB,.slice p5 n cp5],aP w.heap.size TI 1 (p5) (n) (cp5) (ivs ys),aK w.heap.size (w2.heap.size) aQ #[.int .i64 aA,.int .i64 aB,.slice p5 n cp5,.int .i64 free,.int .i64 step,.int .i64 aD,.int .i64 aH,.int .i64 aC,.int .i64 aI,.slice q1 (k+1) cq1],aP w.heap.size TI 1 (p1) (n) (cp1) (ivs xs),aP w.heap.size TV 4 (q1) ((k+1)) (cq1) (vs.flatMap aE),aK w.heap.size (w.heap.size+1+1) aQ #[.int .i64 0,.int .i64 0,.slice none 0 0,.int .i64 0,.int .i64 0,.int .i64 0,.int .i64 0,.int .i64 0,.int .i64 0,.slice none 0 0],aK w.heap.size (w.heap.size+1) THD #[.int .i64 2,.int .i64 one,.int .i64 two],aK w.heap.size (w.heap.size) aQ #[.int .i64 aA,.int .i64 aB,.slice p n cap,.int .i64 free,.int .i64 step,.int .i64 aD,.int .i64 aH,.int .i64 aC,.int .i64 aI,.slice (some ⟨b,off,none⟩) (k+1) (k+1)]]from M9X)
     clear M9X
     have hc9:w9.cell? ⟨w.heap.size,9,none⟩=some (.slice (some ⟨b,off,none⟩) (k+1) (k+1)):=(M9.out.blk (i:=8) rfl).cell 9
     have hd9:w9.cell? ⟨w2.heap.size,9,none⟩=some (.slice q1 (k+1) cq1):=(M9.out.blk (i:=3) rfl).cell 9
     have hdf9:w9.frozen? ⟨w2.heap.size,9,none⟩=false:=(M9.out.blk (i:=3) rfl).frozen 9
     have hl0:w.heap.size<w9.heap.size:=(M9.out.lt (i:=8) rfl rfl).2
     have hl1:w2.heap.size<w9.heap.size:=(M9.out.lt (i:=3) rfl rfl).2)))
  all_goals (
   have e1:k+(0)=k:=by omega
   have e2:(vs.take k).flatMap aE++([]:List bC).flatMap aE=(vs.take k++vs.drop (k+1)).flatMap aE:=by rw[hdn.out];simp
   skip
   have MZ:=xQ (show Mem w w9 [aP w.heap.size TV 4 (q9) (k) (c9) ((vs.take k++vs.drop (k+1)).flatMap aE),aK w.heap.size (w3.heap.size) TH3 #[.int .i64 aA,.int .i64 aB,.slice p5 n cp5],aP w.heap.size TI 1 (p5) (n) (cp5) (ivs ys),aK w.heap.size (w2.heap.size) aQ #[.int .i64 aA,.int .i64 aB,.slice p5 n cp5,.int .i64 free,.int .i64 step,.int .i64 aD,.int .i64 aH,.int .i64 aC,.int .i64 aI,.slice q1 (k+1) cq1],aP w.heap.size TI 1 (p1) (n) (cp1) (ivs xs),aP w.heap.size TV 4 (q1) ((k+1)) (cq1) (vs.flatMap aE),aK w.heap.size (w.heap.size+1+1) aQ #[.int .i64 0,.int .i64 0,.slice none 0 0,.int .i64 0,.int .i64 0,.int .i64 0,.int .i64 0,.int .i64 0,.int .i64 0,.slice none 0 0],aK w.heap.size (w.heap.size+1) THD #[.int .i64 2,.int .i64 one,.int .i64 two],aK w.heap.size (w.heap.size) aQ #[.int .i64 aA,.int .i64 aB,.slice p n cap,.int .i64 free,.int .i64 step,.int .i64 aD,.int .i64 aH,.int .i64 aC,.int .i64 aI,.slice (some ⟨b,off,none⟩) (k+1) (k+1)]]from by have:=M9.out;rw[e2]at this;simpa only[e1]using this)
   clear e2 M9 M7)
  all_goals go_wp2_with fail
  all_goals go_meet
  all_goals exact⟨q9,c9,by first|exact((MZ.out).store (i:=3) rfl 9 (.slice q9 (k) c9))|(simp only[e1];exact((MZ.out).store (i:=3) rfl 9 (.slice q9 (k) c9)))⟩
 case rest=>
  obtain⟨q9,c9,MC⟩:=hcut
  have MC:=xQ MC
  clear M6 i1 i2 i3 i4 i5 i6 i7 hc0 ce9 d0 df0 d1 df1 d2 df2 d3 df3 d4 df4 d5 df5 d6 df6 d7 df7 d8 df8 d9 df9 ne0_1a ne0_1b ne0_2a ne0_2b ne1_2a ne1_2b lt6_0 lt6_2 lt6_5 lt6_6 lt6_7
  have lt6_1:w3.heap.size<wc.heap.size:=(MC.out.lt (i:=1) rfl rfl).2
  have lt6_3:w2.heap.size<wc.heap.size:=(MC.out.lt (i:=3) rfl rfl).2
  have lt6_6:w.heap.size+1+1<wc.heap.size:=(MC.out.lt (i:=6) rfl rfl).2
  have lt6_7:w.heap.size+1<wc.heap.size:=(MC.out.lt (i:=7) rfl rfl).2
  have lt6_8:w.heap.size<wc.heap.size:=(MC.out.lt (i:=8) rfl rfl).2
  obtain⟨e0,e1,e2,e3,e4,e5,e6,e7,e8,e9⟩:=(MC.out.blk (i:=3) rfl).ten
  obtain⟨f0,ff0,f1,ff1,f2,ff2,f3,ff3,f4,ff4,f5,ff5,f6,ff6,f7,ff7,f8,ff8,f9,ff9⟩:=(MC.out.blk (i:=6) rfl).tenf
  have ne0_1a: ¬(w2.heap.size=w.heap.size+1+1):=MC.out.ne (i:=3) (j:=6) (by omega) rfl rfl rfl rfl
  have ne0_1b: ¬(w.heap.size+1+1=w2.heap.size):=fun h=>ne0_1a h.symm
  go_upto_region 33 with fail
  go_wp2
  clear e0 e1 e2 e3 e4 e5 e6 e7 e8 e9 f0 ff0 f1 ff1 f2 ff2 f3 ff3 f4 ff4 f5 ff5 f6 ff6 f7 ff7 f8 ff8 f9 ff9 ne0_1a ne0_1b lt6_1 lt6_3 lt6_6 lt6_7 lt6_8
  have M7:=xQ (((MC.out).put10 (i:=6) rfl (.int .i64 aA) (.int .i64 aB) (.slice p5 n cp5) (.int .i64 free) (.int .i64 step) (.int .i64 aD) (.int .i64 aH) (.int .i64 aC) (.int .i64 aI) (.slice q9 (k) c9)))
  generalize hwz:World.setCell _ _ _=wz
  rw[hwz]at M7
  clear hwz MC
  obtain⟨y0,y1,y2,y3,y4,y5,y6,y7,y8,y9⟩:=(M7.out.blk (i:=6) rfl).ten
  exact bodyPost_ret (v:= .tuple #[.agg #[.int .i64 aA,.int .i64 aB,.slice p5 n cp5,.int .i64 free,.int .i64 step,.int .i64 aD,.int .i64 aH,.int .i64 aC,.int .i64 aI,.slice q9 (k) c9],.int .i64 slides,.bool true]) (by simp[results,Tryz.results116,go_sem, *]) rfl ⟨p5,cp5,q9,c9,rfl,(M7.out.own (i:=2) rfl),(M7.out.own (i:=0) rfl),M7.out.ext⟩
def aL3 (h:aV)(r:Option (aV×Int))(w:World)(e:Ending)(w':World):Prop:=
 match r with
 |none=> ∃p cap q c2,e= .returned (.tuple #[cH h p h.cells.length cap q h.vs.length c2,.int .i64 (-1),.bool false])∧w'.ownsRow w.heap.size TI 1 (.slice p h.cells.length cap) h.cells.length (ivs h.cells)∧w'.ownsRow w.heap.size TV 4 (.slice q h.vs.length c2) h.vs.length (h.vs.flatMap aE)∧Ext w w'
 |some (h',n)=> ∃p cap q c2,e= .returned (.tuple #[cH h' p h'.cells.length cap q h'.vs.length c2,.int .i64 n,.bool true])∧w'.ownsRow w.heap.size TI 1 (.slice p h'.cells.length cap) h'.cells.length (ivs h'.cells)∧w'.ownsRow w.heap.size TV 4 (.slice q h'.vs.length c2) h'.vs.length (h'.vs.flatMap aE)∧Ext w w'
theorem tA {h:aV}(hok:bN h=true):h.cells.length≤12∧h.vs.length≤12∧4≤h.cells.length:=by
 obtain⟨q1,q2,q3,q4,q5⟩:=(gQ h).1 hok
 have hb:=cG (cW q1)
 have:=congrArg List.length q4
 rw[nB,List.length_map]at this
 have:=oN h.cells
 omega
theorem tN (h:aV)(k a b:Int)(p:Option Addr)(n cap:Nat)(q:Option Addr)(m c2:Nat)(w:World)(hi:IsHouse w h p n cap q m c2)(hok:bN h=false):
  Calls Tryz.prog 116 #[cH h p n cap q m c2,oB k a b] w fun e w'=>e= .returned (.tuple #[.agg #[.int .i64 0,.int .i64 0,.slice none 0 0,.int .i64 0,.int .i64 0,.int .i64 0,.int .i64 0,.int .i64 0,.int .i64 0,.slice none 0 0],.int .i64 (-1),.bool false])∧Ext w w':=
 aDv h.aA h.aB h.free h.step h.aD h.aH h.aC h.aI k a b p n cap q m c2 h.cells h.vs w (xQ fun w' hx=>by have:=lT h p n cap q m c2 w' (hi.ext hx);rwa[hok]at this)
theorem aBm (h:aV)(k a b:Int)(p:Option Addr)(n cap:Nat)(q:Option Addr)(m c2:Nat)(w:World)(hi:IsHouse w h p n cap q m c2)(hok:bN h=true):
  Calls Tryz.prog 116 #[cH h p n cap q m c2,oB k a b] w (aL3 h (eW h k a b) w):=by
 obtain⟨q1,q2,q3,q4,q5⟩:=(gQ h).1 hok
 have hsm:=tA hok
 have hl:=hi.clen
 have hvl:=hi.vlen
 have hS:=hi.cells
 have hV:=hi.vs
 subst hl hvl
 have HVd:=xQ fun(w':World) (hx:Ext w w')=>(by have:=lT h p _ cap q _ c2 w' (hi.ext hx);rwa[hok]at this:Calls Tryz.prog 17 #[cH h p h.cells.length cap q h.vs.length c2] w' fun e w''=>e= .returned (.bool true)∧Ext w' w'')
 have HL:=xQ fun(w':World) (hx:Ext w w')=>vR h p _ cap q _ c2 w' (by omega) (by omega) (hi.ext hx)
 unfold RetHouse at HL
 by_cases k0:k=0
 ·subst k0
  have HP:=xQ fun(w':World) (hx:Ext w w')=>aBb h.aA h.aB a p _ cap h.cells w' (hS.ext hx) q1
  have e0:eW h 0 a b=(if 0≤(dV h.aA h.aB h.cells a).2 then some ({h with cells:=(dV h.aA h.aB h.cells a).1,vs:=mT (a,h.aC,0,h.aC) h.vs},(dV h.aA h.aB h.cells a).2)else none):=by unfold eW;rw[if_pos rfl]
  have el:(dV h.aA h.aB h.cells a).1.length=h.cells.length:=by
   by_cases h0:0≤(dV h.aA h.aB h.cells a).2
   ·obtain⟨zs,s1,_,_,s4,_⟩:=uN q1 h0
    rw[s4,List.length_set,s1.length_eq]
   ·unfold dV at h0⊢
    split at h0
    ·rfl
    ·dsimp only at h0;omega
  unfold eA at HP
  rw[el]at HP
  rw[e0]
  by_cases h0:0≤(dV h.aA h.aB h.cells a).2
  ·rw[if_pos h0]
   have HQ:=xQ fun(w':World) (hx:Ext w w')=>aGf a h.aC 0 h.aC q _ c2 h.vs w' (by omega) (hV.ext hx)
   refine(rO h.aA h.aB h.free h.step h.aD h.aH h.aC h.aI (dV h.aA h.aB h.cells a).2 a b p _ cap q _ c2 h.cells (dV h.aA h.aB h.cells a).1 h.vs (mT (a,h.aC,0,h.aC) h.vs) w h0 HVd HL HP HQ).mono ?_
   rintro e w' ⟨p',cap',q',c2',rfl,o1,o2,hx⟩
   refine⟨p',cap',q',c2',?_,?_,?_,hx⟩
   ·simp[cH,el,aC2]
   ·dsimp only;rw[el];exact o1
   ·dsimp only;rw[aC2];exact o2
  ·rw[if_neg h0]
   exact tQ h.aA h.aB h.free h.step h.aD h.aH h.aC h.aI (dV h.aA h.aB h.cells a).2 a b p _ cap q _ c2 h.cells (dV h.aA h.aB h.cells a).1 h.vs w (by omega) HVd HL HP
 by_cases k1:k=1
 ·subst k1
  have HP:=xQ fun(w':World) (hx:Ext w w')=>aGg h a b p _ cap q _ c2 w' (by omega) (by omega) (hi.ext hx) q2 (fun v hv=>(kK _ _).1 (q5 v hv)) q3.2.1 q3.2.2.1 q3.2.2.2
  have e0:eW h 1 a b=xH h a b:=by unfold eW;rw[if_neg (by omega),if_pos rfl]
  rw[e0]
  cases hp:xH h a b with
  |none=>
   rw[hp]at HP
   exact xB h.aA h.aB h.free h.step h.aD h.aH h.aC h.aI a b p _ cap q _ c2 h.cells h.vs w HVd HL HP
  |some r=>
   obtain⟨h',bk⟩:=r
   rw[hp]at HP
   have hd:=vY hok (e0.trans hp)
   have hv:h'.vs.length=h.vs.length∧h'.cells=h.cells∧h'.aC=h.aC:=by
    unfold xH at hp
    split at hp
    ·cases hp
    ·split at hp
     ·injection hp with hp
      simp only[Prod.mk.injEq]at hp
      obtain⟨rfl,_⟩:=hp
      exact⟨by simp,rfl,rfl⟩
     ·cases hp
   obtain⟨t1,t2,t3,t4,t5,t6,t7,t8,t9⟩:=hd
   obtain⟨v1,v2,v3⟩:=hv
   obtain⟨hw,hde,hc,hf,hs,hpr,hca,hcl,hba,hvs⟩:=h'
   dsimp only at t4 t5 t6 t7 t8 t9 v1 v2 v3
   subst t4 t5 t6 t7 t8 t9 v2 v3
   unfold aJb at HP
   dsimp only at HP
   rw[v1]at HP
   refine(uU h.aA h.aB h.free h.step h.aD h.aH h.aC h.aI hba bk a b p _ cap q _ c2 h.cells h.vs hvs w t2.1 HVd HL HP).mono ?_
   rintro e w' ⟨p',cap',q',c2',rfl,o1,o2,hx⟩
   refine⟨p',cap',q',c2',?_,o1,?_,hx⟩
   ·simp[cH,v1]
   ·dsimp only;rw[v1];exact o2
 by_cases k2:k=2
 ·subst k2
  have HP:=xQ fun(w':World) (hx:Ext w w')=>aCz h.aA h.aB a p _ cap h.cells w' (hS.ext hx) q1
  have HF:=xQ fun(w':World) (hx:Ext w w')=>pW h.aA h.aB h.free h.step h.aD h.aH h.aC h.aI a p h.cells.length cap q _ c2 h.vs w' (hV.ext hx)
  have HM:=xQ fun(w':World) (hx:Ext w w')=>zW h a p _ cap q _ c2 w' (hi.ext hx)
  have e0:eW h 2 a b=(if jQ h a=true∧0≤(dM h.aA h.aB h.cells a).2 then some ({h with cells:=(dM h.aA h.aB h.cells a).1,vs:=h.vs.eraseIdx (vix a h.vs).toNat},(dM h.aA h.aB h.cells a).2)else none):=by unfold eW;rw[if_neg (by omega),if_neg (by omega),if_pos rfl]
  have el:(dM h.aA h.aB h.cells a).1.length=h.cells.length:=by
   by_cases h0:0≤(dM h.aA h.aB h.cells a).2
   ·obtain⟨zs,s1,_,_,s4,_⟩:=wI q1 h0
    rw[s4,List.length_set,s1.length_eq]
   ·unfold dM at h0⊢
    split at h0
    ·rfl
    ·dsimp only at h0;omega
  unfold eA at HP
  rw[el]at HP
  rw[e0]
  by_cases h0:jQ h a=true∧0≤(dM h.aA h.aB h.cells a).2
  ·rw[if_pos h0]
   have hv: ∃v,gJ a h.vs=some v:=by
    have:=h0.1
    unfold jQ iO at this
    rw[if_pos hok]at this
    cases hv:gJ a h.vs with
    |none=>rw[hv]at this;simp at this
    |some v=>exact⟨v,rfl⟩
   obtain⟨v,hv⟩:=hv
   obtain⟨v1,v2,v3,v4,v5,v6⟩:=nO hv
   generalize hk:(vix a h.vs).toNat=kk at*
   rw[v5]at HF
   rw[h0.1]at HM
   obtain⟨bb,off,rfl,hbb,_⟩:=hV.rd (by omega)
   have ee:h.vs.eraseIdx kk=h.vs.take kk++h.vs.drop (kk+1):=List.eraseIdx_eq_take_drop_succ _ _
   have eln:(h.vs.eraseIdx kk).length=h.vs.length-1:=by rw[List.length_eraseIdx,if_pos v4]
   by_cases hcc:kk+1<c2
   ·refine(rQ h.aA h.aB h.free h.step h.aD h.aH h.aC h.aI (dM h.aA h.aB h.cells a).2 a b p _ cap bb off _ c2 kk h.cells (dM h.aA h.aB h.cells a).1 h.vs w h0.2 v4 (by omega) hcc (xQ hV) HVd HL HP HF HM).mono ?_
    rintro e w' ⟨p',cap',q',c2',rfl,o1,o2,hx⟩
    refine⟨p',cap',q',c2',?_,?_,?_,hx⟩
    ·simp only[cH,el,eln]
    ·dsimp only;rw[el];exact o1
    ·dsimp only;rw[eln,ee];exact o2
   ·have hle:=hV.le
    have e1:c2=kk+1:=by omega
    have e2:h.vs.length=kk+1:=by omega
    subst e1
    rw[e2]at hV HVd HL HF HM eln⊢
    refine(qI h.aA h.aB h.free h.step h.aD h.aH h.aC h.aI (dM h.aA h.aB h.cells a).2 a b p _ cap bb off kk h.cells (dM h.aA h.aB h.cells a).1 h.vs w h0.2 (by omega) (xQ (List.drop_eq_nil_of_le (by omega))) (xQ hV) HVd HL HP HF HM).mono ?_
    rintro e w' ⟨p',cap',q',c2',rfl,o1,o2,hx⟩
    refine⟨p',cap',q',c2',?_,?_,?_,hx⟩
    ·simp[cH,el,eln]
    ·dsimp only;rw[el];exact o1
    ·dsimp only;rw[eln,ee,Nat.add_sub_cancel];exact o2
  ·rw[if_neg h0]
   exact tS h.aA h.aB h.free h.step h.aD h.aH h.aC h.aI (dM h.aA h.aB h.cells a).2 (vix a h.vs) a b p _ cap q _ c2 h.cells (dM h.aA h.aB h.cells a).1 h.vs w (jQ h a) (fun e=>by
    by_cases hx:0≤(dM h.aA h.aB h.cells a).2
    ·exact absurd ⟨e,hx⟩ h0
    ·omega) HVd HL HP HF HM
 by_cases k3:k=3
 ·subst k3
  have e0:eW h 3 a b=(if 1≤a∧a≤9999-h.aC then some ({h with aC:=h.aC+a},h.aC+a)else none):=by unfold eW;rw[if_neg (by omega),if_neg (by omega),if_neg (by omega),if_pos rfl]
  rw[e0]
  by_cases h0:1≤a∧a≤9999-h.aC
  ·rw[if_pos h0]
   exact tP h.aA h.aB h.free h.step h.aD h.aH h.aC h.aI a b p _ cap q _ c2 h.cells h.vs w q3.1 q3.2.1 h0.1 h0.2 HVd HL (xQ fun w'=>lZ a 1 (9999-h.aC) w' h0.1 h0.2)
  ·rw[if_neg h0]
   exact uT h.aA h.aB h.free h.step h.aD h.aH h.aC h.aI a b p _ cap q _ c2 h.cells h.vs w q3.1 q3.2.1 HVd HL (xQ fun w'=>uD a 1 (9999-h.aC) w' (by omega))
 by_cases k4:k=4
 ·subst k4
  have HP:=xQ fun(w':World) (hx:Ext w w')=>lC h.aA h.aB a b p _ cap h.cells w' (hS.ext hx) q1
  have e0:eW h 4 a b=(if bR h.aA h.aB h.cells a b=true then some ({h with cells:=bP h.aA h.aB h.cells a b},0)else none):=by unfold eW;rw[if_neg (by omega),if_neg (by omega),if_neg (by omega),if_neg (by omega),if_pos rfl]
  unfold eP at HP
  rw[dW]at HP
  rw[e0]
  cases hm:bR h.aA h.aB h.cells a b with
  |true=>
   rw[hm]at HP
   rw[if_pos rfl]
   refine(rP h.aA h.aB h.free h.step h.aD h.aH h.aC h.aI a b p _ cap q _ c2 h.cells (bP h.aA h.aB h.cells a b) h.vs w HVd HL HP).mono ?_
   rintro e w' ⟨p',cap',q',c2',rfl,o1,o2,hx⟩
   refine⟨p',cap',q',c2',?_,?_,o2,hx⟩
   ·simp only[cH,dW]
   ·dsimp only;rw[dW];exact o1
  |false=>
   rw[hm]at HP
   rw[if_neg (by simp)]
   exact tR h.aA h.aB h.free h.step h.aD h.aH h.aC h.aI a b p _ cap q _ c2 h.cells (bP h.aA h.aB h.cells a b) h.vs w HVd HL HP
 have e0:eW h k a b=none:=by unfold eW;rw[if_neg k0,if_neg k1,if_neg k2,if_neg k3,if_neg k4]
 rw[e0]
 exact zY h.aA h.aB h.free h.step h.aD h.aH h.aC h.aI k a b p _ cap q _ c2 h.cells h.vs w k0 k1 k2 k3 k4 HVd HL
end Go.Proofs.YteejdnmmpmcmeaaGreatDoor
