/-
  Texts of this proof, packed (@packed).
-/
import Derived.Test.YtgnkoffndhmhpaaGreatDoorR10
import Derived.Test.YtgnkoffndhmhpaaGreatDoorR22
namespace Go.Proofs.YtgnkoffndhmhpaaGreatDoor
open Go.RowKit
set_option linter.unusedVariables false
set_option linter.unusedSimpArgs false
set_option maxHeartbeats 8000000
set_option maxRecDepth 100000
theorem rH (aA aB free step aE aF aC aG bank2 back one two:Int)(p:OA)(n cap:Nat)(q:OA)(m c2:Nat)(xs:List Int)(vs vs2:List aQ)(w:World)(h0:0≤back)
  (HVd:xB 40 #[.agg #[aA,aB,.slice p n cap,free,step,aE,aF,aC,aG,.slice q m c2]] w true)
  (HL:xC 60 #[.agg #[aA,aB,.slice p n cap,free,step,aE,aF,aC,aG,.slice q m c2]] w fun w' e w''=> ∃p' cap' q' c2',e= .returned (.agg #[aA,aB,.slice p' n cap',free,step,aE,aF,aC,aG,.slice q' m c2'])∧w''.ownsRow w'.heap.size TI 1 (.slice p' n cap') n (ivs xs)∧w''.ownsRow w'.heap.size TV 4 (.slice q' m c2') m (vs.flatMap aD)∧Ext w' w'')
  (HP:xC 73 #[.agg #[aA,aB,.slice p n cap,free,step,aE,aF,aC,aG,.slice q m c2],one,two] w fun w' e w''=> ∃p' cap' q' c2',e= .returned (.tuple #[.agg #[aA,aB,.slice p' n cap',free,step,aE,aF,aC,bank2,.slice q' m c2'],back,.bool true])∧w''.ownsRow w'.heap.size TI 1 (.slice p' n cap') n (ivs xs)∧w''.ownsRow w'.heap.size TV 4 (.slice q' m c2') m (vs2.flatMap aD)∧Ext w' w''):
  Calls Tryz.prog 28 #[.agg #[aA,aB,.slice p n cap,free,step,aE,aF,aC,aG,.slice q m c2],.agg #[.int .i64 1,one,two]] w fun e w'=> ∃p' cap' q' c2',e= .returned (.tuple #[.agg #[aA,aB,.slice p' n cap',free,step,aE,aF,aC,bank2,.slice q' m c2'],back,.bool true])∧w'.ownsRow w.heap.size TI 1 (.slice p' n cap') n (ivs xs)∧w'.ownsRow w.heap.size TV 4 (.slice q' m c2') m (vs2.flatMap aD)∧Ext w w':=by
 go_enter Tryz.func28,Tryz.ntmps28
 go_wp2_with fail
 refine(HVd.out _ (Mem.b3 w).ext).mono ?_
 rintro e w1 ⟨rfl,hx1⟩
 have M1:=xQ ((Mem.b3 w).adv hx1)
 have lt1_0:=M1.out.hi 0
 have lt1_1:=M1.out.hi 1
 have lt1_2:=M1.out.hi 2
 clear hx1 HVd
 obtain⟨ce0,ce1,ce2,ce3,ce4,ce5,ce6,ce7,ce8,ce9⟩:=(M1.out.blk (i:=2) rfl).ten
 go_wp2_with fail
 clear ce0 ce1 ce2 ce3 ce4 ce5 ce6 ce7 ce8 ce9
 refine(HL.out _ (M1.out).ext).mono ?_
 rintro e w2 ⟨p1,cp1,q1,cq1,rfl,ho,hq,hx⟩
 have M2:=xQ ((M1.out).own2 hx ho hq (Nat.le_refl _) (by decide))
 clear M1 lt1_0 lt1_1 lt1_2
 have lt2_2:=M2.out.hi 2
 have lt2_3:=M2.out.hi 3
 have lt2_4:=M2.out.hi 4
 clear hx ho hq
 obtain⟨ce0,ce1,ce2,ce3,ce4,ce5,ce6,ce7,ce8,ce9⟩:=(M2.out.blk (i:=4) rfl).ten
 obtain⟨de0,de1,de2⟩:=(M2.out.blk (i:=3) rfl).tri
 go_wp2_with fail
 clear ce0 ce1 ce2 ce3 ce4 ce5 ce6 ce7 ce8 ce9 de0 de1 de2
 refine(HP.out _ (((M2.out).blkNew aO #[aA,aB,.slice p1 n cp1,free,step,aE,aF,aC,aG,.slice q1 m cq1] (w2.heap.size) (by simp))).ext).mono ?_
 rintro e w3 ⟨p5,cp5,q5,cq5,rfl,ho,hq,hx⟩
 have M3:=xQ ((((M2.out).blkNew aO #[aA,aB,.slice p1 n cp1,free,step,aE,aF,aC,aG,.slice q1 m cq1] (w2.heap.size) (by simp))).own2 hx ho hq (Nat.le_refl _) (by decide))
 clear M2 lt2_2 lt2_3 lt2_4
 have lt3_2:=M3.out.hi 2
 have lt3_5:=M3.out.hi 5
 have lt3_6:=M3.out.hi 6
 have lt3_7:=M3.out.hi 7
 clear hx ho hq HP HL
 obtain⟨d0,df0,d1,df1,d2,df2,d3,df3,d4,df4,d5,df5,d6,df6,d7,df7,d8,df8,d9,df9⟩:=(M3.out.blk (i:=2) rfl).tenf
 have hd:decide (back<0)=false:=by simp;omega
 go_upto_region 16 with fail
 clear d0 df0 d1 df1 d2 df2 d3 df3 d4 df4 d5 df5 d6 df6 d7 df7 d8 df8 d9 df9 lt3_2 lt3_5 lt3_6 lt3_7
 have M4:=xQ (((M3.out).put10 (i:=2) rfl (.int .i64 aA) (.int .i64 aB) (.slice p5 n cp5) (.int .i64 free) (.int .i64 step) (.int .i64 aE) (.int .i64 aF) (.int .i64 aC) (.int .i64 bank2) (.slice q5 m cq5)))
 generalize hwz:World.setCell _ _ _=w4
 rw[hwz]at M4
 clear hwz M3
 have M5:=xQ (((M4.out).adv ((Ext.refl _).alloc (.cells #[aA,aB,.slice p5 n cp5,free,step,aE,aF,aC,bank2,.slice q5 m cq5] aO))))
 generalize (w4.alloc (.cells #[aA,aB,.slice p5 n cp5,free,step,aE,aF,aC,bank2,.slice q5 m cq5] aO))=w5 at M5⊢
 clear M4
 have lt5_2:=M5.out.hi 2
 have lt5_5:=M5.out.hi 5
 have lt5_6:=M5.out.hi 6
 have lt5_7:=M5.out.hi 7
 obtain⟨e0,e1,e2,e3,e4,e5,e6,e7,e8,e9⟩:=(M5.out.blk (i:=2) rfl).ten
 obtain⟨f0,ff0,f1,ff1,f2,ff2,f3,ff3,f4,ff4,f5,ff5,f6,ff6,f7,ff7,f8,ff8,f9,ff9⟩:=(M5.out.blk (i:=5) rfl).tenf
 have ne0_1a: ¬(w2.heap.size=w.heap.size+1+1):=M5.out.ne (i:=2) (j:=5) (by omega) rfl rfl rfl rfl
 have ne0_1b: ¬(w.heap.size+1+1=w2.heap.size):=fun h=>ne0_1a h.symm
 go_wp2
 clear e0 e1 e2 e3 e4 e5 e6 e7 e8 e9 f0 ff0 f1 ff1 f2 ff2 f3 ff3 f4 ff4 f5 ff5 f6 ff6 f7 ff7 f8 ff8 f9 ff9 ne0_1a ne0_1b lt5_2 lt5_5 lt5_6 lt5_7
 have M6:=xQ (((M5.out).put10 (i:=5) rfl (.int .i64 aA) (.int .i64 aB) (.slice p5 n cp5) (.int .i64 free) (.int .i64 step) (.int .i64 aE) (.int .i64 aF) (.int .i64 aC) (.int .i64 bank2) (.slice q5 m cq5)))
 generalize hwz:World.setCell _ _ _=wz
 rw[hwz]at M6
 clear hwz M5
 obtain⟨y0,y1,y2,y3,y4,y5,y6,y7,y8,y9⟩:=(M6.out.blk (i:=5) rfl).ten
 exact bodyPost_ret (v:= .tuple #[.agg #[aA,aB,.slice p5 n cp5,free,step,aE,aF,aC,bank2,.slice q5 m cq5],back,.bool true]) (by simp[results,Tryz.results28,go_sem, *]) rfl ⟨p5,cp5,q5,cq5,rfl,(M6.out.own (i:=0) rfl),(M6.out.own (i:=1) rfl),M6.out.ext⟩
theorem sW (aA aB free step aE aF aC aG one two:Int)(p:OA)(n cap:Nat)(q:OA)(m c2:Nat)(xs:List Int)(vs:List aQ)(w:World)
  (HVd:xB 40 #[.agg #[aA,aB,.slice p n cap,free,step,aE,aF,aC,aG,.slice q m c2]] w true)
  (HL:xC 60 #[.agg #[aA,aB,.slice p n cap,free,step,aE,aF,aC,aG,.slice q m c2]] w fun w' e w''=> ∃p' cap' q' c2',e= .returned (.agg #[aA,aB,.slice p' n cap',free,step,aE,aF,aC,aG,.slice q' m c2'])∧w''.ownsRow w'.heap.size TI 1 (.slice p' n cap') n (ivs xs)∧w''.ownsRow w'.heap.size TV 4 (.slice q' m c2') m (vs.flatMap aD)∧Ext w' w'')
  (HP:xC 73 #[.agg #[aA,aB,.slice p n cap,free,step,aE,aF,aC,aG,.slice q m c2],one,two] w fun w' e w''=> ∃p' cap' q' c2' b,e= .returned (.tuple #[.agg #[aA,aB,.slice p' n cap',free,step,aE,aF,aC,aG,.slice q' m c2'],b,.bool false])∧Ext w' w''):
  Calls Tryz.prog 28 #[.agg #[aA,aB,.slice p n cap,free,step,aE,aF,aC,aG,.slice q m c2],.agg #[.int .i64 1,one,two]] w fun e w'=> ∃p' cap' q' c2',e= .returned (.tuple #[.agg #[aA,aB,.slice p' n cap',free,step,aE,aF,aC,aG,.slice q' m c2'],(-1:Int),.bool false])∧w'.ownsRow w.heap.size TI 1 (.slice p' n cap') n (ivs xs)∧w'.ownsRow w.heap.size TV 4 (.slice q' m c2') m (vs.flatMap aD)∧Ext w w':=by
 go_enter Tryz.func28,Tryz.ntmps28
 go_wp2_with fail
 refine(HVd.out _ (Mem.b3 w).ext).mono ?_
 rintro e w1 ⟨rfl,hx1⟩
 have M1:=xQ ((Mem.b3 w).adv hx1)
 have lt1_0:=M1.out.hi 0
 have lt1_1:=M1.out.hi 1
 have lt1_2:=M1.out.hi 2
 clear hx1 HVd
 obtain⟨ce0,ce1,ce2,ce3,ce4,ce5,ce6,ce7,ce8,ce9⟩:=(M1.out.blk (i:=2) rfl).ten
 go_wp2_with fail
 clear ce0 ce1 ce2 ce3 ce4 ce5 ce6 ce7 ce8 ce9
 refine(HL.out _ (M1.out).ext).mono ?_
 rintro e w2 ⟨p1,cp1,q1,cq1,rfl,ho,hq,hx⟩
 have M2:=xQ ((M1.out).own2 hx ho hq (Nat.le_refl _) (by decide))
 clear M1 lt1_0 lt1_1 lt1_2
 have lt2_2:=M2.out.hi 2
 have lt2_3:=M2.out.hi 3
 have lt2_4:=M2.out.hi 4
 clear hx ho hq
 obtain⟨ce0,ce1,ce2,ce3,ce4,ce5,ce6,ce7,ce8,ce9⟩:=(M2.out.blk (i:=4) rfl).ten
 obtain⟨de0,de1,de2⟩:=(M2.out.blk (i:=3) rfl).tri
 go_wp2_with fail
 clear ce0 ce1 ce2 ce3 ce4 ce5 ce6 ce7 ce8 ce9 de0 de1 de2
 refine(HP.out _ (((M2.out).blkNew aO #[aA,aB,.slice p1 n cp1,free,step,aE,aF,aC,aG,.slice q1 m cq1] (w2.heap.size) (by simp))).ext).mono ?_
 rintro e w3 ⟨p5,cp5,q5,cq5,b5,rfl,hx⟩
 have M3:=xQ ((((M2.out).blkNew aO #[aA,aB,.slice p1 n cp1,free,step,aE,aF,aC,aG,.slice q1 m cq1] (w2.heap.size) (by simp))).adv hx)
 clear M2 lt2_2 lt2_3 lt2_4
 have lt3_0:=M3.out.hi 0
 have lt3_3:=M3.out.hi 3
 have lt3_4:=M3.out.hi 4
 have lt3_5:=M3.out.hi 5
 clear hx HP
 obtain⟨ce0,ce1,ce2,ce3,ce4,ce5,ce6,ce7,ce8,ce9⟩:=(M3.out.blk (i:=5) rfl).ten
 go_wp2_with fail
 clear ce0 ce1 ce2 ce3 ce4 ce5 ce6 ce7 ce8 ce9
 refine(HL.out _ (((M3.out).blkNew aO #[aA,aB,.slice p5 n cp5,free,step,aE,aF,aC,aG,.slice q5 m cq5] (w3.heap.size) (by simp))).ext).mono ?_
 rintro e w9 ⟨p9,cp9,q9,cq9,rfl,ho,hq,hx⟩
 have M4:=xQ ((((M3.out).blkNew aO #[aA,aB,.slice p5 n cp5,free,step,aE,aF,aC,aG,.slice q5 m cq5] (w3.heap.size) (by simp))).own2 hx ho hq (Nat.le_refl _) (by decide))
 clear M3 lt3_0 lt3_3 lt3_4 lt3_5
 have lt4_2:=M4.out.hi 2
 have lt4_3:=M4.out.hi 3
 have lt4_6:=M4.out.hi 6
 have lt4_7:=M4.out.hi 7
 have lt4_8:=M4.out.hi 8
 clear hx ho hq HL
 obtain⟨f0,ff0,f1,ff1,f2,ff2,f3,ff3,f4,ff4,f5,ff5,f6,ff6,f7,ff7,f8,ff8,f9,ff9⟩:=(M4.out.blk (i:=6) rfl).tenf
 go_wp2
 clear f0 ff0 f1 ff1 f2 ff2 f3 ff3 f4 ff4 f5 ff5 f6 ff6 f7 ff7 f8 ff8 f9 ff9 lt4_2 lt4_3 lt4_6 lt4_7 lt4_8
 have M5:=xQ (((M4.out).put10 (i:=6) rfl (.int .i64 aA) (.int .i64 aB) (.slice p9 n cp9) (.int .i64 free) (.int .i64 step) (.int .i64 aE) (.int .i64 aF) (.int .i64 aC) (.int .i64 aG) (.slice q9 m cq9)))
 generalize hwz:World.setCell _ _ _=wz
 rw[hwz]at M5
 clear hwz M4
 obtain⟨y0,y1,y2,y3,y4,y5,y6,y7,y8,y9⟩:=(M5.out.blk (i:=6) rfl).ten
 exact bodyPost_ret (v:= .tuple #[.agg #[aA,aB,.slice p9 n cp9,free,step,aE,aF,aC,aG,.slice q9 m cq9],(-1:Int),.bool false]) (by simp[results,Tryz.results28,go_sem, *]) rfl ⟨p9,cp9,q9,cq9,rfl,(M5.out.own (i:=0) rfl),(M5.out.own (i:=1) rfl),M5.out.ext⟩
theorem pD (aA aB free step aE aF aC aG one two:Int)(p:OA)(n cap:Nat)(q:OA)(m c2:Nat)(xs ys:List Int)(vs:List aQ)(w:World)
  (HVd:xB 40 #[.agg #[aA,aB,.slice p n cap,free,step,aE,aF,aC,aG,.slice q m c2]] w true)
  (HL:xC 60 #[.agg #[aA,aB,.slice p n cap,free,step,aE,aF,aC,aG,.slice q m c2]] w fun w' e w''=> ∃p' cap' q' c2',e= .returned (.agg #[aA,aB,.slice p' n cap',free,step,aE,aF,aC,aG,.slice q' m c2'])∧w''.ownsRow w'.heap.size TI 1 (.slice p' n cap') n (ivs xs)∧w''.ownsRow w'.heap.size TV 4 (.slice q' m c2') m (vs.flatMap aD)∧Ext w' w'')
  (HP:xC 78 #[aI aA aB p n cap,dK one two] w fun w' e w''=> ∃p' cap',e= .returned (.tuple #[aI aA aB p' n cap',.bool true])∧w''.ownsRow w'.heap.size TI 1 (.slice p' n cap') n (ivs ys)∧Ext w' w''):
  Calls Tryz.prog 28 #[.agg #[aA,aB,.slice p n cap,free,step,aE,aF,aC,aG,.slice q m c2],.agg #[.int .i64 4,one,two]] w fun e w'=> ∃p' cap' q' c2',e= .returned (.tuple #[.agg #[aA,aB,.slice p' n cap',free,step,aE,aF,aC,aG,.slice q' m c2'],(),.bool true])∧w'.ownsRow w.heap.size TI 1 (.slice p' n cap') n (ivs ys)∧w'.ownsRow w.heap.size TV 4 (.slice q' m c2') m (vs.flatMap aD)∧Ext w w':=by
 go_enter Tryz.func28,Tryz.ntmps28
 go_wp2_with fail
 refine(HVd.out _ (Mem.b3 w).ext).mono ?_
 rintro e w1 ⟨rfl,hx1⟩
 have M1:=xQ ((Mem.b3 w).adv hx1)
 have lt1_0:=M1.out.hi 0
 have lt1_1:=M1.out.hi 1
 have lt1_2:=M1.out.hi 2
 clear hx1 HVd
 obtain⟨ce0,ce1,ce2,ce3,ce4,ce5,ce6,ce7,ce8,ce9⟩:=(M1.out.blk (i:=2) rfl).ten
 go_wp2_with fail
 clear ce0 ce1 ce2 ce3 ce4 ce5 ce6 ce7 ce8 ce9
 refine(HL.out _ (M1.out).ext).mono ?_
 rintro e w2 ⟨p1,cp1,q1,cq1,rfl,ho,hq,hx⟩
 have M2:=xQ ((M1.out).own2 hx ho hq (Nat.le_refl _) (by decide))
 clear M1 lt1_0 lt1_1 lt1_2
 have lt2_2:=M2.out.hi 2
 have lt2_3:=M2.out.hi 3
 have lt2_4:=M2.out.hi 4
 clear hx ho hq
 obtain⟨ce0,ce1,ce2,ce3,ce4,ce5,ce6,ce7,ce8,ce9⟩:=(M2.out.blk (i:=4) rfl).ten
 obtain⟨de0,de1,de2⟩:=(M2.out.blk (i:=3) rfl).tri
 go_wp2_with fail
 clear ce0 ce1 ce2 ce3 ce4 ce5 ce6 ce7 ce8 ce9 de0 de1 de2
 refine(HP.out _ (((M2.out).blkNew aO #[aA,aB,.slice p1 n cp1,free,step,aE,aF,aC,aG,.slice q1 m cq1] (w2.heap.size) (by simp))).ext).mono ?_
 rintro e w3 ⟨p5,cp5,rfl,ho,hx⟩
 have M3:=xQ ((((M2.out).blkNew aO #[aA,aB,.slice p1 n cp1,free,step,aE,aF,aC,aG,.slice q1 m cq1] (w2.heap.size) (by simp))).call hx ho)
 clear M2 lt2_2 lt2_3 lt2_4
 have lt3_1:=M3.out.hi 1
 have lt3_4:=M3.out.hi 4
 have lt3_5:=M3.out.hi 5
 have lt3_6:=M3.out.hi 6
 clear hx ho HP HL
 obtain⟨d0,df0,d1,df1,d2,df2,d3,df3,d4,df4,d5,df5,d6,df6,d7,df7,d8,df8,d9,df9⟩:=(M3.out.blk (i:=1) rfl).tenf
 have M4:=xQ (((((((M3.out).st 1 0 (.int .i64 aA))).st 1 1 (.int .i64 aB))).st 1 2 (.slice p5 n cp5)))
 go_upto_region 32 with fail
 clear d0 df0 d1 df1 d2 df2 d3 df3 d4 df4 d5 df5 d6 df6 d7 df7 d8 df8 d9 df9 lt3_1 lt3_4 lt3_5 lt3_6
 have M5:=xQ (M4.out)
 generalize hwz:World.setCell _ _ _=w4
 rw[hwz]at M5
 clear hwz M3 M4
 have M6:=xQ (((M5.out).adv ((Ext.refl _).alloc (.cells #[aA,aB,.slice p5 n cp5] TH3))))
 generalize (w4.alloc (.cells #[aA,aB,.slice p5 n cp5] TH3))=w5 at M6⊢
 clear M5
 have lt6_1:=M6.out.hi 1
 have lt6_4:=M6.out.hi 4
 have lt6_5:=M6.out.hi 5
 have lt6_6:=M6.out.hi 6
 obtain⟨e0,e1,e2,e3,e4,e5,e6,e7,e8,e9⟩:=(M6.out.blk (i:=1) rfl).ten
 obtain⟨f0,ff0,f1,ff1,f2,ff2,f3,ff3,f4,ff4,f5,ff5,f6,ff6,f7,ff7,f8,ff8,f9,ff9⟩:=(M6.out.blk (i:=4) rfl).tenf
 have ne0_1a: ¬(w2.heap.size=w.heap.size+1+1):=M6.out.ne (i:=1) (j:=4) (by omega) rfl rfl rfl rfl
 have ne0_1b: ¬(w.heap.size+1+1=w2.heap.size):=fun h=>ne0_1a h.symm
 go_wp2
 clear e0 e1 e2 e3 e4 e5 e6 e7 e8 e9 f0 ff0 f1 ff1 f2 ff2 f3 ff3 f4 ff4 f5 ff5 f6 ff6 f7 ff7 f8 ff8 f9 ff9 ne0_1a ne0_1b lt6_1 lt6_4 lt6_5 lt6_6
 have M7:=xQ (((M6.out).put10 (i:=4) rfl (.int .i64 aA) (.int .i64 aB) (.slice p5 n cp5) (.int .i64 free) (.int .i64 step) (.int .i64 aE) (.int .i64 aF) (.int .i64 aC) (.int .i64 aG) (.slice q1 m cq1)))
 generalize hwz:World.setCell _ _ _=wz
 rw[hwz]at M7
 clear hwz M6
 obtain⟨y0,y1,y2,y3,y4,y5,y6,y7,y8,y9⟩:=(M7.out.blk (i:=4) rfl).ten
 exact bodyPost_ret (v:= .tuple #[.agg #[aA,aB,.slice p5 n cp5,free,step,aE,aF,aC,aG,.slice q1 m cq1],(),.bool true]) (by simp[results,Tryz.results28,go_sem, *]) rfl ⟨p5,cp5,q1,cq1,rfl,(M7.out.own (i:=0) rfl),(M7.out.own (i:=3) rfl),M7.out.ext⟩
theorem qP (aA aB free step aE aF aC aG one two:Int)(p:OA)(n cap:Nat)(q:OA)(m c2:Nat)(xs ys:List Int)(vs:List aQ)(w:World)
  (HVd:xB 40 #[.agg #[aA,aB,.slice p n cap,free,step,aE,aF,aC,aG,.slice q m c2]] w true)
  (HL:xC 60 #[.agg #[aA,aB,.slice p n cap,free,step,aE,aF,aC,aG,.slice q m c2]] w fun w' e w''=> ∃p' cap' q' c2',e= .returned (.agg #[aA,aB,.slice p' n cap',free,step,aE,aF,aC,aG,.slice q' m c2'])∧w''.ownsRow w'.heap.size TI 1 (.slice p' n cap') n (ivs xs)∧w''.ownsRow w'.heap.size TV 4 (.slice q' m c2') m (vs.flatMap aD)∧Ext w' w'')
  (HP:xC 78 #[aI aA aB p n cap,dK one two] w fun w' e w''=> ∃p' cap',e= .returned (.tuple #[aI aA aB p' n cap',.bool false])∧w''.ownsRow w'.heap.size TI 1 (.slice p' n cap') n (ivs ys)∧Ext w' w''):
  Calls Tryz.prog 28 #[.agg #[aA,aB,.slice p n cap,free,step,aE,aF,aC,aG,.slice q m c2],.agg #[.int .i64 4,one,two]] w fun e w'=> ∃p' cap' q' c2',e= .returned (.tuple #[.agg #[aA,aB,.slice p' n cap',free,step,aE,aF,aC,aG,.slice q' m c2'],(-1:Int),.bool false])∧w'.ownsRow w.heap.size TI 1 (.slice p' n cap') n (ivs xs)∧w'.ownsRow w.heap.size TV 4 (.slice q' m c2') m (vs.flatMap aD)∧Ext w w':=by
 go_enter Tryz.func28,Tryz.ntmps28
 go_wp2_with fail
 refine(HVd.out _ (Mem.b3 w).ext).mono ?_
 rintro e w1 ⟨rfl,hx1⟩
 have M1:=xQ ((Mem.b3 w).adv hx1)
 have lt1_0:=M1.out.hi 0
 have lt1_1:=M1.out.hi 1
 have lt1_2:=M1.out.hi 2
 clear hx1 HVd
 obtain⟨ce0,ce1,ce2,ce3,ce4,ce5,ce6,ce7,ce8,ce9⟩:=(M1.out.blk (i:=2) rfl).ten
 go_wp2_with fail
 clear ce0 ce1 ce2 ce3 ce4 ce5 ce6 ce7 ce8 ce9
 refine(HL.out _ (M1.out).ext).mono ?_
 rintro e w2 ⟨p1,cp1,q1,cq1,rfl,ho,hq,hx⟩
 have M2:=xQ ((M1.out).own2 hx ho hq (Nat.le_refl _) (by decide))
 clear M1 lt1_0 lt1_1 lt1_2
 have lt2_2:=M2.out.hi 2
 have lt2_3:=M2.out.hi 3
 have lt2_4:=M2.out.hi 4
 clear hx ho hq
 obtain⟨ce0,ce1,ce2,ce3,ce4,ce5,ce6,ce7,ce8,ce9⟩:=(M2.out.blk (i:=4) rfl).ten
 obtain⟨de0,de1,de2⟩:=(M2.out.blk (i:=3) rfl).tri
 go_wp2_with fail
 clear ce0 ce1 ce2 ce3 ce4 ce5 ce6 ce7 ce8 ce9 de0 de1 de2
 refine(HP.out _ (((M2.out).blkNew aO #[aA,aB,.slice p1 n cp1,free,step,aE,aF,aC,aG,.slice q1 m cq1] (w2.heap.size) (by simp))).ext).mono ?_
 rintro e w3 ⟨p5,cp5,rfl,ho,hx⟩
 have M3:=xQ ((((M2.out).blkNew aO #[aA,aB,.slice p1 n cp1,free,step,aE,aF,aC,aG,.slice q1 m cq1] (w2.heap.size) (by simp))).call hx ho)
 clear M2 lt2_2 lt2_3 lt2_4
 have lt3_1:=M3.out.hi 1
 have lt3_4:=M3.out.hi 4
 have lt3_5:=M3.out.hi 5
 have lt3_6:=M3.out.hi 6
 clear hx ho HP
 obtain⟨ce0,ce1,ce2,ce3,ce4,ce5,ce6,ce7,ce8,ce9⟩:=(M3.out.blk (i:=6) rfl).ten
 go_wp2_with fail
 clear ce0 ce1 ce2 ce3 ce4 ce5 ce6 ce7 ce8 ce9
 refine(HL.out _ (((M3.out).blkNew TH3 #[aA,aB,.slice p5 n cp5] (w3.heap.size) (by simp))).ext).mono ?_
 rintro e w9 ⟨p9,cp9,q9,cq9,rfl,ho,hq,hx⟩
 have M4:=xQ ((((M3.out).blkNew TH3 #[aA,aB,.slice p5 n cp5] (w3.heap.size) (by simp))).own2 hx ho hq (Nat.le_refl _) (by decide))
 clear M3 lt3_1 lt3_4 lt3_5 lt3_6
 have lt4_2:=M4.out.hi 2
 have lt4_4:=M4.out.hi 4
 have lt4_7:=M4.out.hi 7
 have lt4_8:=M4.out.hi 8
 have lt4_9:=M4.out.hi 9
 clear hx ho hq HL
 obtain⟨f0,ff0,f1,ff1,f2,ff2,f3,ff3,f4,ff4,f5,ff5,f6,ff6,f7,ff7,f8,ff8,f9,ff9⟩:=(M4.out.blk (i:=7) rfl).tenf
 go_wp2
 clear f0 ff0 f1 ff1 f2 ff2 f3 ff3 f4 ff4 f5 ff5 f6 ff6 f7 ff7 f8 ff8 f9 ff9 lt4_2 lt4_4 lt4_7 lt4_8 lt4_9
 have M5:=xQ (((M4.out).put10 (i:=7) rfl (.int .i64 aA) (.int .i64 aB) (.slice p9 n cp9) (.int .i64 free) (.int .i64 step) (.int .i64 aE) (.int .i64 aF) (.int .i64 aC) (.int .i64 aG) (.slice q9 m cq9)))
 generalize hwz:World.setCell _ _ _=wz
 rw[hwz]at M5
 clear hwz M4
 obtain⟨y0,y1,y2,y3,y4,y5,y6,y7,y8,y9⟩:=(M5.out.blk (i:=7) rfl).ten
 exact bodyPost_ret (v:= .tuple #[.agg #[aA,aB,.slice p9 n cp9,free,step,aE,aF,aC,aG,.slice q9 m cq9],(-1:Int),.bool false]) (by simp[results,Tryz.results28,go_sem, *]) rfl ⟨p9,cp9,q9,cq9,rfl,(M5.out.own (i:=0) rfl),(M5.out.own (i:=1) rfl),M5.out.ext⟩
theorem pC (aA aB free step aE aF aC aG slides one two:Int)(p:OA)(n cap:Nat)(q:OA)(m c2:Nat)(xs ys:List Int)(vs vs2:List aQ)(w:World)(h0:0≤slides)
  (HVd:xB 40 #[.agg #[aA,aB,.slice p n cap,free,step,aE,aF,aC,aG,.slice q m c2]] w true)
  (HL:xC 60 #[.agg #[aA,aB,.slice p n cap,free,step,aE,aF,aC,aG,.slice q m c2]] w fun w' e w''=> ∃p' cap' q' c2',e= .returned (.agg #[aA,aB,.slice p' n cap',free,step,aE,aF,aC,aG,.slice q' m c2'])∧w''.ownsRow w'.heap.size TI 1 (.slice p' n cap') n (ivs xs)∧w''.ownsRow w'.heap.size TV 4 (.slice q' m c2') m (vs.flatMap aD)∧Ext w' w'')
  (HP:xC 71 #[aI aA aB p n cap,one] w fun w' e w''=> ∃p' cap',e= .returned (.tuple #[aI aA aB p' n cap',slides])∧w''.ownsRow w'.heap.size TI 1 (.slice p' n cap') n (ivs ys)∧Ext w' w'')
  (HQ:xC 72 #[.slice q m c2,.agg #[one,aC,(),aC]] w fun w' e w''=> ∃q' c',e= .returned (.slice q' (m+1) c')∧w''.ownsRow w'.heap.size TV 4 (.slice q' (m+1) c') (m+1) (vs2.flatMap aD)∧Ext w' w''):
  Calls Tryz.prog 28 #[.agg #[aA,aB,.slice p n cap,free,step,aE,aF,aC,aG,.slice q m c2],.agg #[(),one,two]] w fun e w'=> ∃p' cap' q' c2',e= .returned (.tuple #[.agg #[aA,aB,.slice p' n cap',free,step,aE,aF,aC,aG,.slice q' (m+1) c2'],slides,.bool true])∧w'.ownsRow w.heap.size TI 1 (.slice p' n cap') n (ivs ys)∧w'.ownsRow w.heap.size TV 4 (.slice q' (m+1) c2') (m+1) (vs2.flatMap aD)∧Ext w w':=by
 go_enter Tryz.func28,Tryz.ntmps28
 go_wp2_with fail
 refine(HVd.out _ (Mem.b3 w).ext).mono ?_
 rintro e w1 ⟨rfl,hx1⟩
 have M1:=xQ ((Mem.b3 w).adv hx1)
 have lt1_0:=M1.out.hi 0
 have lt1_1:=M1.out.hi 1
 have lt1_2:=M1.out.hi 2
 clear hx1 HVd
 obtain⟨ce0,ce1,ce2,ce3,ce4,ce5,ce6,ce7,ce8,ce9⟩:=(M1.out.blk (i:=2) rfl).ten
 go_wp2_with fail
 clear ce0 ce1 ce2 ce3 ce4 ce5 ce6 ce7 ce8 ce9
 refine(HL.out _ (M1.out).ext).mono ?_
 rintro e w2 ⟨p1,cp1,q1,cq1,rfl,ho,hq,hx⟩
 have M2:=xQ ((M1.out).own2 hx ho hq (Nat.le_refl _) (by decide))
 clear M1 lt1_0 lt1_1 lt1_2
 have lt2_2:=M2.out.hi 2
 have lt2_3:=M2.out.hi 3
 have lt2_4:=M2.out.hi 4
 clear hx ho hq
 obtain⟨ce0,ce1,ce2,ce3,ce4,ce5,ce6,ce7,ce8,ce9⟩:=(M2.out.blk (i:=4) rfl).ten
 obtain⟨de0,de1,de2⟩:=(M2.out.blk (i:=3) rfl).tri
 go_wp2_with fail
 clear ce0 ce1 ce2 ce3 ce4 ce5 ce6 ce7 ce8 ce9 de0 de1 de2
 refine(HP.out _ (((M2.out).blkNew aO #[aA,aB,.slice p1 n cp1,free,step,aE,aF,aC,aG,.slice q1 m cq1] (w2.heap.size) (by simp))).ext).mono ?_
 rintro e w3 ⟨p5,cp5,rfl,ho,hx⟩
 have M3:=xQ ((((M2.out).blkNew aO #[aA,aB,.slice p1 n cp1,free,step,aE,aF,aC,aG,.slice q1 m cq1] (w2.heap.size) (by simp))).call hx ho)
 clear M2 lt2_2 lt2_3 lt2_4
 have lt3_1:=M3.out.hi 1
 have lt3_4:=M3.out.hi 4
 have lt3_5:=M3.out.hi 5
 have lt3_6:=M3.out.hi 6
 clear hx ho HP HL
 have d0:w3.cell? ⟨w2.heap.size,0,none⟩=some (.int .i64 aA):=(M3.out.blk (i:=1) rfl).cell 0
 have df0:w3.frozen? ⟨w2.heap.size,0,none⟩=false:=(M3.out.blk (i:=1) rfl).frozen 0
 have d1:w3.cell? ⟨w2.heap.size,1,none⟩=some (.int .i64 aB):=(M3.out.blk (i:=1) rfl).cell 1
 have df1:w3.frozen? ⟨w2.heap.size,1,none⟩=false:=(M3.out.blk (i:=1) rfl).frozen 1
 have d2:w3.cell? ⟨w2.heap.size,2,none⟩=some (.slice p1 n cp1):=(M3.out.blk (i:=1) rfl).cell 2
 have df2:w3.frozen? ⟨w2.heap.size,2,none⟩=false:=(M3.out.blk (i:=1) rfl).frozen 2
 have ce7:w3.cell? ⟨w.heap.size,7,none⟩=some (.int .i64 aC):=(M3.out.blk (i:=6) rfl).cell 7
 have ce9:w3.cell? ⟨w.heap.size,9,none⟩=some (.slice q m c2):=(M3.out.blk (i:=6) rfl).cell 9
 have de1:w3.cell? ⟨w.heap.size+1,1,none⟩=some (.int .i64 one):=(M3.out.blk (i:=5) rfl).cell 1
 have ne0_1a: ¬(w.heap.size+1=w.heap.size):=M3.out.ne (i:=5) (j:=6) (by omega) rfl rfl rfl rfl
 have ne0_1b: ¬(w.heap.size=w.heap.size+1):=fun h=>ne0_1a h.symm
 have ne0_2a: ¬(w2.heap.size=w.heap.size):=M3.out.ne (i:=1) (j:=6) (by omega) rfl rfl rfl rfl
 have ne0_2b: ¬(w.heap.size=w2.heap.size):=fun h=>ne0_2a h.symm
 have ne1_2a: ¬(w2.heap.size=w.heap.size+1):=M3.out.ne (i:=1) (j:=5) (by omega) rfl rfl rfl rfl
 have ne1_2b: ¬(w.heap.size+1=w2.heap.size):=fun h=>ne1_2a h.symm
 have hd:decide (slides<0)=false:=by simp;omega
 have hd2:decide (0≤slides)=true:=by simp;omega
 have M4:=xQ (((((((M3.out).st 1 0 (.int .i64 aA))).st 1 1 (.int .i64 aB))).st 1 2 (.slice p5 n cp5)))
 go_wp2_with fail
 clear d0 df0 d1 df1 d2 df2 ce7 ce9 de1 ne0_1a ne0_1b ne0_2a ne0_2b ne1_2a ne1_2b
 refine(HQ.out _ (((M4.out).adv ((Ext.refl _).alloc (.cells #[aA,aB,.slice p5 n cp5] TH3)))).ext).mono ?_
 rintro e w4 ⟨q7,c7,rfl,ho,hx⟩
 have M5:=xQ ((((M4.out).adv ((Ext.refl _).alloc (.cells #[aA,aB,.slice p5 n cp5] TH3)))).call hx ho)
 clear M3 lt3_1 lt3_4 lt3_5 lt3_6
 have lt5_2:=M5.out.hi 2
 have lt5_5:=M5.out.hi 5
 have lt5_6:=M5.out.hi 6
 have lt5_7:=M5.out.hi 7
 clear hx ho HQ
 obtain⟨e0,ef0,e1,ef1,e2,ef2,e3,ef3,e4,ef4,e5,ef5,e6,ef6,e7,ef7,e8,ef8,e9,ef9⟩:=(M5.out.blk (i:=2) rfl).tenf
 obtain⟨f0,ff0,f1,ff1,f2,ff2,f3,ff3,f4,ff4,f5,ff5,f6,ff6,f7,ff7,f8,ff8,f9,ff9⟩:=(M5.out.blk (i:=5) rfl).tenf
 have ne0_1a: ¬(w2.heap.size=w.heap.size+1+1):=M5.out.ne (i:=2) (j:=5) (by omega) rfl rfl rfl rfl
 have ne0_1b: ¬(w.heap.size+1+1=w2.heap.size):=fun h=>ne0_1a h.symm
 have M6:=xQ (((M5.out).st 2 9 (.slice q7 (m+1) c7)))
 go_wp2
 clear e0 ef0 e1 ef1 e2 ef2 e3 ef3 e4 ef4 e5 ef5 e6 ef6 e7 ef7 e8 ef8 e9 ef9 f0 ff0 f1 ff1 f2 ff2 f3 ff3 f4 ff4 f5 ff5 f6 ff6 f7 ff7 f8 ff8 f9 ff9 ne0_1a ne0_1b lt5_2 lt5_5 lt5_6 lt5_7
 have M7:=xQ (((M6.out).put10 (i:=5) rfl (.int .i64 aA) (.int .i64 aB) (.slice p5 n cp5) (.int .i64 free) (.int .i64 step) (.int .i64 aE) (.int .i64 aF) (.int .i64 aC) (.int .i64 aG) (.slice q7 (m+1) c7)))
 generalize hwz:World.setCell _ _ _=wz
 rw[hwz]at M7
 clear hwz M5 M4 M6
 obtain⟨y0,y1,y2,y3,y4,y5,y6,y7,y8,y9⟩:=(M7.out.blk (i:=5) rfl).ten
 exact bodyPost_ret (v:= .tuple #[.agg #[aA,aB,.slice p5 n cp5,free,step,aE,aF,aC,aG,.slice q7 (m+1) c7],slides,.bool true]) (by simp[results,Tryz.results28,go_sem, *]) rfl ⟨p5,cp5,q7,c7,rfl,(M7.out.own (i:=1) rfl),(M7.out.own (i:=0) rfl),M7.out.ext⟩
theorem qO (aA aB free step aE aF aC aG slides one two:Int)(p:OA)(n cap:Nat)(q:OA)(m c2:Nat)(xs ys:List Int)(vs:List aQ)(w:World)(h0:slides<0)
  (HVd:xB 40 #[.agg #[aA,aB,.slice p n cap,free,step,aE,aF,aC,aG,.slice q m c2]] w true)
  (HL:xC 60 #[.agg #[aA,aB,.slice p n cap,free,step,aE,aF,aC,aG,.slice q m c2]] w fun w' e w''=> ∃p' cap' q' c2',e= .returned (.agg #[aA,aB,.slice p' n cap',free,step,aE,aF,aC,aG,.slice q' m c2'])∧w''.ownsRow w'.heap.size TI 1 (.slice p' n cap') n (ivs xs)∧w''.ownsRow w'.heap.size TV 4 (.slice q' m c2') m (vs.flatMap aD)∧Ext w' w'')
  (HP:xC 71 #[aI aA aB p n cap,one] w fun w' e w''=> ∃p' cap',e= .returned (.tuple #[aI aA aB p' n cap',slides])∧w''.ownsRow w'.heap.size TI 1 (.slice p' n cap') n (ivs ys)∧Ext w' w''):
  Calls Tryz.prog 28 #[.agg #[aA,aB,.slice p n cap,free,step,aE,aF,aC,aG,.slice q m c2],.agg #[(),one,two]] w fun e w'=> ∃p' cap' q' c2',e= .returned (.tuple #[.agg #[aA,aB,.slice p' n cap',free,step,aE,aF,aC,aG,.slice q' m c2'],(-1:Int),.bool false])∧w'.ownsRow w.heap.size TI 1 (.slice p' n cap') n (ivs xs)∧w'.ownsRow w.heap.size TV 4 (.slice q' m c2') m (vs.flatMap aD)∧Ext w w':=by
 go_enter Tryz.func28,Tryz.ntmps28
 go_wp2_with fail
 refine(HVd.out _ (Mem.b3 w).ext).mono ?_
 rintro e w1 ⟨rfl,hx1⟩
 have M1:=xQ ((Mem.b3 w).adv hx1)
 have lt1_0:=M1.out.hi 0
 have lt1_1:=M1.out.hi 1
 have lt1_2:=M1.out.hi 2
 clear hx1 HVd
 obtain⟨ce0,ce1,ce2,ce3,ce4,ce5,ce6,ce7,ce8,ce9⟩:=(M1.out.blk (i:=2) rfl).ten
 go_wp2_with fail
 clear ce0 ce1 ce2 ce3 ce4 ce5 ce6 ce7 ce8 ce9
 refine(HL.out _ (M1.out).ext).mono ?_
 rintro e w2 ⟨p1,cp1,q1,cq1,rfl,ho,hq,hx⟩
 have M2:=xQ ((M1.out).own2 hx ho hq (Nat.le_refl _) (by decide))
 clear M1 lt1_0 lt1_1 lt1_2
 have lt2_2:=M2.out.hi 2
 have lt2_3:=M2.out.hi 3
 have lt2_4:=M2.out.hi 4
 clear hx ho hq
 obtain⟨ce0,ce1,ce2,ce3,ce4,ce5,ce6,ce7,ce8,ce9⟩:=(M2.out.blk (i:=4) rfl).ten
 obtain⟨de0,de1,de2⟩:=(M2.out.blk (i:=3) rfl).tri
 go_wp2_with fail
 clear ce0 ce1 ce2 ce3 ce4 ce5 ce6 ce7 ce8 ce9 de0 de1 de2
 refine(HP.out _ (((M2.out).blkNew aO #[aA,aB,.slice p1 n cp1,free,step,aE,aF,aC,aG,.slice q1 m cq1] (w2.heap.size) (by simp))).ext).mono ?_
 rintro e w3 ⟨p5,cp5,rfl,ho,hx⟩
 have M3:=xQ ((((M2.out).blkNew aO #[aA,aB,.slice p1 n cp1,free,step,aE,aF,aC,aG,.slice q1 m cq1] (w2.heap.size) (by simp))).call hx ho)
 clear M2 lt2_2 lt2_3 lt2_4
 have lt3_1:=M3.out.hi 1
 have lt3_4:=M3.out.hi 4
 have lt3_5:=M3.out.hi 5
 have lt3_6:=M3.out.hi 6
 clear hx ho HP
 have hd2:decide (0≤slides)=false:=by simp;omega
 obtain⟨ce0,ce1,ce2,ce3,ce4,ce5,ce6,ce7,ce8,ce9⟩:=(M3.out.blk (i:=6) rfl).ten
 go_wp2_with fail
 clear ce0 ce1 ce2 ce3 ce4 ce5 ce6 ce7 ce8 ce9
 refine(HL.out _ (((M3.out).blkNew TH3 #[aA,aB,.slice p5 n cp5] (w3.heap.size) (by simp))).ext).mono ?_
 rintro e w9 ⟨p9,cp9,q9,cq9,rfl,ho,hq,hx⟩
 have M4:=xQ ((((M3.out).blkNew TH3 #[aA,aB,.slice p5 n cp5] (w3.heap.size) (by simp))).own2 hx ho hq (Nat.le_refl _) (by decide))
 clear M3 lt3_1 lt3_4 lt3_5 lt3_6
 have lt4_2:=M4.out.hi 2
 have lt4_4:=M4.out.hi 4
 have lt4_7:=M4.out.hi 7
 have lt4_8:=M4.out.hi 8
 have lt4_9:=M4.out.hi 9
 clear hx ho hq HL
 obtain⟨f0,ff0,f1,ff1,f2,ff2,f3,ff3,f4,ff4,f5,ff5,f6,ff6,f7,ff7,f8,ff8,f9,ff9⟩:=(M4.out.blk (i:=7) rfl).tenf
 go_wp2
 clear f0 ff0 f1 ff1 f2 ff2 f3 ff3 f4 ff4 f5 ff5 f6 ff6 f7 ff7 f8 ff8 f9 ff9 lt4_2 lt4_4 lt4_7 lt4_8 lt4_9
 have M5:=xQ (((M4.out).put10 (i:=7) rfl (.int .i64 aA) (.int .i64 aB) (.slice p9 n cp9) (.int .i64 free) (.int .i64 step) (.int .i64 aE) (.int .i64 aF) (.int .i64 aC) (.int .i64 aG) (.slice q9 m cq9)))
 generalize hwz:World.setCell _ _ _=wz
 rw[hwz]at M5
 clear hwz M4
 obtain⟨y0,y1,y2,y3,y4,y5,y6,y7,y8,y9⟩:=(M5.out.blk (i:=7) rfl).ten
 exact bodyPost_ret (v:= .tuple #[.agg #[aA,aB,.slice p9 n cp9,free,step,aE,aF,aC,aG,.slice q9 m cq9],(-1:Int),.bool false]) (by simp[results,Tryz.results28,go_sem, *]) rfl ⟨p9,cp9,q9,cq9,rfl,(M5.out.own (i:=0) rfl),(M5.out.own (i:=1) rfl),M5.out.ext⟩
theorem qQ (aA aB free step aE aF aC aG slides ix one two:Int)(p:OA)(n cap:Nat)(q:OA)(m c2:Nat)(xs ys:List Int)(vs:List aQ)(w:World)(mb:Bool)(hno:mb=true→slides<0)
  (HVd:xB 40 #[.agg #[aA,aB,.slice p n cap,free,step,aE,aF,aC,aG,.slice q m c2]] w true)
  (HL:xC 60 #[.agg #[aA,aB,.slice p n cap,free,step,aE,aF,aC,aG,.slice q m c2]] w fun w' e w''=> ∃p' cap' q' c2',e= .returned (.agg #[aA,aB,.slice p' n cap',free,step,aE,aF,aC,aG,.slice q' m c2'])∧w''.ownsRow w'.heap.size TI 1 (.slice p' n cap') n (ivs xs)∧w''.ownsRow w'.heap.size TV 4 (.slice q' m c2') m (vs.flatMap aD)∧Ext w' w'')
  (HP:xC 74 #[aI aA aB p n cap,one] w fun w' e w''=> ∃p' cap',e= .returned (.tuple #[aI aA aB p' n cap',slides])∧w''.ownsRow w'.heap.size TI 1 (.slice p' n cap') n (ivs ys)∧Ext w' w'')
  (HF:xC 75 #[.agg #[aA,aB,.slice p n cap,free,step,aE,aF,aC,aG,.slice q m c2],one] w fun w' e w''=>e= .returned (.int .i64 (ix))∧Ext w' w'')
  (HM:xB 76 #[.agg #[aA,aB,.slice p n cap,free,step,aE,aF,aC,aG,.slice q m c2],one] w mb):
  Calls Tryz.prog 28 #[.agg #[aA,aB,.slice p n cap,free,step,aE,aF,aC,aG,.slice q m c2],.agg #[.int .i64 2,one,two]] w fun e w'=> ∃p' cap' q' c2',e= .returned (.tuple #[.agg #[aA,aB,.slice p' n cap',free,step,aE,aF,aC,aG,.slice q' m c2'],(-1:Int),.bool false])∧w'.ownsRow w.heap.size TI 1 (.slice p' n cap') n (ivs xs)∧w'.ownsRow w.heap.size TV 4 (.slice q' m c2') m (vs.flatMap aD)∧Ext w w':=by
 go_enter Tryz.func28,Tryz.ntmps28
 go_wp2_with fail
 refine(HVd.out _ (Mem.b3 w).ext).mono ?_
 rintro e w1 ⟨rfl,hx1⟩
 have M1:=xQ ((Mem.b3 w).adv hx1)
 have lt1_0:=M1.out.hi 0
 have lt1_1:=M1.out.hi 1
 have lt1_2:=M1.out.hi 2
 clear hx1 HVd
 obtain⟨ce0,ce1,ce2,ce3,ce4,ce5,ce6,ce7,ce8,ce9⟩:=(M1.out.blk (i:=2) rfl).ten
 go_wp2_with fail
 clear ce0 ce1 ce2 ce3 ce4 ce5 ce6 ce7 ce8 ce9
 refine(HL.out _ (M1.out).ext).mono ?_
 rintro e w2 ⟨p1,cp1,q1,cq1,rfl,ho,hq,hx⟩
 have M2:=xQ ((M1.out).own2 hx ho hq (Nat.le_refl _) (by decide))
 clear M1 lt1_0 lt1_1 lt1_2
 have lt2_2:=M2.out.hi 2
 have lt2_3:=M2.out.hi 3
 have lt2_4:=M2.out.hi 4
 clear hx ho hq
 obtain⟨ce0,ce1,ce2,ce3,ce4,ce5,ce6,ce7,ce8,ce9⟩:=(M2.out.blk (i:=4) rfl).ten
 obtain⟨de0,de1,de2⟩:=(M2.out.blk (i:=3) rfl).tri
 go_wp2_with fail
 clear ce0 ce1 ce2 ce3 ce4 ce5 ce6 ce7 ce8 ce9 de0 de1 de2
 refine(HP.out _ (((M2.out).blkNew aO #[aA,aB,.slice p1 n cp1,free,step,aE,aF,aC,aG,.slice q1 m cq1] (w2.heap.size) (by simp))).ext).mono ?_
 rintro e w3 ⟨p5,cp5,rfl,ho,hx⟩
 have M3:=xQ ((((M2.out).blkNew aO #[aA,aB,.slice p1 n cp1,free,step,aE,aF,aC,aG,.slice q1 m cq1] (w2.heap.size) (by simp))).call hx ho)
 clear M2 lt2_2 lt2_3 lt2_4
 have lt3_1:=M3.out.hi 1
 have lt3_4:=M3.out.hi 4
 have lt3_5:=M3.out.hi 5
 have lt3_6:=M3.out.hi 6
 clear hx ho HP
 obtain⟨ce0,ce1,ce2,ce3,ce4,ce5,ce6,ce7,ce8,ce9⟩:=(M3.out.blk (i:=6) rfl).ten
 obtain⟨de0,de1,de2⟩:=(M3.out.blk (i:=5) rfl).tri
 go_wp2_with fail
 clear ce0 ce1 ce2 ce3 ce4 ce5 ce6 ce7 ce8 ce9 de0 de1 de2
 refine(HF.out _ (((M3.out).blkNew TH3 #[aA,aB,.slice p5 n cp5] (w3.heap.size) (by simp))).ext).mono ?_
 rintro e w4 ⟨rfl,hx4⟩
 have M4:=xQ ((((M3.out).blkNew TH3 #[aA,aB,.slice p5 n cp5] (w3.heap.size) (by simp))).adv hx4)
 clear M3 lt3_1 lt3_4 lt3_5 lt3_6
 have lt4_0:=M4.out.hi 0
 have lt4_2:=M4.out.hi 2
 have lt4_5:=M4.out.hi 5
 have lt4_6:=M4.out.hi 6
 have lt4_7:=M4.out.hi 7
 clear hx4 HF
 obtain⟨ce0,ce1,ce2,ce3,ce4,ce5,ce6,ce7,ce8,ce9⟩:=(M4.out.blk (i:=7) rfl).ten
 obtain⟨de0,de1,de2⟩:=(M4.out.blk (i:=6) rfl).tri
 go_wp2_with fail
 clear ce0 ce1 ce2 ce3 ce4 ce5 ce6 ce7 ce8 ce9 de0 de1 de2
 refine(HM.out _ (M4.out).ext).mono ?_
 rintro e w5 ⟨rfl,hx5⟩
 have M5:=xQ ((M4.out).adv hx5)
 clear M4 lt4_0 lt4_2 lt4_5 lt4_6 lt4_7
 have lt5_0:=M5.out.hi 0
 have lt5_2:=M5.out.hi 2
 have lt5_5:=M5.out.hi 5
 have lt5_6:=M5.out.hi 6
 have lt5_7:=M5.out.hi 7
 clear hx5 HM
 cases mb with
 |true=>
   have hd2:decide (0≤slides)=false:=by simp;have:=hno rfl;omega
   obtain⟨ce0,ce1,ce2,ce3,ce4,ce5,ce6,ce7,ce8,ce9⟩:=(M5.out.blk (i:=7) rfl).ten
   go_wp2_with fail
   clear ce0 ce1 ce2 ce3 ce4 ce5 ce6 ce7 ce8 ce9
   refine(HL.out _ (M5.out).ext).mono ?_
   rintro e w9 ⟨p9,cp9,q9,cq9,rfl,ho,hq,hx⟩
   have M6:=xQ ((M5.out).own2 hx ho hq (Nat.le_refl _) (by decide))
   clear M5 lt5_0 lt5_2 lt5_5 lt5_6 lt5_7
   have lt6_2:=M6.out.hi 2
   have lt6_4:=M6.out.hi 4
   have lt6_7:=M6.out.hi 7
   have lt6_8:=M6.out.hi 8
   have lt6_9:=M6.out.hi 9
   clear hx ho hq HL
   obtain⟨f0,ff0,f1,ff1,f2,ff2,f3,ff3,f4,ff4,f5,ff5,f6,ff6,f7,ff7,f8,ff8,f9,ff9⟩:=(M6.out.blk (i:=7) rfl).tenf
   go_wp2
   clear f0 ff0 f1 ff1 f2 ff2 f3 ff3 f4 ff4 f5 ff5 f6 ff6 f7 ff7 f8 ff8 f9 ff9 lt6_2 lt6_4 lt6_7 lt6_8 lt6_9
   have M7:=xQ (((M6.out).put10 (i:=7) rfl (.int .i64 aA) (.int .i64 aB) (.slice p9 n cp9) (.int .i64 free) (.int .i64 step) (.int .i64 aE) (.int .i64 aF) (.int .i64 aC) (.int .i64 aG) (.slice q9 m cq9)))
   generalize hwz:World.setCell _ _ _=wz
   rw[hwz]at M7
   clear hwz M6
   obtain⟨y0,y1,y2,y3,y4,y5,y6,y7,y8,y9⟩:=(M7.out.blk (i:=7) rfl).ten
   exact bodyPost_ret (v:= .tuple #[.agg #[aA,aB,.slice p9 n cp9,free,step,aE,aF,aC,aG,.slice q9 m cq9],(-1:Int),.bool false]) (by simp[results,Tryz.results28,go_sem, *]) rfl ⟨p9,cp9,q9,cq9,rfl,(M7.out.own (i:=0) rfl),(M7.out.own (i:=1) rfl),M7.out.ext⟩
 |false=>
   obtain⟨ce0,ce1,ce2,ce3,ce4,ce5,ce6,ce7,ce8,ce9⟩:=(M5.out.blk (i:=7) rfl).ten
   go_wp2_with fail
   clear ce0 ce1 ce2 ce3 ce4 ce5 ce6 ce7 ce8 ce9
   refine(HL.out _ (M5.out).ext).mono ?_
   rintro e w9 ⟨p9,cp9,q9,cq9,rfl,ho,hq,hx⟩
   have M6:=xQ ((M5.out).own2 hx ho hq (Nat.le_refl _) (by decide))
   clear M5 lt5_0 lt5_2 lt5_5 lt5_6 lt5_7
   have lt6_2:=M6.out.hi 2
   have lt6_4:=M6.out.hi 4
   have lt6_7:=M6.out.hi 7
   have lt6_8:=M6.out.hi 8
   have lt6_9:=M6.out.hi 9
   clear hx ho hq HL
   obtain⟨f0,ff0,f1,ff1,f2,ff2,f3,ff3,f4,ff4,f5,ff5,f6,ff6,f7,ff7,f8,ff8,f9,ff9⟩:=(M6.out.blk (i:=7) rfl).tenf
   go_wp2
   clear f0 ff0 f1 ff1 f2 ff2 f3 ff3 f4 ff4 f5 ff5 f6 ff6 f7 ff7 f8 ff8 f9 ff9 lt6_2 lt6_4 lt6_7 lt6_8 lt6_9
   have M7:=xQ (((M6.out).put10 (i:=7) rfl (.int .i64 aA) (.int .i64 aB) (.slice p9 n cp9) (.int .i64 free) (.int .i64 step) (.int .i64 aE) (.int .i64 aF) (.int .i64 aC) (.int .i64 aG) (.slice q9 m cq9)))
   generalize hwz:World.setCell _ _ _=wz
   rw[hwz]at M7
   clear hwz M6
   obtain⟨y0,y1,y2,y3,y4,y5,y6,y7,y8,y9⟩:=(M7.out.blk (i:=7) rfl).ten
   exact bodyPost_ret (v:= .tuple #[.agg #[aA,aB,.slice p9 n cp9,free,step,aE,aF,aC,aG,.slice q9 m cq9],(-1:Int),.bool false]) (by simp[results,Tryz.results28,go_sem, *]) rfl ⟨p9,cp9,q9,cq9,rfl,(M7.out.own (i:=0) rfl),(M7.out.own (i:=1) rfl),M7.out.ext⟩
end Go.Proofs.YtgnkoffndhmhpaaGreatDoor
