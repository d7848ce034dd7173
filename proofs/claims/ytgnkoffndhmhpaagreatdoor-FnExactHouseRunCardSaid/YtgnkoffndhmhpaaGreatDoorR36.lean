/-
  Texts of this proof, packed (@packed).
-/
import Derived.Test.YtgnkoffndhmhpaaGreatDoorR10
import Derived.Test.YtgnkoffndhmhpaaGreatDoorR22
import Derived.Test.YtgnkoffndhmhpaaGreatDoorR28
import Derived.Test.YtgnkoffndhmhpaaGreatDoorR34
import Derived.Test.YtgnkoffndhmhpaaGreatDoorR35
namespace Go.Proofs.YtgnkoffndhmhpaaGreatDoor
open Go.RowKit
set_option linter.unusedVariables false
set_option linter.unusedSimpArgs false
set_option maxHeartbeats 8000000
set_option maxRecDepth 100000
theorem fO (aA aB free step aE aF aC aG kind one two:Int)(p:OA)(n cap:Nat)(q:OA)(m c2:Nat)(xs ys:List Int)(vs:List aQ)(w:World)
  (HVd:xB 30 #[.agg #[aA,aB,.slice p n cap,free,step,aE,aF,aC,aG,.slice q m c2]] w true)
  (HL:xC 62 #[.agg #[aA,aB,.slice p n cap,free,step,aE,aF,aC,aG,.slice q m c2]] w fun w' e w''=> ∃p' cap' q' c2',e= .returned (.agg #[aA,aB,.slice p' n cap',free,step,aE,aF,aC,aG,.slice q' m c2'])∧w''.ownsRow w'.heap.size TI 1 (.slice p' n cap') n (ivs xs)∧w''.ownsRow w'.heap.size TV 4 (.slice q' m c2') m (vs.flatMap aD)∧Ext w' w'')
  (D:(kind≠0∧kind≠1∧kind≠2∧kind≠3∧kind≠4)∨(kind=3∧0≤aC∧aC≤9999∧one<1)∨(kind=3∧0≤aC∧aC≤9999∧1≤one∧9999-aC<one)∨(kind=4∧(∀w',Ext w w'→Calls Tryz.prog 70 #[aI aA aB p n cap,dK one two] w' fun e w''=> ∃q c,e= .returned (.tuple #[aI aA aB q n c,.bool false])∧w''.ownsRow w'.heap.size TI 1 (.slice q n c) n (ivs ys)∧Ext w' w''))∨(kind=0∧(∀w' R gA p1 cp1 q1 cq1,Mem w w' ([aJ w.heap.size TI 1 (p1) (n) (cp1) (ivs xs),aJ w.heap.size TV 4 (q1) (m) (cq1) (vs.flatMap aD),aL w.heap.size (gA) aO #[aA,aB,.slice p1 n cp1,free,step,aE,aF,aC,aG,.slice q1 m cq1]]++ [R])→Calls Tryz.prog 67 #[.pointer (some ⟨gA,0,none⟩),one] w' fun e w''=>e= .returned (.tuple #[(-1:Int),.bool false])∧Ext w' w''))∨(kind=1∧(∀w' R gA p1 cp1 q1 cq1,Mem w w' ([aJ w.heap.size TI 1 (p1) (n) (cp1) (ivs xs),aJ w.heap.size TV 4 (q1) (m) (cq1) (vs.flatMap aD),aL w.heap.size (gA) aO #[aA,aB,.slice p1 n cp1,free,step,aE,aF,aC,aG,.slice q1 m cq1]]++ [R])→Calls Tryz.prog 68 #[.pointer (some ⟨gA,0,none⟩),one,two] w' fun e w''=>e= .returned (.tuple #[(-1:Int),.bool false])∧Ext w' w''))∨(kind=2∧(∀w' R gA p1 cp1 q1 cq1,Mem w w' ([aJ w.heap.size TI 1 (p1) (n) (cp1) (ivs xs),aJ w.heap.size TV 4 (q1) (m) (cq1) (vs.flatMap aD),aL w.heap.size (gA) aO #[aA,aB,.slice p1 n cp1,free,step,aE,aF,aC,aG,.slice q1 m cq1]]++ [R])→Calls Tryz.prog 69 #[.pointer (some ⟨gA,0,none⟩),one] w' fun e w''=>e= .returned (.tuple #[(-1:Int),.bool false])∧Ext w' w''))):
  Calls Tryz.prog 27 #[.agg #[aA,aB,.slice p n cap,free,step,aE,aF,aC,aG,.slice q m c2],.agg #[kind,one,two]] w fun e w'=> ∃p' cap' q' c2',e= .returned (.tuple #[.agg #[aA,aB,.slice p' n cap',free,step,aE,aF,aC,aG,.slice q' m c2'],(-1:Int),.bool false])∧w'.ownsRow w.heap.size TI 1 (.slice p' n cap') n (ivs xs)∧w'.ownsRow w.heap.size TV 4 (.slice q' m c2') m (vs.flatMap aD)∧Ext w w':=by
 go_enter Tryz.func27,Tryz.ntmps27
 go_wp2_with fail
 refine(HVd.out _ (Mem.b3 w).ext).mono ?_
 rintro e w1 ⟨rfl,hx1⟩
 have M1:=xQ ((Mem.b3 w).adv hx1)
 have lt1_0:=M1.out.hi 0
 have lt1_1:=M1.out.hi 1
 have lt1_2:=M1.out.hi 2
 clear hx1 HVd
 obtain⟨ce0,ce1,ce2,ce3,ce4,ce5,ce6,ce7,ce8,ce9⟩:=(M1.out.blk (i:=2) rfl).ten
 go_wp2_with fail
 clear ce0 ce1 ce2 ce3 ce4 ce5 ce6 ce7 ce8 ce9
 refine(HL.out _ (M1.out).ext).mono ?_
 rintro e w2 ⟨p1,cp1,q1,cq1,rfl,ho,hq,hx⟩
 have M2:=xQ ((M1.out).own2 hx ho hq (Nat.le_refl _) (by decide))
 clear M1 lt1_0 lt1_1 lt1_2
 have lt2_2:=M2.out.hi 2
 have lt2_3:=M2.out.hi 3
 have lt2_4:=M2.out.hi 4
 clear hx ho hq
 go_upto_region 5 with fail
 obtain⟨gA,hgA⟩: ∃gA,gA=w2.heap.size:=⟨_,rfl⟩
 rw[←hgA]
 have M3:=xQ (((M2.out).blkNew aO #[aA,aB,.slice p1 n cp1,free,step,aE,aF,aC,aG,.slice q1 m cq1] gA hgA.symm))
 generalize World.alloc _ _=w3 at M3⊢
 clear M2 lt2_2 lt2_3 lt2_4
 have lt3_0:=M3.out.hi 0
 have lt3_3:=M3.out.hi 3
 have lt3_4:=M3.out.hi 4
 have lt3_5:=M3.out.hi 5
 clear hgA
 rcases D with⟨h0,h1,h2,h3,h4⟩|⟨rfl,hc,hc2,h1⟩|⟨rfl,hc,hc2,h1,h2⟩|⟨rfl,hS⟩|⟨rfl,hN⟩|⟨rfl,hN⟩|⟨rfl,hN⟩
 ·obtain⟨ce0,ce1,ce2,ce3,ce4,ce5,ce6,ce7,ce8,ce9⟩:=(M3.out.blk (i:=5) rfl).ten
  have de0:w3.cell? ⟨w.heap.size+1,0,none⟩=some (.int .i64 kind):=(M3.out.blk (i:=4) rfl).cell 0
  have k0:(kind==0)=false:=by simp;omega
  have k1:(kind==1)=false:=by simp;omega
  have k2:(kind==2)=false:=by simp;omega
  have k3:(kind==3)=false:=by simp;omega
  have k4:(kind==4)=false:=by simp;omega
  go_wp2_with fail
  clear ce0 ce1 ce2 ce3 ce4 ce5 ce6 ce7 ce8 ce9 de0
  refine(HL.out _ (M3.out).ext).mono ?_
  rintro e w9 ⟨p9,cp9,q9,cq9,rfl,ho,hq,hx⟩
  have M4:=xQ ((M3.out).own2 hx ho hq (Nat.le_refl _) (by decide))
  clear M3 lt3_0 lt3_3 lt3_4 lt3_5
  have lt4_2:=M4.out.hi 2
  have lt4_5:=M4.out.hi 5
  have lt4_6:=M4.out.hi 6
  have lt4_7:=M4.out.hi 7
  clear hx ho hq HL
  obtain⟨f0,ff0,f1,ff1,f2,ff2,f3,ff3,f4,ff4,f5,ff5,f6,ff6,f7,ff7,f8,ff8,f9,ff9⟩:=(M4.out.blk (i:=5) rfl).tenf
  go_wp2
  clear f0 ff0 f1 ff1 f2 ff2 f3 ff3 f4 ff4 f5 ff5 f6 ff6 f7 ff7 f8 ff8 f9 ff9 lt4_2 lt4_5 lt4_6 lt4_7
  have M5:=xQ (((M4.out).put10 (i:=5) rfl (.int .i64 aA) (.int .i64 aB) (.slice p9 n cp9) (.int .i64 free) (.int .i64 step) (.int .i64 aE) (.int .i64 aF) (.int .i64 aC) (.int .i64 aG) (.slice q9 m cq9)))
  generalize hwz:World.setCell _ _ _=wz
  rw[hwz]at M5
  clear hwz M4
  obtain⟨y0,y1,y2,y3,y4,y5,y6,y7,y8,y9⟩:=(M5.out.blk (i:=5) rfl).ten
  exact bodyPost_ret (v:= .tuple #[.agg #[aA,aB,.slice p9 n cp9,free,step,aE,aF,aC,aG,.slice q9 m cq9],(-1:Int),.bool false]) (by simp[results,Tryz.results27,go_sem, *]) rfl ⟨p9,cp9,q9,cq9,rfl,(M5.out.own (i:=0) rfl),(M5.out.own (i:=1) rfl),M5.out.ext⟩
 ·obtain⟨ce0,ce1,ce2,ce3,ce4,ce5,ce6,ce7,ce8,ce9⟩:=(M3.out.blk (i:=5) rfl).ten
  obtain⟨de0,de1,de2⟩:=(M3.out.blk (i:=4) rfl).tri
  have k1:IntKind.i64.wrap (9999-aC)=9999-aC:=IntWalk.i64_in _ (by omega)
  have d1:decide (1≤one)=false:=by simp;omega
  go_wp2_with fail
  clear ce0 ce1 ce2 ce3 ce4 ce5 ce6 ce7 ce8 ce9 de0 de1 de2
  refine(HL.out _ (M3.out).ext).mono ?_
  rintro e w9 ⟨p9,cp9,q9,cq9,rfl,ho,hq,hx⟩
  have M4:=xQ ((M3.out).own2 hx ho hq (Nat.le_refl _) (by decide))
  clear M3 lt3_0 lt3_3 lt3_4 lt3_5
  have lt4_2:=M4.out.hi 2
  have lt4_5:=M4.out.hi 5
  have lt4_6:=M4.out.hi 6
  have lt4_7:=M4.out.hi 7
  clear hx ho hq HL
  obtain⟨f0,ff0,f1,ff1,f2,ff2,f3,ff3,f4,ff4,f5,ff5,f6,ff6,f7,ff7,f8,ff8,f9,ff9⟩:=(M4.out.blk (i:=5) rfl).tenf
  go_wp2
  clear f0 ff0 f1 ff1 f2 ff2 f3 ff3 f4 ff4 f5 ff5 f6 ff6 f7 ff7 f8 ff8 f9 ff9 lt4_2 lt4_5 lt4_6 lt4_7
  have M5:=xQ (((M4.out).put10 (i:=5) rfl (.int .i64 aA) (.int .i64 aB) (.slice p9 n cp9) (.int .i64 free) (.int .i64 step) (.int .i64 aE) (.int .i64 aF) (.int .i64 aC) (.int .i64 aG) (.slice q9 m cq9)))
  generalize hwz:World.setCell _ _ _=wz
  rw[hwz]at M5
  clear hwz M4
  obtain⟨y0,y1,y2,y3,y4,y5,y6,y7,y8,y9⟩:=(M5.out.blk (i:=5) rfl).ten
  exact bodyPost_ret (v:= .tuple #[.agg #[aA,aB,.slice p9 n cp9,free,step,aE,aF,aC,aG,.slice q9 m cq9],(-1:Int),.bool false]) (by simp[results,Tryz.results27,go_sem, *]) rfl ⟨p9,cp9,q9,cq9,rfl,(M5.out.own (i:=0) rfl),(M5.out.own (i:=1) rfl),M5.out.ext⟩
 ·obtain⟨ce0,ce1,ce2,ce3,ce4,ce5,ce6,ce7,ce8,ce9⟩:=(M3.out.blk (i:=5) rfl).ten
  obtain⟨de0,de1,de2⟩:=(M3.out.blk (i:=4) rfl).tri
  have k1:IntKind.i64.wrap (9999-aC)=9999-aC:=IntWalk.i64_in _ (by omega)
  have d1:decide (1≤one)=true:=by simp;omega
  have d2:decide (one≤9999-aC)=false:=by simp;omega
  go_wp2_with fail
  clear ce0 ce1 ce2 ce3 ce4 ce5 ce6 ce7 ce8 ce9 de0 de1 de2
  refine(HL.out _ (M3.out).ext).mono ?_
  rintro e w9 ⟨p9,cp9,q9,cq9,rfl,ho,hq,hx⟩
  have M4:=xQ ((M3.out).own2 hx ho hq (Nat.le_refl _) (by decide))
  clear M3 lt3_0 lt3_3 lt3_4 lt3_5
  have lt4_2:=M4.out.hi 2
  have lt4_5:=M4.out.hi 5
  have lt4_6:=M4.out.hi 6
  have lt4_7:=M4.out.hi 7
  clear hx ho hq HL
  obtain⟨f0,ff0,f1,ff1,f2,ff2,f3,ff3,f4,ff4,f5,ff5,f6,ff6,f7,ff7,f8,ff8,f9,ff9⟩:=(M4.out.blk (i:=5) rfl).tenf
  go_wp2
  clear f0 ff0 f1 ff1 f2 ff2 f3 ff3 f4 ff4 f5 ff5 f6 ff6 f7 ff7 f8 ff8 f9 ff9 lt4_2 lt4_5 lt4_6 lt4_7
  have M5:=xQ (((M4.out).put10 (i:=5) rfl (.int .i64 aA) (.int .i64 aB) (.slice p9 n cp9) (.int .i64 free) (.int .i64 step) (.int .i64 aE) (.int .i64 aF) (.int .i64 aC) (.int .i64 aG) (.slice q9 m cq9)))
  generalize hwz:World.setCell _ _ _=wz
  rw[hwz]at M5
  clear hwz M4
  obtain⟨y0,y1,y2,y3,y4,y5,y6,y7,y8,y9⟩:=(M5.out.blk (i:=5) rfl).ten
  exact bodyPost_ret (v:= .tuple #[.agg #[aA,aB,.slice p9 n cp9,free,step,aE,aF,aC,aG,.slice q9 m cq9],(-1:Int),.bool false]) (by simp[results,Tryz.results27,go_sem, *]) rfl ⟨p9,cp9,q9,cq9,rfl,(M5.out.own (i:=0) rfl),(M5.out.own (i:=1) rfl),M5.out.ext⟩
 ·obtain⟨ce0,ce1,ce2,ce3,ce4,ce5,ce6,ce7,ce8,ce9⟩:=(M3.out.blk (i:=5) rfl).ten
  obtain⟨de0,de1,de2⟩:=(M3.out.blk (i:=4) rfl).tri
  have HS:=xQ hS
  clear hS
  go_wp2_with fail
  clear ce0 ce1 ce2 ce3 ce4 ce5 ce6 ce7 ce8 ce9 de0 de1 de2
  refine(HS.out _ M3.out.ext).mono ?_
  rintro e w4 ⟨p5,c5,rfl,ho4,hx4⟩
  have M4:=xQ ((M3.out).call hx4 ho4)
  clear M3 lt3_0 lt3_3 lt3_4 lt3_5
  have lt4_1:=M4.out.hi 1
  have lt4_4:=M4.out.hi 4
  have lt4_5:=M4.out.hi 5
  have lt4_6:=M4.out.hi 6
  clear hx4 ho4
  have d0:w4.cell? ⟨gA,0,none⟩=some (.int .i64 aA):=(M4.out.blk (i:=1) rfl).cell 0
  have df0:w4.frozen? ⟨gA,0,none⟩=false:=(M4.out.blk (i:=1) rfl).frozen 0
  have d1:w4.cell? ⟨gA,1,none⟩=some (.int .i64 aB):=(M4.out.blk (i:=1) rfl).cell 1
  have df1:w4.frozen? ⟨gA,1,none⟩=false:=(M4.out.blk (i:=1) rfl).frozen 1
  have d2:w4.cell? ⟨gA,2,none⟩=some (.slice p1 n cp1):=(M4.out.blk (i:=1) rfl).cell 2
  have df2:w4.frozen? ⟨gA,2,none⟩=false:=(M4.out.blk (i:=1) rfl).frozen 2
  go_upto_region 19 with fail
  clear d0 df0 d1 df1 d2 df2
  have M5:=xQ (((((M4.out).st 1 0 (.int .i64 aA))).st 1 1 (.int .i64 aB)))
  have M6:=xQ (((M5.out).st 1 2 (.slice p5 n c5)))
  have M7:=xQ (M6.out)
  generalize hwz:World.setCell _ _ _=w5
  rw[hwz]at M7
  clear hwz M4 M5 M6
  obtain⟨ce0,ce1,ce2,ce3,ce4,ce5,ce6,ce7,ce8,ce9⟩:=(M7.out.blk (i:=6) rfl).ten
  go_wp2_with fail
  clear ce0 ce1 ce2 ce3 ce4 ce5 ce6 ce7 ce8 ce9
  refine(HL.out _ (M7.out).ext).mono ?_
  rintro e w9 ⟨p9,cp9,q9,cq9,rfl,ho,hq,hx⟩
  have M8:=xQ ((M7.out).own2 hx ho hq (Nat.le_refl _) (by decide))
  clear M7
  have lt8_3:=M8.out.hi 3
  have lt8_6:=M8.out.hi 6
  have lt8_7:=M8.out.hi 7
  have lt8_8:=M8.out.hi 8
  clear hx ho hq HL
  obtain⟨f0,ff0,f1,ff1,f2,ff2,f3,ff3,f4,ff4,f5,ff5,f6,ff6,f7,ff7,f8,ff8,f9,ff9⟩:=(M8.out.blk (i:=6) rfl).tenf
  go_wp2
  clear f0 ff0 f1 ff1 f2 ff2 f3 ff3 f4 ff4 f5 ff5 f6 ff6 f7 ff7 f8 ff8 f9 ff9 lt8_3 lt8_6 lt8_7 lt8_8
  have M9:=xQ (((M8.out).put10 (i:=6) rfl (.int .i64 aA) (.int .i64 aB) (.slice p9 n cp9) (.int .i64 free) (.int .i64 step) (.int .i64 aE) (.int .i64 aF) (.int .i64 aC) (.int .i64 aG) (.slice q9 m cq9)))
  generalize hwz:World.setCell _ _ _=wz
  rw[hwz]at M9
  clear hwz M8
  obtain⟨y0,y1,y2,y3,y4,y5,y6,y7,y8,y9⟩:=(M9.out.blk (i:=6) rfl).ten
  exact bodyPost_ret (v:= .tuple #[.agg #[aA,aB,.slice p9 n cp9,free,step,aE,aF,aC,aG,.slice q9 m cq9],(-1:Int),.bool false]) (by simp[results,Tryz.results27,go_sem, *]) rfl ⟨p9,cp9,q9,cq9,rfl,(M9.out.own (i:=0) rfl),(M9.out.own (i:=1) rfl),M9.out.ext⟩
 ·obtain⟨de0,de1,de2⟩:=(M3.out.blk (i:=4) rfl).tri
  have HN:=xQ hN
  clear hN
  have MK:=xQ (show Mem w w3 ([aJ w.heap.size TI 1 (p1) (n) (cp1) (ivs xs),aJ w.heap.size TV 4 (q1) (m) (cq1) (vs.flatMap aD),aL w.heap.size (gA) aO #[aA,aB,.slice p1 n cp1,free,step,aE,aF,aC,aG,.slice q1 m cq1]]++ [aL w.heap.size (w.heap.size+1+1) aO #[(),(),((),()),(),(),(),(),(),(),((),())],aL w.heap.size (w.heap.size+1) THD #[(),one,two],aL w.heap.size (w.heap.size) aO #[aA,aB,.slice p n cap,free,step,aE,aF,aC,aG,.slice q m c2]])from M3.out.pick [1,2,0,3,4,5] (by decide) rfl)
  go_wp2_with fail
  clear de0 de1 de2
  refine(HN.out _ (sQ [aL w.heap.size (w.heap.size+1+1) aO #[(),(),((),()),(),(),(),(),(),(),((),())],aL w.heap.size (w.heap.size+1) THD #[(),one,two],aL w.heap.size (w.heap.size) aO #[aA,aB,.slice p n cap,free,step,aE,aF,aC,aG,.slice q m c2]]) gA p1 cp1 q1 cq1 (MK.out.fold [aJ w.heap.size TI 1 (p1) (n) (cp1) (ivs xs),aJ w.heap.size TV 4 (q1) (m) (cq1) (vs.flatMap aD),aL w.heap.size (gA) aO #[aA,aB,.slice p1 n cp1,free,step,aE,aF,aC,aG,.slice q1 m cq1]])).mono ?_
  rintro e w4 ⟨rfl,hx4⟩
  have M4:=xQ ((M3.out).adv hx4)
  clear M3 lt3_0 lt3_3 lt3_4 lt3_5
  have lt4_0:=M4.out.hi 0
  have lt4_3:=M4.out.hi 3
  have lt4_4:=M4.out.hi 4
  have lt4_5:=M4.out.hi 5
  clear hx4 HN MK
  obtain⟨ce0,ce1,ce2,ce3,ce4,ce5,ce6,ce7,ce8,ce9⟩:=(M4.out.blk (i:=5) rfl).ten
  go_wp2_with fail
  clear ce0 ce1 ce2 ce3 ce4 ce5 ce6 ce7 ce8 ce9
  refine(HL.out _ (M4.out).ext).mono ?_
  rintro e w9 ⟨p9,cp9,q9,cq9,rfl,ho,hq,hx⟩
  have M5:=xQ ((M4.out).own2 hx ho hq (Nat.le_refl _) (by decide))
  clear M4 lt4_0 lt4_3 lt4_4 lt4_5
  have lt5_2:=M5.out.hi 2
  have lt5_5:=M5.out.hi 5
  have lt5_6:=M5.out.hi 6
  have lt5_7:=M5.out.hi 7
  clear hx ho hq HL
  obtain⟨f0,ff0,f1,ff1,f2,ff2,f3,ff3,f4,ff4,f5,ff5,f6,ff6,f7,ff7,f8,ff8,f9,ff9⟩:=(M5.out.blk (i:=5) rfl).tenf
  go_wp2
  clear f0 ff0 f1 ff1 f2 ff2 f3 ff3 f4 ff4 f5 ff5 f6 ff6 f7 ff7 f8 ff8 f9 ff9 lt5_2 lt5_5 lt5_6 lt5_7
  have M6:=xQ (((M5.out).put10 (i:=5) rfl (.int .i64 aA) (.int .i64 aB) (.slice p9 n cp9) (.int .i64 free) (.int .i64 step) (.int .i64 aE) (.int .i64 aF) (.int .i64 aC) (.int .i64 aG) (.slice q9 m cq9)))
  generalize hwz:World.setCell _ _ _=wz
  rw[hwz]at M6
  clear hwz M5
  obtain⟨y0,y1,y2,y3,y4,y5,y6,y7,y8,y9⟩:=(M6.out.blk (i:=5) rfl).ten
  exact bodyPost_ret (v:= .tuple #[.agg #[aA,aB,.slice p9 n cp9,free,step,aE,aF,aC,aG,.slice q9 m cq9],(-1:Int),.bool false]) (by simp[results,Tryz.results27,go_sem, *]) rfl ⟨p9,cp9,q9,cq9,rfl,(M6.out.own (i:=0) rfl),(M6.out.own (i:=1) rfl),M6.out.ext⟩
 ·obtain⟨de0,de1,de2⟩:=(M3.out.blk (i:=4) rfl).tri
  have HN:=xQ hN
  clear hN
  have MK:=xQ (show Mem w w3 ([aJ w.heap.size TI 1 (p1) (n) (cp1) (ivs xs),aJ w.heap.size TV 4 (q1) (m) (cq1) (vs.flatMap aD),aL w.heap.size (gA) aO #[aA,aB,.slice p1 n cp1,free,step,aE,aF,aC,aG,.slice q1 m cq1]]++ [aL w.heap.size (w.heap.size+1+1) aO #[(),(),((),()),(),(),(),(),(),(),((),())],aL w.heap.size (w.heap.size+1) THD #[.int .i64 1,one,two],aL w.heap.size (w.heap.size) aO #[aA,aB,.slice p n cap,free,step,aE,aF,aC,aG,.slice q m c2]])from M3.out.pick [1,2,0,3,4,5] (by decide) rfl)
  go_wp2_with fail
  clear de0 de1 de2
  refine(HN.out _ (sQ [aL w.heap.size (w.heap.size+1+1) aO #[(),(),((),()),(),(),(),(),(),(),((),())],aL w.heap.size (w.heap.size+1) THD #[.int .i64 1,one,two],aL w.heap.size (w.heap.size) aO #[aA,aB,.slice p n cap,free,step,aE,aF,aC,aG,.slice q m c2]]) gA p1 cp1 q1 cq1 (MK.out.fold [aJ w.heap.size TI 1 (p1) (n) (cp1) (ivs xs),aJ w.heap.size TV 4 (q1) (m) (cq1) (vs.flatMap aD),aL w.heap.size (gA) aO #[aA,aB,.slice p1 n cp1,free,step,aE,aF,aC,aG,.slice q1 m cq1]])).mono ?_
  rintro e w4 ⟨rfl,hx4⟩
  have M4:=xQ ((M3.out).adv hx4)
  clear M3 lt3_0 lt3_3 lt3_4 lt3_5
  have lt4_0:=M4.out.hi 0
  have lt4_3:=M4.out.hi 3
  have lt4_4:=M4.out.hi 4
  have lt4_5:=M4.out.hi 5
  clear hx4 HN MK
  obtain⟨ce0,ce1,ce2,ce3,ce4,ce5,ce6,ce7,ce8,ce9⟩:=(M4.out.blk (i:=5) rfl).ten
  go_wp2_with fail
  clear ce0 ce1 ce2 ce3 ce4 ce5 ce6 ce7 ce8 ce9
  refine(HL.out _ (M4.out).ext).mono ?_
  rintro e w9 ⟨p9,cp9,q9,cq9,rfl,ho,hq,hx⟩
  have M5:=xQ ((M4.out).own2 hx ho hq (Nat.le_refl _) (by decide))
  clear M4 lt4_0 lt4_3 lt4_4 lt4_5
  have lt5_2:=M5.out.hi 2
  have lt5_5:=M5.out.hi 5
  have lt5_6:=M5.out.hi 6
  have lt5_7:=M5.out.hi 7
  clear hx ho hq HL
  obtain⟨f0,ff0,f1,ff1,f2,ff2,f3,ff3,f4,ff4,f5,ff5,f6,ff6,f7,ff7,f8,ff8,f9,ff9⟩:=(M5.out.blk (i:=5) rfl).tenf
  go_wp2
  clear f0 ff0 f1 ff1 f2 ff2 f3 ff3 f4 ff4 f5 ff5 f6 ff6 f7 ff7 f8 ff8 f9 ff9 lt5_2 lt5_5 lt5_6 lt5_7
  have M6:=xQ (((M5.out).put10 (i:=5) rfl (.int .i64 aA) (.int .i64 aB) (.slice p9 n cp9) (.int .i64 free) (.int .i64 step) (.int .i64 aE) (.int .i64 aF) (.int .i64 aC) (.int .i64 aG) (.slice q9 m cq9)))
  generalize hwz:World.setCell _ _ _=wz
  rw[hwz]at M6
  clear hwz M5
  obtain⟨y0,y1,y2,y3,y4,y5,y6,y7,y8,y9⟩:=(M6.out.blk (i:=5) rfl).ten
  exact bodyPost_ret (v:= .tuple #[.agg #[aA,aB,.slice p9 n cp9,free,step,aE,aF,aC,aG,.slice q9 m cq9],(-1:Int),.bool false]) (by simp[results,Tryz.results27,go_sem, *]) rfl ⟨p9,cp9,q9,cq9,rfl,(M6.out.own (i:=0) rfl),(M6.out.own (i:=1) rfl),M6.out.ext⟩
 ·obtain⟨de0,de1,de2⟩:=(M3.out.blk (i:=4) rfl).tri
  have HN:=xQ hN
  clear hN
  have MK:=xQ (show Mem w w3 ([aJ w.heap.size TI 1 (p1) (n) (cp1) (ivs xs),aJ w.heap.size TV 4 (q1) (m) (cq1) (vs.flatMap aD),aL w.heap.size (gA) aO #[aA,aB,.slice p1 n cp1,free,step,aE,aF,aC,aG,.slice q1 m cq1]]++ [aL w.heap.size (w.heap.size+1+1) aO #[(),(),((),()),(),(),(),(),(),(),((),())],aL w.heap.size (w.heap.size+1) THD #[.int .i64 2,one,two],aL w.heap.size (w.heap.size) aO #[aA,aB,.slice p n cap,free,step,aE,aF,aC,aG,.slice q m c2]])from M3.out.pick [1,2,0,3,4,5] (by decide) rfl)
  go_wp2_with fail
  clear de0 de1 de2
  refine(HN.out _ (sQ [aL w.heap.size (w.heap.size+1+1) aO #[(),(),((),()),(),(),(),(),(),(),((),())],aL w.heap.size (w.heap.size+1) THD #[.int .i64 2,one,two],aL w.heap.size (w.heap.size) aO #[aA,aB,.slice p n cap,free,step,aE,aF,aC,aG,.slice q m c2]]) gA p1 cp1 q1 cq1 (MK.out.fold [aJ w.heap.size TI 1 (p1) (n) (cp1) (ivs xs),aJ w.heap.size TV 4 (q1) (m) (cq1) (vs.flatMap aD),aL w.heap.size (gA) aO #[aA,aB,.slice p1 n cp1,free,step,aE,aF,aC,aG,.slice q1 m cq1]])).mono ?_
  rintro e w4 ⟨rfl,hx4⟩
  have M4:=xQ ((M3.out).adv hx4)
  clear M3 lt3_0 lt3_3 lt3_4 lt3_5
  have lt4_0:=M4.out.hi 0
  have lt4_3:=M4.out.hi 3
  have lt4_4:=M4.out.hi 4
  have lt4_5:=M4.out.hi 5
  clear hx4 HN MK
  obtain⟨ce0,ce1,ce2,ce3,ce4,ce5,ce6,ce7,ce8,ce9⟩:=(M4.out.blk (i:=5) rfl).ten
  go_wp2_with fail
  clear ce0 ce1 ce2 ce3 ce4 ce5 ce6 ce7 ce8 ce9
  refine(HL.out _ (M4.out).ext).mono ?_
  rintro e w9 ⟨p9,cp9,q9,cq9,rfl,ho,hq,hx⟩
  have M5:=xQ ((M4.out).own2 hx ho hq (Nat.le_refl _) (by decide))
  clear M4 lt4_0 lt4_3 lt4_4 lt4_5
  have lt5_2:=M5.out.hi 2
  have lt5_5:=M5.out.hi 5
  have lt5_6:=M5.out.hi 6
  have lt5_7:=M5.out.hi 7
  clear hx ho hq HL
  obtain⟨f0,ff0,f1,ff1,f2,ff2,f3,ff3,f4,ff4,f5,ff5,f6,ff6,f7,ff7,f8,ff8,f9,ff9⟩:=(M5.out.blk (i:=5) rfl).tenf
  go_wp2
  clear f0 ff0 f1 ff1 f2 ff2 f3 ff3 f4 ff4 f5 ff5 f6 ff6 f7 ff7 f8 ff8 f9 ff9 lt5_2 lt5_5 lt5_6 lt5_7
  have M6:=xQ (((M5.out).put10 (i:=5) rfl (.int .i64 aA) (.int .i64 aB) (.slice p9 n cp9) (.int .i64 free) (.int .i64 step) (.int .i64 aE) (.int .i64 aF) (.int .i64 aC) (.int .i64 aG) (.slice q9 m cq9)))
  generalize hwz:World.setCell _ _ _=wz
  rw[hwz]at M6
  clear hwz M5
  obtain⟨y0,y1,y2,y3,y4,y5,y6,y7,y8,y9⟩:=(M6.out.blk (i:=5) rfl).ten
  exact bodyPost_ret (v:= .tuple #[.agg #[aA,aB,.slice p9 n cp9,free,step,aE,aF,aC,aG,.slice q9 m cq9],(-1:Int),.bool false]) (by simp[results,Tryz.results27,go_sem, *]) rfl ⟨p9,cp9,q9,cq9,rfl,(M6.out.own (i:=0) rfl),(M6.out.own (i:=1) rfl),M6.out.ext⟩
theorem jM (aA aB free step aE aF aC aG kind one two clock2 bank2 num:Int)(p:OA)(n cap:Nat)(q:OA)(m c2 m2:Nat)(xs ys:List Int)(vs vs2:List aQ)(w:World)
  (HVd:xB 30 #[.agg #[aA,aB,.slice p n cap,free,step,aE,aF,aC,aG,.slice q m c2]] w true)
  (HL:xC 62 #[.agg #[aA,aB,.slice p n cap,free,step,aE,aF,aC,aG,.slice q m c2]] w fun w' e w''=> ∃p' cap' q' c2',e= .returned (.agg #[aA,aB,.slice p' n cap',free,step,aE,aF,aC,aG,.slice q' m c2'])∧w''.ownsRow w'.heap.size TI 1 (.slice p' n cap') n (ivs xs)∧w''.ownsRow w'.heap.size TV 4 (.slice q' m c2') m (vs.flatMap aD)∧Ext w' w'')
  (D:(kind=3∧0≤aC∧aC≤9999∧1≤one∧one≤9999-aC∧aC+one=clock2∧aG=bank2∧aC+one=num∧xs=ys∧vs=vs2∧m=m2)∨(kind=4∧aC=clock2∧aG=bank2∧0=num∧vs=vs2∧m=m2∧(∀w',Ext w w'→Calls Tryz.prog 70 #[aI aA aB p n cap,dK one two] w' fun e w''=> ∃q c,e= .returned (.tuple #[aI aA aB q n c,.bool true])∧w''.ownsRow w'.heap.size TI 1 (.slice q n c) n (ivs ys)∧Ext w' w''))∨(kind=0∧aC=clock2∧(∀w' R gA p1 cp1 q1 cq1,Mem w w' ([aJ w.heap.size TI 1 (p1) (n) (cp1) (ivs xs),aJ w.heap.size TV 4 (q1) (m) (cq1) (vs.flatMap aD),aL w.heap.size (gA) aO #[aA,aB,.slice p1 n cp1,free,step,aE,aF,aC,aG,.slice q1 m cq1]]++ [R])→Calls Tryz.prog 67 #[.pointer (some ⟨gA,0,none⟩),one] w' fun e w''=> ∃p5 c5 q5 d5,e= .returned (.tuple #[num,.bool true])∧Mem w w'' ([aJ w.heap.size TI 1 (p5) (n) (c5) (ivs ys),aJ w.heap.size TV 4 (q5) (m2) (d5) (vs2.flatMap aD),aL w.heap.size (gA) aO #[aA,aB,.slice p5 n c5,free,step,aE,aF,aC,bank2,.slice q5 m2 d5]]++ [R])))∨(kind=1∧aC=clock2∧(∀w' R gA p1 cp1 q1 cq1,Mem w w' ([aJ w.heap.size TI 1 (p1) (n) (cp1) (ivs xs),aJ w.heap.size TV 4 (q1) (m) (cq1) (vs.flatMap aD),aL w.heap.size (gA) aO #[aA,aB,.slice p1 n cp1,free,step,aE,aF,aC,aG,.slice q1 m cq1]]++ [R])→Calls Tryz.prog 68 #[.pointer (some ⟨gA,0,none⟩),one,two] w' fun e w''=> ∃p5 c5 q5 d5,e= .returned (.tuple #[num,.bool true])∧Mem w w'' ([aJ w.heap.size TI 1 (p5) (n) (c5) (ivs ys),aJ w.heap.size TV 4 (q5) (m2) (d5) (vs2.flatMap aD),aL w.heap.size (gA) aO #[aA,aB,.slice p5 n c5,free,step,aE,aF,aC,bank2,.slice q5 m2 d5]]++ [R])))∨(kind=2∧aC=clock2∧(∀w' R gA p1 cp1 q1 cq1,Mem w w' ([aJ w.heap.size TI 1 (p1) (n) (cp1) (ivs xs),aJ w.heap.size TV 4 (q1) (m) (cq1) (vs.flatMap aD),aL w.heap.size (gA) aO #[aA,aB,.slice p1 n cp1,free,step,aE,aF,aC,aG,.slice q1 m cq1]]++ [R])→Calls Tryz.prog 69 #[.pointer (some ⟨gA,0,none⟩),one] w' fun e w''=> ∃p5 c5 q5 d5,e= .returned (.tuple #[num,.bool true])∧Mem w w'' ([aJ w.heap.size TI 1 (p5) (n) (c5) (ivs ys),aJ w.heap.size TV 4 (q5) (m2) (d5) (vs2.flatMap aD),aL w.heap.size (gA) aO #[aA,aB,.slice p5 n c5,free,step,aE,aF,aC,bank2,.slice q5 m2 d5]]++ [R])))):
  Calls Tryz.prog 27 #[.agg #[aA,aB,.slice p n cap,free,step,aE,aF,aC,aG,.slice q m c2],.agg #[kind,one,two]] w fun e w'=> ∃p' cap' q' c2',e= .returned (.tuple #[.agg #[aA,aB,.slice p' n cap',free,step,aE,aF,clock2,bank2,.slice q' m2 c2'],num,.bool true])∧w'.ownsRow w.heap.size TI 1 (.slice p' n cap') n (ivs ys)∧w'.ownsRow w.heap.size TV 4 (.slice q' m2 c2') m2 (vs2.flatMap aD)∧Ext w w':=by
 go_enter Tryz.func27,Tryz.ntmps27
 go_wp2_with fail
 refine(HVd.out _ (Mem.b3 w).ext).mono ?_
 rintro e w1 ⟨rfl,hx1⟩
 have M1:=xQ ((Mem.b3 w).adv hx1)
 have lt1_0:=M1.out.hi 0
 have lt1_1:=M1.out.hi 1
 have lt1_2:=M1.out.hi 2
 clear hx1 HVd
 obtain⟨ce0,ce1,ce2,ce3,ce4,ce5,ce6,ce7,ce8,ce9⟩:=(M1.out.blk (i:=2) rfl).ten
 go_wp2_with fail
 clear ce0 ce1 ce2 ce3 ce4 ce5 ce6 ce7 ce8 ce9
 refine(HL.out _ (M1.out).ext).mono ?_
 rintro e w2 ⟨p1,cp1,q1,cq1,rfl,ho,hq,hx⟩
 have M2:=xQ ((M1.out).own2 hx ho hq (Nat.le_refl _) (by decide))
 clear M1 lt1_0 lt1_1 lt1_2
 have lt2_2:=M2.out.hi 2
 have lt2_3:=M2.out.hi 3
 have lt2_4:=M2.out.hi 4
 clear hx ho hq
 go_upto_region 5 with fail
 obtain⟨gA,hgA⟩: ∃gA,gA=w2.heap.size:=⟨_,rfl⟩
 rw[←hgA]
 have M3:=xQ (((M2.out).blkNew aO #[aA,aB,.slice p1 n cp1,free,step,aE,aF,aC,aG,.slice q1 m cq1] gA hgA.symm))
 generalize World.alloc _ _=w3 at M3⊢
 clear M2 lt2_2 lt2_3 lt2_4
 have lt3_0:=M3.out.hi 0
 have lt3_3:=M3.out.hi 3
 have lt3_4:=M3.out.hi 4
 have lt3_5:=M3.out.hi 5
 clear hgA
 rcases D with⟨rfl,hc,hc2,h1,h2,rfl,rfl,rfl,rfl,rfl,rfl⟩|⟨rfl,rfl,rfl,rfl,rfl,rfl,hS⟩|⟨rfl,rfl,hY⟩|⟨rfl,rfl,hY⟩|⟨rfl,rfl,hY⟩
 ·obtain⟨ce0,ce1,ce2,ce3,ce4,ce5,ce6,ce7,ce8,ce9⟩:=(M3.out.blk (i:=5) rfl).ten
  obtain⟨de0,de1,de2⟩:=(M3.out.blk (i:=4) rfl).tri
  have k1:IntKind.i64.wrap (9999-aC)=9999-aC:=IntWalk.i64_in _ (by omega)
  have d1:decide (1≤one)=true:=by simp;omega
  have d2:decide (one≤9999-aC)=true:=by simp;omega
  go_upto_region 15 with fail
  clear ce0 ce1 ce2 ce3 ce4 ce5 ce6 ce7 ce8 ce9 de0 de1 de2
  have de1:w3.cell? ⟨w.heap.size+1,1,none⟩=some (.int .i64 one):=(M3.out.blk (i:=4) rfl).cell 1
  obtain⟨d0,df0,d1,df1,d2,df2,d3,df3,d4,df4,d5,df5,d6,df6,d7,df7,d8,df8,d9,df9⟩:=(M3.out.blk (i:=0) rfl).tenf
  obtain⟨f0,ff0,f1,ff1,f2,ff2,f3,ff3,f4,ff4,f5,ff5,f6,ff6,f7,ff7,f8,ff8,f9,ff9⟩:=(M3.out.blk (i:=3) rfl).tenf
  have ne0_1a: ¬(w.heap.size+1+1=w.heap.size+1):=M3.out.ne (i:=3) (j:=4) (by omega) rfl rfl rfl rfl
  have ne0_1b: ¬(w.heap.size+1=w.heap.size+1+1):=fun h=>ne0_1a h.symm
  have ne0_2a: ¬(gA=w.heap.size+1):=M3.out.ne (i:=0) (j:=4) (by omega) rfl rfl rfl rfl
  have ne0_2b: ¬(w.heap.size+1=gA):=fun h=>ne0_2a h.symm
  have ne1_2a: ¬(gA=w.heap.size+1+1):=M3.out.ne (i:=0) (j:=3) (by omega) rfl rfl rfl rfl
  have ne1_2b: ¬(w.heap.size+1+1=gA):=fun h=>ne1_2a h.symm
  have k2:IntKind.i64.wrap (aC+one)=aC+one:=IntWalk.i64_in _ (by omega)
  clear HL
  have M4:=xQ (((M3.out).st 0 7 (.int .i64 (aC+one))))
  go_wp2
  clear de1 d0 df0 d1 df1 d2 df2 d3 df3 d4 df4 d5 df5 d6 df6 d7 df7 d8 df8 d9 df9 f0 ff0 f1 ff1 f2 ff2 f3 ff3 f4 ff4 f5 ff5 f6 ff6 f7 ff7 f8 ff8 f9 ff9 ne0_1a ne0_1b ne0_2a ne0_2b ne1_2a ne1_2b lt3_0 lt3_3 lt3_4 lt3_5
  have M5:=xQ (((M4.out).put10 (i:=3) rfl (.int .i64 aA) (.int .i64 aB) (.slice p1 n cp1) (.int .i64 free) (.int .i64 step) (.int .i64 aE) (.int .i64 aF) (.int .i64 (aC+one)) (.int .i64 aG) (.slice q1 m cq1)))
  generalize hwz:World.setCell _ _ _=wz
  rw[hwz]at M5
  clear hwz M3 M4
  obtain⟨y0,y1,y2,y3,y4,y5,y6,y7,y8,y9⟩:=(M5.out.blk (i:=3) rfl).ten
  exact bodyPost_ret (v:= .tuple #[.agg #[aA,aB,.slice p1 n cp1,free,step,aE,aF,(aC+one:Int),aG,.slice q1 m cq1],(aC+one:Int),.bool true]) (by simp[results,Tryz.results27,go_sem, *]) rfl ⟨p1,cp1,q1,cq1,rfl,(M5.out.own (i:=1) rfl),(M5.out.own (i:=2) rfl),M5.out.ext⟩
 ·obtain⟨ce0,ce1,ce2,ce3,ce4,ce5,ce6,ce7,ce8,ce9⟩:=(M3.out.blk (i:=5) rfl).ten
  obtain⟨de0,de1,de2⟩:=(M3.out.blk (i:=4) rfl).tri
  have HS:=xQ hS
  clear hS
  go_wp2_with fail
  clear ce0 ce1 ce2 ce3 ce4 ce5 ce6 ce7 ce8 ce9 de0 de1 de2
  refine(HS.out _ M3.out.ext).mono ?_
  rintro e w4 ⟨p5,c5,rfl,ho4,hx4⟩
  have M4:=xQ ((M3.out).call hx4 ho4)
  clear M3 lt3_0 lt3_3 lt3_4 lt3_5
  have lt4_1:=M4.out.hi 1
  have lt4_4:=M4.out.hi 4
  have lt4_5:=M4.out.hi 5
  have lt4_6:=M4.out.hi 6
  clear hx4 ho4
  have d0:w4.cell? ⟨gA,0,none⟩=some (.int .i64 aA):=(M4.out.blk (i:=1) rfl).cell 0
  have df0:w4.frozen? ⟨gA,0,none⟩=false:=(M4.out.blk (i:=1) rfl).frozen 0
  have d1:w4.cell? ⟨gA,1,none⟩=some (.int .i64 aB):=(M4.out.blk (i:=1) rfl).cell 1
  have df1:w4.frozen? ⟨gA,1,none⟩=false:=(M4.out.blk (i:=1) rfl).frozen 1
  have d2:w4.cell? ⟨gA,2,none⟩=some (.slice p1 n cp1):=(M4.out.blk (i:=1) rfl).cell 2
  have df2:w4.frozen? ⟨gA,2,none⟩=false:=(M4.out.blk (i:=1) rfl).frozen 2
  go_upto_region 19 with fail
  clear d0 df0 d1 df1 d2 df2
  have M5:=xQ (((((M4.out).st 1 0 (.int .i64 aA))).st 1 1 (.int .i64 aB)))
  have M6:=xQ (((M5.out).st 1 2 (.slice p5 n c5)))
  have M7:=xQ (M6.out)
  generalize hwz:World.setCell _ _ _=w5
  rw[hwz]at M7
  clear hwz M4 M5 M6
  obtain⟨e0,e1,e2,e3,e4,e5,e6,e7,e8,e9⟩:=(M7.out.blk (i:=1) rfl).ten
  obtain⟨f0,ff0,f1,ff1,f2,ff2,f3,ff3,f4,ff4,f5,ff5,f6,ff6,f7,ff7,f8,ff8,f9,ff9⟩:=(M7.out.blk (i:=4) rfl).tenf
  have ne0_1a: ¬(gA=w.heap.size+1+1):=M7.out.ne (i:=1) (j:=4) (by omega) rfl rfl rfl rfl
  have ne0_1b: ¬(w.heap.size+1+1=gA):=fun h=>ne0_1a h.symm
  clear HL
  go_wp2
  clear e0 e1 e2 e3 e4 e5 e6 e7 e8 e9 f0 ff0 f1 ff1 f2 ff2 f3 ff3 f4 ff4 f5 ff5 f6 ff6 f7 ff7 f8 ff8 f9 ff9 ne0_1a ne0_1b
  have M8:=xQ (((M7.out).put10 (i:=4) rfl (.int .i64 aA) (.int .i64 aB) (.slice p5 n c5) (.int .i64 free) (.int .i64 step) (.int .i64 aE) (.int .i64 aF) (.int .i64 aC) (.int .i64 aG) (.slice q1 m cq1)))
  generalize hwz:World.setCell _ _ _=wz
  rw[hwz]at M8
  clear hwz M7
  obtain⟨y0,y1,y2,y3,y4,y5,y6,y7,y8,y9⟩:=(M8.out.blk (i:=4) rfl).ten
  exact bodyPost_ret (v:= .tuple #[.agg #[aA,aB,.slice p5 n c5,free,step,aE,aF,aC,aG,.slice q1 m cq1],(),.bool true]) (by simp[results,Tryz.results27,go_sem, *]) rfl ⟨p5,c5,q1,cq1,rfl,(M8.out.own (i:=0) rfl),(M8.out.own (i:=3) rfl),M8.out.ext⟩
 ·obtain⟨de0,de1,de2⟩:=(M3.out.blk (i:=4) rfl).tri
  have HY:=xQ hY
  clear hY
  have MK:=xQ (show Mem w w3 ([aJ w.heap.size TI 1 (p1) (n) (cp1) (ivs xs),aJ w.heap.size TV 4 (q1) (m) (cq1) (vs.flatMap aD),aL w.heap.size (gA) aO #[aA,aB,.slice p1 n cp1,free,step,aE,aF,aC,aG,.slice q1 m cq1]]++ [aL w.heap.size (w.heap.size+1+1) aO #[(),(),((),()),(),(),(),(),(),(),((),())],aL w.heap.size (w.heap.size+1) THD #[(),one,two],aL w.heap.size (w.heap.size) aO #[aA,aB,.slice p n cap,free,step,aE,aF,aC,aG,.slice q m c2]])from M3.out.pick [1,2,0,3,4,5] (by decide) rfl)
  go_wp2_with fail
  clear de0 de1 de2
  refine(HY.out _ (sQ [aL w.heap.size (w.heap.size+1+1) aO #[(),(),((),()),(),(),(),(),(),(),((),())],aL w.heap.size (w.heap.size+1) THD #[(),one,two],aL w.heap.size (w.heap.size) aO #[aA,aB,.slice p n cap,free,step,aE,aF,aC,aG,.slice q m c2]]) gA p1 cp1 q1 cq1 (MK.out.fold [aJ w.heap.size TI 1 (p1) (n) (cp1) (ivs xs),aJ w.heap.size TV 4 (q1) (m) (cq1) (vs.flatMap aD),aL w.heap.size (gA) aO #[aA,aB,.slice p1 n cp1,free,step,aE,aF,aC,aG,.slice q1 m cq1]])).mono ?_
  rintro e w5 ⟨p5,c5,q5,d5,rfl,hM5⟩
  clear M3 lt3_0 lt3_3 lt3_4 lt3_5
  have M8:=xQ (show Mem w w5 [aJ w.heap.size TI 1 (p5) (n) (c5) (ivs ys),aJ w.heap.size TV 4 (q5) (m2) (d5) (vs2.flatMap aD),aL w.heap.size (gA) aO #[aA,aB,.slice p5 n c5,free,step,aE,aF,aC,bank2,.slice q5 m2 d5],aL w.heap.size (w.heap.size+1+1) aO #[(),(),((),()),(),(),(),(),(),(),((),())],aL w.heap.size (w.heap.size+1) THD #[(),one,two],aL w.heap.size (w.heap.size) aO #[aA,aB,.slice p n cap,free,step,aE,aF,aC,aG,.slice q m c2]]from Mem.frame [aJ w.heap.size TI 1 (p1) (n) (cp1) (ivs xs),aJ w.heap.size TV 4 (q1) (m) (cq1) (vs.flatMap aD),aL w.heap.size (gA) aO #[aA,aB,.slice p1 n cp1,free,step,aE,aF,aC,aG,.slice q1 m cq1]] [aJ w.heap.size TI 1 (p5) (n) (c5) (ivs ys),aJ w.heap.size TV 4 (q5) (m2) (d5) (vs2.flatMap aD),aL w.heap.size (gA) aO #[aA,aB,.slice p5 n c5,free,step,aE,aF,aC,bank2,.slice q5 m2 d5]] MK.out hM5)
  clear hM5 MK HY HL
  have lt18_2:=M8.out.hi 2
  have lt18_3:=M8.out.hi 3
  have lt18_4:=M8.out.hi 4
  have lt18_5:=M8.out.hi 5
  obtain⟨e0,e1,e2,e3,e4,e5,e6,e7,e8,e9⟩:=(M8.out.blk (i:=2) rfl).ten
  obtain⟨f0,ff0,f1,ff1,f2,ff2,f3,ff3,f4,ff4,f5,ff5,f6,ff6,f7,ff7,f8,ff8,f9,ff9⟩:=(M8.out.blk (i:=3) rfl).tenf
  have ne0_1a: ¬(gA=w.heap.size+1+1):=M8.out.ne (i:=2) (j:=3) (by omega) rfl rfl rfl rfl
  have ne0_1b: ¬(w.heap.size+1+1=gA):=fun h=>ne0_1a h.symm
  go_wp2
  clear e0 e1 e2 e3 e4 e5 e6 e7 e8 e9 f0 ff0 f1 ff1 f2 ff2 f3 ff3 f4 ff4 f5 ff5 f6 ff6 f7 ff7 f8 ff8 f9 ff9 ne0_1a ne0_1b lt18_2 lt18_3 lt18_4 lt18_5
  have M19:=xQ (((M8.out).put10 (i:=3) rfl (.int .i64 aA) (.int .i64 aB) (.slice p5 n c5) (.int .i64 free) (.int .i64 step) (.int .i64 aE) (.int .i64 aF) (.int .i64 aC) (.int .i64 bank2) (.slice q5 m2 d5)))
  generalize hwz:World.setCell _ _ _=wz
  rw[hwz]at M19
  clear hwz M8
  obtain⟨y0,y1,y2,y3,y4,y5,y6,y7,y8,y9⟩:=(M19.out.blk (i:=3) rfl).ten
  exact bodyPost_ret (v:= .tuple #[.agg #[aA,aB,.slice p5 n c5,free,step,aE,aF,aC,bank2,.slice q5 m2 d5],num,.bool true]) (by simp[results,Tryz.results27,go_sem, *]) rfl ⟨p5,c5,q5,d5,rfl,(M19.out.own (i:=0) rfl),(M19.out.own (i:=1) rfl),M19.out.ext⟩
 ·obtain⟨de0,de1,de2⟩:=(M3.out.blk (i:=4) rfl).tri
  have HY:=xQ hY
  clear hY
  have MK:=xQ (show Mem w w3 ([aJ w.heap.size TI 1 (p1) (n) (cp1) (ivs xs),aJ w.heap.size TV 4 (q1) (m) (cq1) (vs.flatMap aD),aL w.heap.size (gA) aO #[aA,aB,.slice p1 n cp1,free,step,aE,aF,aC,aG,.slice q1 m cq1]]++ [aL w.heap.size (w.heap.size+1+1) aO #[(),(),((),()),(),(),(),(),(),(),((),())],aL w.heap.size (w.heap.size+1) THD #[.int .i64 1,one,two],aL w.heap.size (w.heap.size) aO #[aA,aB,.slice p n cap,free,step,aE,aF,aC,aG,.slice q m c2]])from M3.out.pick [1,2,0,3,4,5] (by decide) rfl)
  go_wp2_with fail
  clear de0 de1 de2
  refine(HY.out _ (sQ [aL w.heap.size (w.heap.size+1+1) aO #[(),(),((),()),(),(),(),(),(),(),((),())],aL w.heap.size (w.heap.size+1) THD #[.int .i64 1,one,two],aL w.heap.size (w.heap.size) aO #[aA,aB,.slice p n cap,free,step,aE,aF,aC,aG,.slice q m c2]]) gA p1 cp1 q1 cq1 (MK.out.fold [aJ w.heap.size TI 1 (p1) (n) (cp1) (ivs xs),aJ w.heap.size TV 4 (q1) (m) (cq1) (vs.flatMap aD),aL w.heap.size (gA) aO #[aA,aB,.slice p1 n cp1,free,step,aE,aF,aC,aG,.slice q1 m cq1]])).mono ?_
  rintro e w5 ⟨p5,c5,q5,d5,rfl,hM5⟩
  clear M3 lt3_0 lt3_3 lt3_4 lt3_5
  have M8:=xQ (show Mem w w5 [aJ w.heap.size TI 1 (p5) (n) (c5) (ivs ys),aJ w.heap.size TV 4 (q5) (m2) (d5) (vs2.flatMap aD),aL w.heap.size (gA) aO #[aA,aB,.slice p5 n c5,free,step,aE,aF,aC,bank2,.slice q5 m2 d5],aL w.heap.size (w.heap.size+1+1) aO #[(),(),((),()),(),(),(),(),(),(),((),())],aL w.heap.size (w.heap.size+1) THD #[.int .i64 1,one,two],aL w.heap.size (w.heap.size) aO #[aA,aB,.slice p n cap,free,step,aE,aF,aC,aG,.slice q m c2]]from Mem.frame [aJ w.heap.size TI 1 (p1) (n) (cp1) (ivs xs),aJ w.heap.size TV 4 (q1) (m) (cq1) (vs.flatMap aD),aL w.heap.size (gA) aO #[aA,aB,.slice p1 n cp1,free,step,aE,aF,aC,aG,.slice q1 m cq1]] [aJ w.heap.size TI 1 (p5) (n) (c5) (ivs ys),aJ w.heap.size TV 4 (q5) (m2) (d5) (vs2.flatMap aD),aL w.heap.size (gA) aO #[aA,aB,.slice p5 n c5,free,step,aE,aF,aC,bank2,.slice q5 m2 d5]] MK.out hM5)
  clear hM5 MK HY HL
  have lt18_2:=M8.out.hi 2
  have lt18_3:=M8.out.hi 3
  have lt18_4:=M8.out.hi 4
  have lt18_5:=M8.out.hi 5
  obtain⟨e0,e1,e2,e3,e4,e5,e6,e7,e8,e9⟩:=(M8.out.blk (i:=2) rfl).ten
  obtain⟨f0,ff0,f1,ff1,f2,ff2,f3,ff3,f4,ff4,f5,ff5,f6,ff6,f7,ff7,f8,ff8,f9,ff9⟩:=(M8.out.blk (i:=3) rfl).tenf
  have ne0_1a: ¬(gA=w.heap.size+1+1):=M8.out.ne (i:=2) (j:=3) (by omega) rfl rfl rfl rfl
  have ne0_1b: ¬(w.heap.size+1+1=gA):=fun h=>ne0_1a h.symm
  go_wp2
  clear e0 e1 e2 e3 e4 e5 e6 e7 e8 e9 f0 ff0 f1 ff1 f2 ff2 f3 ff3 f4 ff4 f5 ff5 f6 ff6 f7 ff7 f8 ff8 f9 ff9 ne0_1a ne0_1b lt18_2 lt18_3 lt18_4 lt18_5
  have M19:=xQ (((M8.out).put10 (i:=3) rfl (.int .i64 aA) (.int .i64 aB) (.slice p5 n c5) (.int .i64 free) (.int .i64 step) (.int .i64 aE) (.int .i64 aF) (.int .i64 aC) (.int .i64 bank2) (.slice q5 m2 d5)))
  generalize hwz:World.setCell _ _ _=wz
  rw[hwz]at M19
  clear hwz M8
  obtain⟨y0,y1,y2,y3,y4,y5,y6,y7,y8,y9⟩:=(M19.out.blk (i:=3) rfl).ten
  exact bodyPost_ret (v:= .tuple #[.agg #[aA,aB,.slice p5 n c5,free,step,aE,aF,aC,bank2,.slice q5 m2 d5],num,.bool true]) (by simp[results,Tryz.results27,go_sem, *]) rfl ⟨p5,c5,q5,d5,rfl,(M19.out.own (i:=0) rfl),(M19.out.own (i:=1) rfl),M19.out.ext⟩
 ·obtain⟨de0,de1,de2⟩:=(M3.out.blk (i:=4) rfl).tri
  have HY:=xQ hY
  clear hY
  have MK:=xQ (show Mem w w3 ([aJ w.heap.size TI 1 (p1) (n) (cp1) (ivs xs),aJ w.heap.size TV 4 (q1) (m) (cq1) (vs.flatMap aD),aL w.heap.size (gA) aO #[aA,aB,.slice p1 n cp1,free,step,aE,aF,aC,aG,.slice q1 m cq1]]++ [aL w.heap.size (w.heap.size+1+1) aO #[(),(),((),()),(),(),(),(),(),(),((),())],aL w.heap.size (w.heap.size+1) THD #[.int .i64 2,one,two],aL w.heap.size (w.heap.size) aO #[aA,aB,.slice p n cap,free,step,aE,aF,aC,aG,.slice q m c2]])from M3.out.pick [1,2,0,3,4,5] (by decide) rfl)
  go_wp2_with fail
  clear de0 de1 de2
  refine(HY.out _ (sQ [aL w.heap.size (w.heap.size+1+1) aO #[(),(),((),()),(),(),(),(),(),(),((),())],aL w.heap.size (w.heap.size+1) THD #[.int .i64 2,one,two],aL w.heap.size (w.heap.size) aO #[aA,aB,.slice p n cap,free,step,aE,aF,aC,aG,.slice q m c2]]) gA p1 cp1 q1 cq1 (MK.out.fold [aJ w.heap.size TI 1 (p1) (n) (cp1) (ivs xs),aJ w.heap.size TV 4 (q1) (m) (cq1) (vs.flatMap aD),aL w.heap.size (gA) aO #[aA,aB,.slice p1 n cp1,free,step,aE,aF,aC,aG,.slice q1 m cq1]])).mono ?_
  rintro e w5 ⟨p5,c5,q5,d5,rfl,hM5⟩
  clear M3 lt3_0 lt3_3 lt3_4 lt3_5
  have M8:=xQ (show Mem w w5 [aJ w.heap.size TI 1 (p5) (n) (c5) (ivs ys),aJ w.heap.size TV 4 (q5) (m2) (d5) (vs2.flatMap aD),aL w.heap.size (gA) aO #[aA,aB,.slice p5 n c5,free,step,aE,aF,aC,bank2,.slice q5 m2 d5],aL w.heap.size (w.heap.size+1+1) aO #[(),(),((),()),(),(),(),(),(),(),((),())],aL w.heap.size (w.heap.size+1) THD #[.int .i64 2,one,two],aL w.heap.size (w.heap.size) aO #[aA,aB,.slice p n cap,free,step,aE,aF,aC,aG,.slice q m c2]]from Mem.frame [aJ w.heap.size TI 1 (p1) (n) (cp1) (ivs xs),aJ w.heap.size TV 4 (q1) (m) (cq1) (vs.flatMap aD),aL w.heap.size (gA) aO #[aA,aB,.slice p1 n cp1,free,step,aE,aF,aC,aG,.slice q1 m cq1]] [aJ w.heap.size TI 1 (p5) (n) (c5) (ivs ys),aJ w.heap.size TV 4 (q5) (m2) (d5) (vs2.flatMap aD),aL w.heap.size (gA) aO #[aA,aB,.slice p5 n c5,free,step,aE,aF,aC,bank2,.slice q5 m2 d5]] MK.out hM5)
  clear hM5 MK HY HL
  have lt18_2:=M8.out.hi 2
  have lt18_3:=M8.out.hi 3
  have lt18_4:=M8.out.hi 4
  have lt18_5:=M8.out.hi 5
  obtain⟨e0,e1,e2,e3,e4,e5,e6,e7,e8,e9⟩:=(M8.out.blk (i:=2) rfl).ten
  obtain⟨f0,ff0,f1,ff1,f2,ff2,f3,ff3,f4,ff4,f5,ff5,f6,ff6,f7,ff7,f8,ff8,f9,ff9⟩:=(M8.out.blk (i:=3) rfl).tenf
  have ne0_1a: ¬(gA=w.heap.size+1+1):=M8.out.ne (i:=2) (j:=3) (by omega) rfl rfl rfl rfl
  have ne0_1b: ¬(w.heap.size+1+1=gA):=fun h=>ne0_1a h.symm
  go_wp2
  clear e0 e1 e2 e3 e4 e5 e6 e7 e8 e9 f0 ff0 f1 ff1 f2 ff2 f3 ff3 f4 ff4 f5 ff5 f6 ff6 f7 ff7 f8 ff8 f9 ff9 ne0_1a ne0_1b lt18_2 lt18_3 lt18_4 lt18_5
  have M19:=xQ (((M8.out).put10 (i:=3) rfl (.int .i64 aA) (.int .i64 aB) (.slice p5 n c5) (.int .i64 free) (.int .i64 step) (.int .i64 aE) (.int .i64 aF) (.int .i64 aC) (.int .i64 bank2) (.slice q5 m2 d5)))
  generalize hwz:World.setCell _ _ _=wz
  rw[hwz]at M19
  clear hwz M8
  obtain⟨y0,y1,y2,y3,y4,y5,y6,y7,y8,y9⟩:=(M19.out.blk (i:=3) rfl).ten
  exact bodyPost_ret (v:= .tuple #[.agg #[aA,aB,.slice p5 n c5,free,step,aE,aF,aC,bank2,.slice q5 m2 d5],num,.bool true]) (by simp[results,Tryz.results27,go_sem, *]) rfl ⟨p5,c5,q5,d5,rfl,(M19.out.own (i:=0) rfl),(M19.out.own (i:=1) rfl),M19.out.ext⟩
end Go.Proofs.YtgnkoffndhmhpaaGreatDoor
