/-
  Texts of this proof, packed (@packed).
-/
import Derived.Test.YtahglfakiobbcaaGreatDoorK11
import Derived.Test.YtahglfakiobbcaaGreatDoorK32
namespace Go.Proofs.YtahglfakiobbcaaGreatDoor
open Go.RowKit
set_option linter.unusedVariables false
set_option linter.unusedSimpArgs false
abbrev THD:TypeId:=41
set_option maxRecDepth 100000 in
set_option maxHeartbeats 8000000 in
theorem yI (aA aB free step aE aG aD aH kind one two:Int)(p:Option Addr)(n cap:Nat)(q:Option Addr)(m c2:Nat)(xs:List Int)(vs:List aQ)(w:World)
  (HVd:Hid (∀w',Ext w w'→Calls Tryz.prog 27 #[.agg #[.int .i64 aA,.int .i64 aB,.slice p n cap,.int .i64 free,.int .i64 step,.int .i64 aE,.int .i64 aG,.int .i64 aD,.int .i64 aH,.slice q m c2]] w' fun e w''=>e= .returned (.bool false)∧Ext w' w'')):
  Calls Tryz.prog 7 #[.agg #[.int .i64 aA,.int .i64 aB,.slice p n cap,.int .i64 free,.int .i64 step,.int .i64 aE,.int .i64 aG,.int .i64 aD,.int .i64 aH,.slice q m c2],.agg #[.int .i64 kind,.int .i64 one,.int .i64 two]] w fun e w'=>e= .returned (.tuple #[.agg #[.int .i64 0,.int .i64 0,.slice none 0 0,.int .i64 0,.int .i64 0,.int .i64 0,.int .i64 0,.int .i64 0,.int .i64 0,.slice none 0 0],.int .i64 (-1),.bool false])∧Ext w w':=by
 go_enter Tryz.func7,Tryz.ntmps7
 go_wp2_with fail
 refine(HVd.out _ (Mem.b3 w).ext).mono ?_
 rintro e w1 ⟨rfl,hx1⟩
 have M1:=xQ ((Mem.b3 w).adv hx1)
 have lt1_0:=M1.out.hi 0
 have lt1_1:=M1.out.hi 1
 have lt1_2:=M1.out.hi 2
 clear hx1
 clear HVd
 obtain⟨f0,ff0,f1,ff1,f2,ff2,f3,ff3,f4,ff4,f5,ff5,f6,ff6,f7,ff7,f8,ff8,f9,ff9⟩:=(M1.out.blk (i:=0) rfl).tenf
 go_wp2
 clear f0 ff0 f1 ff1 f2 ff2 f3 ff3 f4 ff4 f5 ff5 f6 ff6 f7 ff7 f8 ff8 f9 ff9 lt1_0 lt1_1 lt1_2
 have M2:=xQ (((M1.out).put10 (i:=0) rfl (.int .i64 0) (.int .i64 0) (.slice none 0 0) (.int .i64 0) (.int .i64 0) (.int .i64 0) (.int .i64 0) (.int .i64 0) (.int .i64 0) (.slice none 0 0)))
 generalize hwz:World.setCell _ _ _=wz
 rw[hwz]at M2
 clear hwz M1
 obtain⟨y0,y1,y2,y3,y4,y5,y6,y7,y8,y9⟩:=(M2.out.blk (i:=0) rfl).ten
 exact bodyPost_ret (v:= .tuple #[.agg #[.int .i64 0,.int .i64 0,.slice none 0 0,.int .i64 0,.int .i64 0,.int .i64 0,.int .i64 0,.int .i64 0,.int .i64 0,.slice none 0 0],.int .i64 (-1),.bool false]) (by simp[results,Tryz.results7,go_sem, *]) rfl ⟨rfl,M2.out.ext⟩
set_option maxRecDepth 100000 in
set_option maxHeartbeats 8000000 in
theorem tL (aA aB free step aE aG aD aH kind one two:Int)(p:Option Addr)(n cap:Nat)(q:Option Addr)(m c2:Nat)(xs:List Int)(vs:List aQ)(w:World)(h0:kind≠0)(h1:kind≠1)(h2:kind≠2)(h3:kind≠3)(h4:kind≠4)
  (HVd:Hid (∀w',Ext w w'→Calls Tryz.prog 27 #[.agg #[.int .i64 aA,.int .i64 aB,.slice p n cap,.int .i64 free,.int .i64 step,.int .i64 aE,.int .i64 aG,.int .i64 aD,.int .i64 aH,.slice q m c2]] w' fun e w''=>e= .returned (.bool true)∧Ext w' w''))
  (HL:Hid (∀w',Ext w w'→Calls Tryz.prog 28 #[.agg #[.int .i64 aA,.int .i64 aB,.slice p n cap,.int .i64 free,.int .i64 step,.int .i64 aE,.int .i64 aG,.int .i64 aD,.int .i64 aH,.slice q m c2]] w' fun e w''=> ∃p' cap' q' c2',e= .returned (.agg #[.int .i64 aA,.int .i64 aB,.slice p' n cap',.int .i64 free,.int .i64 step,.int .i64 aE,.int .i64 aG,.int .i64 aD,.int .i64 aH,.slice q' m c2'])∧w''.ownsRow w'.heap.size TI 1 (.slice p' n cap') n (ivs xs)∧w''.ownsRow w'.heap.size TV 4 (.slice q' m c2') m (vs.flatMap aC)∧Ext w' w'')):
  Calls Tryz.prog 7 #[.agg #[.int .i64 aA,.int .i64 aB,.slice p n cap,.int .i64 free,.int .i64 step,.int .i64 aE,.int .i64 aG,.int .i64 aD,.int .i64 aH,.slice q m c2],.agg #[.int .i64 kind,.int .i64 one,.int .i64 two]] w fun e w'=> ∃p' cap' q' c2',e= .returned (.tuple #[.agg #[.int .i64 aA,.int .i64 aB,.slice p' n cap',.int .i64 free,.int .i64 step,.int .i64 aE,.int .i64 aG,.int .i64 aD,.int .i64 aH,.slice q' m c2'],.int .i64 (-1),.bool false])∧w'.ownsRow w.heap.size TI 1 (.slice p' n cap') n (ivs xs)∧w'.ownsRow w.heap.size TV 4 (.slice q' m c2') m (vs.flatMap aC)∧Ext w w':=by
 go_enter Tryz.func7,Tryz.ntmps7
 go_wp2_with fail
 refine(HVd.out _ (Mem.b3 w).ext).mono ?_
 rintro e w1 ⟨rfl,hx1⟩
 have M1:=xQ ((Mem.b3 w).adv hx1)
 have lt1_0:=M1.out.hi 0
 have lt1_1:=M1.out.hi 1
 have lt1_2:=M1.out.hi 2
 clear hx1
 clear HVd
 obtain⟨ce0,ce1,ce2,ce3,ce4,ce5,ce6,ce7,ce8,ce9⟩:=(M1.out.blk (i:=2) rfl).ten
 go_wp2_with fail
 clear ce0 ce1 ce2 ce3 ce4 ce5 ce6 ce7 ce8 ce9
 refine(HL.out _ (M1.out).ext).mono ?_
 rintro e w2 ⟨p1,cp1,q1,cq1,rfl,ho,hq,hx⟩
 have M2:=xQ ((M1.out).own2 hx ho hq (Nat.le_refl _) (by decide))
 clear M1
 clear lt1_0 lt1_1 lt1_2
 have lt2_2:=M2.out.hi 2
 have lt2_3:=M2.out.hi 3
 have lt2_4:=M2.out.hi 4
 clear hx ho hq
 obtain⟨ce0,ce1,ce2,ce3,ce4,ce5,ce6,ce7,ce8,ce9⟩:=(M2.out.blk (i:=4) rfl).ten
 have de0:w2.cell? ⟨w.heap.size+1,0,none⟩=some (.int .i64 kind):=(M2.out.blk (i:=3) rfl).cell 0
 have k0:(kind==0)=false:=by simp;omega
 have k1:(kind==1)=false:=by simp;omega
 have k2:(kind==2)=false:=by simp;omega
 have k3:(kind==3)=false:=by simp;omega
 have k4:(kind==4)=false:=by simp;omega
 go_wp2_with fail
 clear ce0 ce1 ce2 ce3 ce4 ce5 ce6 ce7 ce8 ce9 de0
 refine(HL.out _ (((M2.out).blkNew aO #[.int .i64 aA,.int .i64 aB,.slice p1 n cp1,.int .i64 free,.int .i64 step,.int .i64 aE,.int .i64 aG,.int .i64 aD,.int .i64 aH,.slice q1 m cq1] (w2.heap.size) (by simp))).ext).mono ?_
 rintro e w9 ⟨p9,cp9,q9,cq9,rfl,ho,hq,hx⟩
 have M3:=xQ ((((M2.out).blkNew aO #[.int .i64 aA,.int .i64 aB,.slice p1 n cp1,.int .i64 free,.int .i64 step,.int .i64 aE,.int .i64 aG,.int .i64 aD,.int .i64 aH,.slice q1 m cq1] (w2.heap.size) (by simp))).own2 hx ho hq (Nat.le_refl _) (by decide))
 clear M2
 clear lt2_2 lt2_3 lt2_4
 have lt3_2:=M3.out.hi 2
 have lt3_5:=M3.out.hi 5
 have lt3_6:=M3.out.hi 6
 have lt3_7:=M3.out.hi 7
 clear hx ho hq HL
 obtain⟨f0,ff0,f1,ff1,f2,ff2,f3,ff3,f4,ff4,f5,ff5,f6,ff6,f7,ff7,f8,ff8,f9,ff9⟩:=(M3.out.blk (i:=5) rfl).tenf
 go_wp2
 clear f0 ff0 f1 ff1 f2 ff2 f3 ff3 f4 ff4 f5 ff5 f6 ff6 f7 ff7 f8 ff8 f9 ff9 lt3_2 lt3_5 lt3_6 lt3_7
 have M4:=xQ (((M3.out).put10 (i:=5) rfl (.int .i64 aA) (.int .i64 aB) (.slice p9 n cp9) (.int .i64 free) (.int .i64 step) (.int .i64 aE) (.int .i64 aG) (.int .i64 aD) (.int .i64 aH) (.slice q9 m cq9)))
 generalize hwz:World.setCell _ _ _=wz
 rw[hwz]at M4
 clear hwz M3
 obtain⟨y0,y1,y2,y3,y4,y5,y6,y7,y8,y9⟩:=(M4.out.blk (i:=5) rfl).ten
 exact bodyPost_ret (v:= .tuple #[.agg #[.int .i64 aA,.int .i64 aB,.slice p9 n cp9,.int .i64 free,.int .i64 step,.int .i64 aE,.int .i64 aG,.int .i64 aD,.int .i64 aH,.slice q9 m cq9],.int .i64 (-1),.bool false]) (by simp[results,Tryz.results7,go_sem, *]) rfl ⟨p9,cp9,q9,cq9,rfl,(M4.out.own (i:=0) rfl),(M4.out.own (i:=1) rfl),M4.out.ext⟩
set_option maxRecDepth 100000 in
set_option maxHeartbeats 8000000 in
theorem oW (aA aB free step aE aG aD aH one two:Int)(p:Option Addr)(n cap:Nat)(q:Option Addr)(m c2:Nat)(xs:List Int)(vs:List aQ)(w:World)(hc:0≤aD)(hc2:aD≤9999)(h1:1≤one)(h2:one≤9999-aD)
  (HVd:Hid (∀w',Ext w w'→Calls Tryz.prog 27 #[.agg #[.int .i64 aA,.int .i64 aB,.slice p n cap,.int .i64 free,.int .i64 step,.int .i64 aE,.int .i64 aG,.int .i64 aD,.int .i64 aH,.slice q m c2]] w' fun e w''=>e= .returned (.bool true)∧Ext w' w''))
  (HL:Hid (∀w',Ext w w'→Calls Tryz.prog 28 #[.agg #[.int .i64 aA,.int .i64 aB,.slice p n cap,.int .i64 free,.int .i64 step,.int .i64 aE,.int .i64 aG,.int .i64 aD,.int .i64 aH,.slice q m c2]] w' fun e w''=> ∃p' cap' q' c2',e= .returned (.agg #[.int .i64 aA,.int .i64 aB,.slice p' n cap',.int .i64 free,.int .i64 step,.int .i64 aE,.int .i64 aG,.int .i64 aD,.int .i64 aH,.slice q' m c2'])∧w''.ownsRow w'.heap.size TI 1 (.slice p' n cap') n (ivs xs)∧w''.ownsRow w'.heap.size TV 4 (.slice q' m c2') m (vs.flatMap aC)∧Ext w' w''))
  (HI:Hid (∀w',Calls Tryz.prog 35 #[.int .i64 one,.int .i64 1,.int .i64 (9999-aD)] w' fun e w''=>e= .returned (.bool true)∧w'=w'')):
  Calls Tryz.prog 7 #[.agg #[.int .i64 aA,.int .i64 aB,.slice p n cap,.int .i64 free,.int .i64 step,.int .i64 aE,.int .i64 aG,.int .i64 aD,.int .i64 aH,.slice q m c2],.agg #[.int .i64 3,.int .i64 one,.int .i64 two]] w fun e w'=> ∃p' cap' q' c2',e= .returned (.tuple #[.agg #[.int .i64 aA,.int .i64 aB,.slice p' n cap',.int .i64 free,.int .i64 step,.int .i64 aE,.int .i64 aG,.int .i64 (aD+one),.int .i64 aH,.slice q' m c2'],.int .i64 (aD+one),.bool true])∧w'.ownsRow w.heap.size TI 1 (.slice p' n cap') n (ivs xs)∧w'.ownsRow w.heap.size TV 4 (.slice q' m c2') m (vs.flatMap aC)∧Ext w w':=by
 go_enter Tryz.func7,Tryz.ntmps7
 go_wp2_with fail
 refine(HVd.out _ (Mem.b3 w).ext).mono ?_
 rintro e w1 ⟨rfl,hx1⟩
 have M1:=xQ ((Mem.b3 w).adv hx1)
 have lt1_0:=M1.out.hi 0
 have lt1_1:=M1.out.hi 1
 have lt1_2:=M1.out.hi 2
 clear hx1
 clear HVd
 obtain⟨ce0,ce1,ce2,ce3,ce4,ce5,ce6,ce7,ce8,ce9⟩:=(M1.out.blk (i:=2) rfl).ten
 go_wp2_with fail
 clear ce0 ce1 ce2 ce3 ce4 ce5 ce6 ce7 ce8 ce9
 refine(HL.out _ (M1.out).ext).mono ?_
 rintro e w2 ⟨p1,cp1,q1,cq1,rfl,ho,hq,hx⟩
 have M2:=xQ ((M1.out).own2 hx ho hq (Nat.le_refl _) (by decide))
 clear M1
 clear lt1_0 lt1_1 lt1_2
 have lt2_2:=M2.out.hi 2
 have lt2_3:=M2.out.hi 3
 have lt2_4:=M2.out.hi 4
 clear hx ho hq
 obtain⟨ce0,ce1,ce2,ce3,ce4,ce5,ce6,ce7,ce8,ce9⟩:=(M2.out.blk (i:=4) rfl).ten
 obtain⟨de0,de1,de2⟩:=(M2.out.blk (i:=3) rfl).tri
 have k1:IntKind.i64.wrap (9999-aD)=9999-aD:=IntWalk.i64_in _ (by omega)
 go_wp2_with fail
 refine(HI.out _).mono ?_
 rintro e _ ⟨rfl,rfl⟩
 clear HI k1
 clear ce0 ce1 ce2 ce3 ce4 ce5 ce6 ce7 ce8 ce9 de0 de1 de2
 have M3:=xQ (((M2.out).blkNew aO #[.int .i64 aA,.int .i64 aB,.slice p1 n cp1,.int .i64 free,.int .i64 step,.int .i64 aE,.int .i64 aG,.int .i64 aD,.int .i64 aH,.slice q1 m cq1] (w2.heap.size) (by simp)))
 generalize (w2.alloc (.cells #[.int .i64 aA,.int .i64 aB,.slice p1 n cp1,.int .i64 free,.int .i64 step,.int .i64 aE,.int .i64 aG,.int .i64 aD,.int .i64 aH,.slice q1 m cq1] aO))=w3 at M3⊢
 clear M2
 clear lt2_2 lt2_3 lt2_4
 have lt3_0:=M3.out.hi 0
 have lt3_3:=M3.out.hi 3
 have lt3_4:=M3.out.hi 4
 have lt3_5:=M3.out.hi 5
 have ce7:w3.cell? ⟨w.heap.size,7,none⟩=some (.int .i64 aD):=(M3.out.blk (i:=5) rfl).cell 7
 have de1:w3.cell? ⟨w.heap.size+1,1,none⟩=some (.int .i64 one):=(M3.out.blk (i:=4) rfl).cell 1
 obtain⟨d0,df0,d1,df1,d2,df2,d3,df3,d4,df4,d5,df5,d6,df6,d7,df7,d8,df8,d9,df9⟩:=(M3.out.blk (i:=0) rfl).tenf
 obtain⟨f0,ff0,f1,ff1,f2,ff2,f3,ff3,f4,ff4,f5,ff5,f6,ff6,f7,ff7,f8,ff8,f9,ff9⟩:=(M3.out.blk (i:=3) rfl).tenf
 have ne0_1a: ¬(w.heap.size+1=w.heap.size):=M3.out.ne (i:=4) (j:=5) (by omega) rfl rfl rfl rfl
 have ne0_1b: ¬(w.heap.size=w.heap.size+1):=fun h=>ne0_1a h.symm
 have ne0_2a: ¬(w.heap.size+1+1=w.heap.size):=M3.out.ne (i:=3) (j:=5) (by omega) rfl rfl rfl rfl
 have ne0_2b: ¬(w.heap.size=w.heap.size+1+1):=fun h=>ne0_2a h.symm
 have ne0_3a: ¬(w2.heap.size=w.heap.size):=M3.out.ne (i:=0) (j:=5) (by omega) rfl rfl rfl rfl
 have ne0_3b: ¬(w.heap.size=w2.heap.size):=fun h=>ne0_3a h.symm
 have ne1_2a: ¬(w.heap.size+1+1=w.heap.size+1):=M3.out.ne (i:=3) (j:=4) (by omega) rfl rfl rfl rfl
 have ne1_2b: ¬(w.heap.size+1=w.heap.size+1+1):=fun h=>ne1_2a h.symm
 have ne1_3a: ¬(w2.heap.size=w.heap.size+1):=M3.out.ne (i:=0) (j:=4) (by omega) rfl rfl rfl rfl
 have ne1_3b: ¬(w.heap.size+1=w2.heap.size):=fun h=>ne1_3a h.symm
 have ne2_3a: ¬(w2.heap.size=w.heap.size+1+1):=M3.out.ne (i:=0) (j:=3) (by omega) rfl rfl rfl rfl
 have ne2_3b: ¬(w.heap.size+1+1=w2.heap.size):=fun h=>ne2_3a h.symm
 have k2:IntKind.i64.wrap (aD+one)=aD+one:=IntWalk.i64_in _ (by omega)
 have hd:decide (aD+one<0)=false:=by simp;omega
 clear HL
 have M4:=xQ (show Mem w (w3.setCell ⟨w2.heap.size,7,none⟩ (.int .i64 (aD+one))) [aF w.heap.size (w2.heap.size) aO #[.int .i64 aA,.int .i64 aB,.slice p1 n cp1,.int .i64 free,.int .i64 step,.int .i64 aE,.int .i64 aG,.int .i64 (aD+one),.int .i64 aH,.slice q1 m cq1],aJ w.heap.size TI 1 (p1) (n) (cp1) (ivs xs),aJ w.heap.size TV 4 (q1) (m) (cq1) (vs.flatMap aC),aF w.heap.size (w.heap.size+1+1) aO #[.int .i64 0,.int .i64 0,.slice none 0 0,.int .i64 0,.int .i64 0,.int .i64 0,.int .i64 0,.int .i64 0,.int .i64 0,.slice none 0 0],aF w.heap.size (w.heap.size+1) THD #[.int .i64 3,.int .i64 one,.int .i64 two],aF w.heap.size (w.heap.size) aO #[.int .i64 aA,.int .i64 aB,.slice p n cap,.int .i64 free,.int .i64 step,.int .i64 aE,.int .i64 aG,.int .i64 aD,.int .i64 aH,.slice q m c2]]from((M3.out).store (i:=0) rfl 7 (.int .i64 (aD+one))))
 go_wp2
 clear ce7 de1 d0 df0 d1 df1 d2 df2 d3 df3 d4 df4 d5 df5 d6 df6 d7 df7 d8 df8 d9 df9 f0 ff0 f1 ff1 f2 ff2 f3 ff3 f4 ff4 f5 ff5 f6 ff6 f7 ff7 f8 ff8 f9 ff9 ne0_1a ne0_1b ne0_2a ne0_2b ne0_3a ne0_3b ne1_2a ne1_2b ne1_3a ne1_3b ne2_3a ne2_3b lt3_0 lt3_3 lt3_4 lt3_5
 have M5:=xQ (((M4.out).put10 (i:=3) rfl (.int .i64 aA) (.int .i64 aB) (.slice p1 n cp1) (.int .i64 free) (.int .i64 step) (.int .i64 aE) (.int .i64 aG) (.int .i64 (aD+one)) (.int .i64 aH) (.slice q1 m cq1)))
 generalize hwz:World.setCell _ _ _=wz
 rw[hwz]at M5
 clear hwz M3 M4
 obtain⟨y0,y1,y2,y3,y4,y5,y6,y7,y8,y9⟩:=(M5.out.blk (i:=3) rfl).ten
 exact bodyPost_ret (v:= .tuple #[.agg #[.int .i64 aA,.int .i64 aB,.slice p1 n cp1,.int .i64 free,.int .i64 step,.int .i64 aE,.int .i64 aG,.int .i64 (aD+one),.int .i64 aH,.slice q1 m cq1],.int .i64 (aD+one),.bool true]) (by simp[results,Tryz.results7,go_sem, *]) rfl ⟨p1,cp1,q1,cq1,rfl,(M5.out.own (i:=1) rfl),(M5.out.own (i:=2) rfl),M5.out.ext⟩
set_option maxRecDepth 100000 in
set_option maxHeartbeats 8000000 in
theorem pS (aA aB free step aE aG aD aH one two:Int)(p:Option Addr)(n cap:Nat)(q:Option Addr)(m c2:Nat)(xs:List Int)(vs:List aQ)(w:World)(hc:0≤aD)(hc2:aD≤9999)
  (HVd:Hid (∀w',Ext w w'→Calls Tryz.prog 27 #[.agg #[.int .i64 aA,.int .i64 aB,.slice p n cap,.int .i64 free,.int .i64 step,.int .i64 aE,.int .i64 aG,.int .i64 aD,.int .i64 aH,.slice q m c2]] w' fun e w''=>e= .returned (.bool true)∧Ext w' w''))
  (HL:Hid (∀w',Ext w w'→Calls Tryz.prog 28 #[.agg #[.int .i64 aA,.int .i64 aB,.slice p n cap,.int .i64 free,.int .i64 step,.int .i64 aE,.int .i64 aG,.int .i64 aD,.int .i64 aH,.slice q m c2]] w' fun e w''=> ∃p' cap' q' c2',e= .returned (.agg #[.int .i64 aA,.int .i64 aB,.slice p' n cap',.int .i64 free,.int .i64 step,.int .i64 aE,.int .i64 aG,.int .i64 aD,.int .i64 aH,.slice q' m c2'])∧w''.ownsRow w'.heap.size TI 1 (.slice p' n cap') n (ivs xs)∧w''.ownsRow w'.heap.size TV 4 (.slice q' m c2') m (vs.flatMap aC)∧Ext w' w''))
  (HI:Hid (∀w',Calls Tryz.prog 35 #[.int .i64 one,.int .i64 1,.int .i64 (9999-aD)] w' fun e w''=>e= .returned (.bool false)∧w'=w'')):
  Calls Tryz.prog 7 #[.agg #[.int .i64 aA,.int .i64 aB,.slice p n cap,.int .i64 free,.int .i64 step,.int .i64 aE,.int .i64 aG,.int .i64 aD,.int .i64 aH,.slice q m c2],.agg #[.int .i64 3,.int .i64 one,.int .i64 two]] w fun e w'=> ∃p' cap' q' c2',e= .returned (.tuple #[.agg #[.int .i64 aA,.int .i64 aB,.slice p' n cap',.int .i64 free,.int .i64 step,.int .i64 aE,.int .i64 aG,.int .i64 aD,.int .i64 aH,.slice q' m c2'],.int .i64 (-1),.bool false])∧w'.ownsRow w.heap.size TI 1 (.slice p' n cap') n (ivs xs)∧w'.ownsRow w.heap.size TV 4 (.slice q' m c2') m (vs.flatMap aC)∧Ext w w':=by
 go_enter Tryz.func7,Tryz.ntmps7
 go_wp2_with fail
 refine(HVd.out _ (Mem.b3 w).ext).mono ?_
 rintro e w1 ⟨rfl,hx1⟩
 have M1:=xQ ((Mem.b3 w).adv hx1)
 have lt1_0:=M1.out.hi 0
 have lt1_1:=M1.out.hi 1
 have lt1_2:=M1.out.hi 2
 clear hx1
 clear HVd
 obtain⟨ce0,ce1,ce2,ce3,ce4,ce5,ce6,ce7,ce8,ce9⟩:=(M1.out.blk (i:=2) rfl).ten
 go_wp2_with fail
 clear ce0 ce1 ce2 ce3 ce4 ce5 ce6 ce7 ce8 ce9
 refine(HL.out _ (M1.out).ext).mono ?_
 rintro e w2 ⟨p1,cp1,q1,cq1,rfl,ho,hq,hx⟩
 have M2:=xQ ((M1.out).own2 hx ho hq (Nat.le_refl _) (by decide))
 clear M1
 clear lt1_0 lt1_1 lt1_2
 have lt2_2:=M2.out.hi 2
 have lt2_3:=M2.out.hi 3
 have lt2_4:=M2.out.hi 4
 clear hx ho hq
 obtain⟨ce0,ce1,ce2,ce3,ce4,ce5,ce6,ce7,ce8,ce9⟩:=(M2.out.blk (i:=4) rfl).ten
 obtain⟨de0,de1,de2⟩:=(M2.out.blk (i:=3) rfl).tri
 have k1:IntKind.i64.wrap (9999-aD)=9999-aD:=IntWalk.i64_in _ (by omega)
 go_wp2_with fail
 refine(HI.out _).mono ?_
 rintro e _ ⟨rfl,rfl⟩
 clear HI k1
 clear ce0 ce1 ce2 ce3 ce4 ce5 ce6 ce7 ce8 ce9 de0 de1 de2
 have M3:=xQ (((M2.out).blkNew aO #[.int .i64 aA,.int .i64 aB,.slice p1 n cp1,.int .i64 free,.int .i64 step,.int .i64 aE,.int .i64 aG,.int .i64 aD,.int .i64 aH,.slice q1 m cq1] (w2.heap.size) (by simp)))
 generalize (w2.alloc (.cells #[.int .i64 aA,.int .i64 aB,.slice p1 n cp1,.int .i64 free,.int .i64 step,.int .i64 aE,.int .i64 aG,.int .i64 aD,.int .i64 aH,.slice q1 m cq1] aO))=w3 at M3⊢
 clear M2
 clear lt2_2 lt2_3 lt2_4
 have lt3_0:=M3.out.hi 0
 have lt3_3:=M3.out.hi 3
 have lt3_4:=M3.out.hi 4
 have lt3_5:=M3.out.hi 5
 obtain⟨ce0,ce1,ce2,ce3,ce4,ce5,ce6,ce7,ce8,ce9⟩:=(M3.out.blk (i:=5) rfl).ten
 go_wp2_with fail
 clear ce0 ce1 ce2 ce3 ce4 ce5 ce6 ce7 ce8 ce9
 refine(HL.out _ (M3.out).ext).mono ?_
 rintro e w9 ⟨p9,cp9,q9,cq9,rfl,ho,hq,hx⟩
 have M4:=xQ ((M3.out).own2 hx ho hq (Nat.le_refl _) (by decide))
 clear M3
 clear lt3_0 lt3_3 lt3_4 lt3_5
 have lt4_2:=M4.out.hi 2
 have lt4_5:=M4.out.hi 5
 have lt4_6:=M4.out.hi 6
 have lt4_7:=M4.out.hi 7
 clear hx ho hq HL
 obtain⟨f0,ff0,f1,ff1,f2,ff2,f3,ff3,f4,ff4,f5,ff5,f6,ff6,f7,ff7,f8,ff8,f9,ff9⟩:=(M4.out.blk (i:=5) rfl).tenf
 go_wp2
 clear f0 ff0 f1 ff1 f2 ff2 f3 ff3 f4 ff4 f5 ff5 f6 ff6 f7 ff7 f8 ff8 f9 ff9 lt4_2 lt4_5 lt4_6 lt4_7
 have M5:=xQ (((M4.out).put10 (i:=5) rfl (.int .i64 aA) (.int .i64 aB) (.slice p9 n cp9) (.int .i64 free) (.int .i64 step) (.int .i64 aE) (.int .i64 aG) (.int .i64 aD) (.int .i64 aH) (.slice q9 m cq9)))
 generalize hwz:World.setCell _ _ _=wz
 rw[hwz]at M5
 clear hwz M4
 obtain⟨y0,y1,y2,y3,y4,y5,y6,y7,y8,y9⟩:=(M5.out.blk (i:=5) rfl).ten
 exact bodyPost_ret (v:= .tuple #[.agg #[.int .i64 aA,.int .i64 aB,.slice p9 n cp9,.int .i64 free,.int .i64 step,.int .i64 aE,.int .i64 aG,.int .i64 aD,.int .i64 aH,.slice q9 m cq9],.int .i64 (-1),.bool false]) (by simp[results,Tryz.results7,go_sem, *]) rfl ⟨p9,cp9,q9,cq9,rfl,(M5.out.own (i:=0) rfl),(M5.out.own (i:=1) rfl),M5.out.ext⟩
end Go.Proofs.YtahglfakiobbcaaGreatDoor
