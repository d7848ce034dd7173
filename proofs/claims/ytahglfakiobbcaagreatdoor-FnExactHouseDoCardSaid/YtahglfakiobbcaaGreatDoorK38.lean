/-
  Texts of this proof, packed (@packed).
-/
import Derived.Test.YtahglfakiobbcaaGreatDoorK11
import Derived.Test.YtahglfakiobbcaaGreatDoorK34
namespace Go.Proofs.YtahglfakiobbcaaGreatDoor
open Go.RowKit
set_option linter.unusedVariables false
set_option linter.unusedSimpArgs false
set_option maxRecDepth 100000 in
set_option maxHeartbeats 8000000 in
theorem oZ (aA aB free step aE aG aD aH slides ix one two:Int)(p:Option Addr)(n cap:Nat)(q:Option Addr)(m c2:Nat)(xs ys:List Int)(vs:List aQ)(w:World)(mb:Bool)(hno:mb=true→slides<0)
  (HVd:Hid (∀w',Ext w w'→Calls Tryz.prog 27 #[.agg #[.int .i64 aA,.int .i64 aB,.slice p n cap,.int .i64 free,.int .i64 step,.int .i64 aE,.int .i64 aG,.int .i64 aD,.int .i64 aH,.slice q m c2]] w' fun e w''=>e= .returned (.bool true)∧Ext w' w''))
  (HL:Hid (∀w',Ext w w'→Calls Tryz.prog 28 #[.agg #[.int .i64 aA,.int .i64 aB,.slice p n cap,.int .i64 free,.int .i64 step,.int .i64 aE,.int .i64 aG,.int .i64 aD,.int .i64 aH,.slice q m c2]] w' fun e w''=> ∃p' cap' q' c2',e= .returned (.agg #[.int .i64 aA,.int .i64 aB,.slice p' n cap',.int .i64 free,.int .i64 step,.int .i64 aE,.int .i64 aG,.int .i64 aD,.int .i64 aH,.slice q' m c2'])∧w''.ownsRow w'.heap.size TI 1 (.slice p' n cap') n (ivs xs)∧w''.ownsRow w'.heap.size TV 4 (.slice q' m c2') m (vs.flatMap aC)∧Ext w' w''))
  (HP:Hid (∀w',Ext w w'→Calls Tryz.prog 32 #[aK aA aB p n cap,.int .i64 one] w' fun e w''=> ∃p' cap',e= .returned (.tuple #[aK aA aB p' n cap',.int .i64 slides])∧w''.ownsRow w'.heap.size TI 1 (.slice p' n cap') n (ivs ys)∧Ext w' w''))
  (HF:Hid (∀w',Ext w w'→Calls Tryz.prog 33 #[.agg #[.int .i64 aA,.int .i64 aB,.slice p n cap,.int .i64 free,.int .i64 step,.int .i64 aE,.int .i64 aG,.int .i64 aD,.int .i64 aH,.slice q m c2],.int .i64 one] w' fun e w''=>e= .returned (.int .i64 (ix))∧Ext w' w''))
  (HM:Hid (∀w',Ext w w'→Calls Tryz.prog 34 #[.agg #[.int .i64 aA,.int .i64 aB,.slice p n cap,.int .i64 free,.int .i64 step,.int .i64 aE,.int .i64 aG,.int .i64 aD,.int .i64 aH,.slice q m c2],.int .i64 one] w' fun e w''=>e= .returned (.bool mb)∧Ext w' w'')):
  Calls Tryz.prog 7 #[.agg #[.int .i64 aA,.int .i64 aB,.slice p n cap,.int .i64 free,.int .i64 step,.int .i64 aE,.int .i64 aG,.int .i64 aD,.int .i64 aH,.slice q m c2],.agg #[.int .i64 2,.int .i64 one,.int .i64 two]] w fun e w'=> ∃p' cap' q' c2',e= .returned (.tuple #[.agg #[.int .i64 aA,.int .i64 aB,.slice p' n cap',.int .i64 free,.int .i64 step,.int .i64 aE,.int .i64 aG,.int .i64 aD,.int .i64 aH,.slice q' m c2'],.int .i64 (-1),.bool false])∧w'.ownsRow w.heap.size TI 1 (.slice p' n cap') n (ivs xs)∧w'.ownsRow w.heap.size TV 4 (.slice q' m c2') m (vs.flatMap aC)∧Ext w w':=by
 go_enter Tryz.func7,Tryz.ntmps7
 go_wp2_with fail
 refine(HVd.out _ (Mem.b3 w).ext).mono ?_
 rintro e w1 ⟨rfl,hx1⟩
 have M1:=xQ ((Mem.b3 w).adv hx1)
 have lt1_0:=M1.out.hi 0
 have lt1_1:=M1.out.hi 1
 have lt1_2:=M1.out.hi 2
 clear hx1
 clear HVd
 obtain⟨ce0,ce1,ce2,ce3,ce4,ce5,ce6,ce7,ce8,ce9⟩:=(M1.out.blk (i:=2) rfl).ten
 go_wp2_with fail
 clear ce0 ce1 ce2 ce3 ce4 ce5 ce6 ce7 ce8 ce9
 refine(HL.out _ (M1.out).ext).mono ?_
 rintro e w2 ⟨p1,cp1,q1,cq1,rfl,ho,hq,hx⟩
 have M2:=xQ ((M1.out).own2 hx ho hq (Nat.le_refl _) (by decide))
 clear M1
 clear lt1_0 lt1_1 lt1_2
 have lt2_2:=M2.out.hi 2
 have lt2_3:=M2.out.hi 3
 have lt2_4:=M2.out.hi 4
 clear hx ho hq
 obtain⟨ce0,ce1,ce2,ce3,ce4,ce5,ce6,ce7,ce8,ce9⟩:=(M2.out.blk (i:=4) rfl).ten
 obtain⟨de0,de1,de2⟩:=(M2.out.blk (i:=3) rfl).tri
 go_wp2_with fail
 clear ce0 ce1 ce2 ce3 ce4 ce5 ce6 ce7 ce8 ce9 de0 de1 de2
 refine(HP.out _ (((M2.out).blkNew aO #[.int .i64 aA,.int .i64 aB,.slice p1 n cp1,.int .i64 free,.int .i64 step,.int .i64 aE,.int .i64 aG,.int .i64 aD,.int .i64 aH,.slice q1 m cq1] (w2.heap.size) (by simp))).ext).mono ?_
 rintro e w3 ⟨p5,cp5,rfl,ho,hx⟩
 have M3:=xQ ((((M2.out).blkNew aO #[.int .i64 aA,.int .i64 aB,.slice p1 n cp1,.int .i64 free,.int .i64 step,.int .i64 aE,.int .i64 aG,.int .i64 aD,.int .i64 aH,.slice q1 m cq1] (w2.heap.size) (by simp))).call hx ho)
 clear M2
 clear lt2_2 lt2_3 lt2_4
 have lt3_1:=M3.out.hi 1
 have lt3_4:=M3.out.hi 4
 have lt3_5:=M3.out.hi 5
 have lt3_6:=M3.out.hi 6
 clear hx ho HP
 obtain⟨ce0,ce1,ce2,ce3,ce4,ce5,ce6,ce7,ce8,ce9⟩:=(M3.out.blk (i:=6) rfl).ten
 obtain⟨de0,de1,de2⟩:=(M3.out.blk (i:=5) rfl).tri
 go_wp2_with fail
 clear ce0 ce1 ce2 ce3 ce4 ce5 ce6 ce7 ce8 ce9 de0 de1 de2
 refine(HF.out _ (((M3.out).blkNew TH3 #[.int .i64 aA,.int .i64 aB,.slice p5 n cp5] (w3.heap.size) (by simp))).ext).mono ?_
 rintro e w4 ⟨rfl,hx4⟩
 have M4:=xQ ((((M3.out).blkNew TH3 #[.int .i64 aA,.int .i64 aB,.slice p5 n cp5] (w3.heap.size) (by simp))).adv hx4)
 clear M3
 clear lt3_1 lt3_4 lt3_5 lt3_6
 have lt4_0:=M4.out.hi 0
 have lt4_2:=M4.out.hi 2
 have lt4_5:=M4.out.hi 5
 have lt4_6:=M4.out.hi 6
 have lt4_7:=M4.out.hi 7
 clear hx4
 clear HF
 obtain⟨ce0,ce1,ce2,ce3,ce4,ce5,ce6,ce7,ce8,ce9⟩:=(M4.out.blk (i:=7) rfl).ten
 obtain⟨de0,de1,de2⟩:=(M4.out.blk (i:=6) rfl).tri
 go_wp2_with fail
 clear ce0 ce1 ce2 ce3 ce4 ce5 ce6 ce7 ce8 ce9 de0 de1 de2
 refine(HM.out _ (M4.out).ext).mono ?_
 rintro e w5 ⟨rfl,hx5⟩
 have M5:=xQ ((M4.out).adv hx5)
 clear M4
 clear lt4_0 lt4_2 lt4_5 lt4_6 lt4_7
 have lt5_0:=M5.out.hi 0
 have lt5_2:=M5.out.hi 2
 have lt5_5:=M5.out.hi 5
 have lt5_6:=M5.out.hi 6
 have lt5_7:=M5.out.hi 7
 clear hx5
 clear HM
 cases mb with
 |true=>
   have hd2:decide (0≤slides)=false:=by simp;have:=hno rfl;omega
   obtain⟨ce0,ce1,ce2,ce3,ce4,ce5,ce6,ce7,ce8,ce9⟩:=(M5.out.blk (i:=7) rfl).ten
   go_wp2_with fail
   clear ce0 ce1 ce2 ce3 ce4 ce5 ce6 ce7 ce8 ce9
   refine(HL.out _ (M5.out).ext).mono ?_
   rintro e w9 ⟨p9,cp9,q9,cq9,rfl,ho,hq,hx⟩
   have M6:=xQ ((M5.out).own2 hx ho hq (Nat.le_refl _) (by decide))
   clear M5
   clear lt5_0 lt5_2 lt5_5 lt5_6 lt5_7
   have lt6_2:=M6.out.hi 2
   have lt6_4:=M6.out.hi 4
   have lt6_7:=M6.out.hi 7
   have lt6_8:=M6.out.hi 8
   have lt6_9:=M6.out.hi 9
   clear hx ho hq HL
   obtain⟨f0,ff0,f1,ff1,f2,ff2,f3,ff3,f4,ff4,f5,ff5,f6,ff6,f7,ff7,f8,ff8,f9,ff9⟩:=(M6.out.blk (i:=7) rfl).tenf
   go_wp2
   clear f0 ff0 f1 ff1 f2 ff2 f3 ff3 f4 ff4 f5 ff5 f6 ff6 f7 ff7 f8 ff8 f9 ff9 lt6_2 lt6_4 lt6_7 lt6_8 lt6_9
   have M7:=xQ (((M6.out).put10 (i:=7) rfl (.int .i64 aA) (.int .i64 aB) (.slice p9 n cp9) (.int .i64 free) (.int .i64 step) (.int .i64 aE) (.int .i64 aG) (.int .i64 aD) (.int .i64 aH) (.slice q9 m cq9)))
   generalize hwz:World.setCell _ _ _=wz
   rw[hwz]at M7
   clear hwz M6
   obtain⟨y0,y1,y2,y3,y4,y5,y6,y7,y8,y9⟩:=(M7.out.blk (i:=7) rfl).ten
   exact bodyPost_ret (v:= .tuple #[.agg #[.int .i64 aA,.int .i64 aB,.slice p9 n cp9,.int .i64 free,.int .i64 step,.int .i64 aE,.int .i64 aG,.int .i64 aD,.int .i64 aH,.slice q9 m cq9],.int .i64 (-1),.bool false]) (by simp[results,Tryz.results7,go_sem, *]) rfl ⟨p9,cp9,q9,cq9,rfl,(M7.out.own (i:=0) rfl),(M7.out.own (i:=1) rfl),M7.out.ext⟩
 |false=>
   obtain⟨ce0,ce1,ce2,ce3,ce4,ce5,ce6,ce7,ce8,ce9⟩:=(M5.out.blk (i:=7) rfl).ten
   go_wp2_with fail
   clear ce0 ce1 ce2 ce3 ce4 ce5 ce6 ce7 ce8 ce9
   refine(HL.out _ (M5.out).ext).mono ?_
   rintro e w9 ⟨p9,cp9,q9,cq9,rfl,ho,hq,hx⟩
   have M6:=xQ ((M5.out).own2 hx ho hq (Nat.le_refl _) (by decide))
   clear M5
   clear lt5_0 lt5_2 lt5_5 lt5_6 lt5_7
   have lt6_2:=M6.out.hi 2
   have lt6_4:=M6.out.hi 4
   have lt6_7:=M6.out.hi 7
   have lt6_8:=M6.out.hi 8
   have lt6_9:=M6.out.hi 9
   clear hx ho hq HL
   obtain⟨f0,ff0,f1,ff1,f2,ff2,f3,ff3,f4,ff4,f5,ff5,f6,ff6,f7,ff7,f8,ff8,f9,ff9⟩:=(M6.out.blk (i:=7) rfl).tenf
   go_wp2
   clear f0 ff0 f1 ff1 f2 ff2 f3 ff3 f4 ff4 f5 ff5 f6 ff6 f7 ff7 f8 ff8 f9 ff9 lt6_2 lt6_4 lt6_7 lt6_8 lt6_9
   have M7:=xQ (((M6.out).put10 (i:=7) rfl (.int .i64 aA) (.int .i64 aB) (.slice p9 n cp9) (.int .i64 free) (.int .i64 step) (.int .i64 aE) (.int .i64 aG) (.int .i64 aD) (.int .i64 aH) (.slice q9 m cq9)))
   generalize hwz:World.setCell _ _ _=wz
   rw[hwz]at M7
   clear hwz M6
   obtain⟨y0,y1,y2,y3,y4,y5,y6,y7,y8,y9⟩:=(M7.out.blk (i:=7) rfl).ten
   exact bodyPost_ret (v:= .tuple #[.agg #[.int .i64 aA,.int .i64 aB,.slice p9 n cp9,.int .i64 free,.int .i64 step,.int .i64 aE,.int .i64 aG,.int .i64 aD,.int .i64 aH,.slice q9 m cq9],.int .i64 (-1),.bool false]) (by simp[results,Tryz.results7,go_sem, *]) rfl ⟨p9,cp9,q9,cq9,rfl,(M7.out.own (i:=0) rfl),(M7.out.own (i:=1) rfl),M7.out.ext⟩
theorem vK {w:World}{b off n cap k:Nat}{vs:List aQ}(h:Sl w (some ⟨b,off,none⟩) n cap 4 (vs.flatMap aC))(hk:k≤n):Sl w (some ⟨b,off,none⟩) k cap 4 ((vs.take k).flatMap aC):=by
 have hl:=h.len
 have hle:=h.le
 have hmx:=h.mx
 have e:(vs.take k).flatMap aC=(vs.flatMap aC).take (k*4):=by
  have h1:vs.flatMap aC=(vs.take k).flatMap aC++(vs.drop k).flatMap aC:=by rw[←List.flatMap_append,List.take_append_drop]
  have h2:vs.length=n:=by rw[cM aC 4 (fun _=>rfl)]at hl;omega
  have h3:((vs.take k).flatMap aC).length=k*4:=by rw[cM aC 4 (fun _=>rfl),List.length_take];omega
  rw[h1,←h3,List.take_left]
 rw[e]
 refine⟨by rw[List.length_take,hl];omega,by omega,by omega,fun h0=> ?_⟩
 obtain⟨b',off',e,hb,hc⟩:=h.rd (by omega)
 injection e with e;injection e with e1 e2
 subst e1 e2
 refine⟨_,_,rfl,hb,fun j hj=> ?_⟩
 rw[hc j (by omega),List.getElem?_take,if_pos hj]
set_option maxRecDepth 100000 in
set_option maxHeartbeats 8000000 in
theorem nP (aA aB free step aE aG aD aH slides one two:Int)(p:Option Addr)(n cap:Nat)(b off m c2 k:Nat)(xs ys:List Int)(vs:List aQ)(w:World)(h0:0≤slides)(hk:k<m)(hm:m≤1000)(hcc:k+1<c2)(HS:Hid (Sl w (some ⟨b,off,none⟩) m c2 4 (vs.flatMap aC)))
  (HVd:Hid (∀w',Ext w w'→Calls Tryz.prog 27 #[.agg #[.int .i64 aA,.int .i64 aB,.slice p n cap,.int .i64 free,.int .i64 step,.int .i64 aE,.int .i64 aG,.int .i64 aD,.int .i64 aH,.slice (some ⟨b,off,none⟩) m c2]] w' fun e w''=>e= .returned (.bool true)∧Ext w' w''))
  (HL:Hid (∀w',Ext w w'→Calls Tryz.prog 28 #[.agg #[.int .i64 aA,.int .i64 aB,.slice p n cap,.int .i64 free,.int .i64 step,.int .i64 aE,.int .i64 aG,.int .i64 aD,.int .i64 aH,.slice (some ⟨b,off,none⟩) m c2]] w' fun e w''=> ∃p' cap' q' c2',e= .returned (.agg #[.int .i64 aA,.int .i64 aB,.slice p' n cap',.int .i64 free,.int .i64 step,.int .i64 aE,.int .i64 aG,.int .i64 aD,.int .i64 aH,.slice q' m c2'])∧w''.ownsRow w'.heap.size TI 1 (.slice p' n cap') n (ivs xs)∧w''.ownsRow w'.heap.size TV 4 (.slice q' m c2') m (vs.flatMap aC)∧Ext w' w''))
  (HP:Hid (∀w',Ext w w'→Calls Tryz.prog 32 #[aK aA aB p n cap,.int .i64 one] w' fun e w''=> ∃p' cap',e= .returned (.tuple #[aK aA aB p' n cap',.int .i64 slides])∧w''.ownsRow w'.heap.size TI 1 (.slice p' n cap') n (ivs ys)∧Ext w' w''))
  (HF:Hid (∀w',Ext w w'→Calls Tryz.prog 33 #[.agg #[.int .i64 aA,.int .i64 aB,.slice p n cap,.int .i64 free,.int .i64 step,.int .i64 aE,.int .i64 aG,.int .i64 aD,.int .i64 aH,.slice (some ⟨b,off,none⟩) m c2],.int .i64 one] w' fun e w''=>e= .returned (.int .i64 (k:Int))∧Ext w' w''))
  (HM:Hid (∀w',Ext w w'→Calls Tryz.prog 34 #[.agg #[.int .i64 aA,.int .i64 aB,.slice p n cap,.int .i64 free,.int .i64 step,.int .i64 aE,.int .i64 aG,.int .i64 aD,.int .i64 aH,.slice (some ⟨b,off,none⟩) m c2],.int .i64 one] w' fun e w''=>e= .returned (.bool true)∧Ext w' w'')):
  Calls Tryz.prog 7 #[.agg #[.int .i64 aA,.int .i64 aB,.slice p n cap,.int .i64 free,.int .i64 step,.int .i64 aE,.int .i64 aG,.int .i64 aD,.int .i64 aH,.slice (some ⟨b,off,none⟩) m c2],.agg #[.int .i64 2,.int .i64 one,.int .i64 two]] w fun e w'=> ∃p' cap' q' c2',e= .returned (.tuple #[.agg #[.int .i64 aA,.int .i64 aB,.slice p' n cap',.int .i64 free,.int .i64 step,.int .i64 aE,.int .i64 aG,.int .i64 aD,.int .i64 aH,.slice q' (m-1) c2'],.int .i64 slides,.bool true])∧w'.ownsRow w.heap.size TI 1 (.slice p' n cap') n (ivs ys)∧w'.ownsRow w.heap.size TV 4 (.slice q' (m-1) c2') (m-1) ((vs.take k++vs.drop (k+1)).flatMap aC)∧Ext w w':=by
 go_enter Tryz.func7,Tryz.ntmps7
 go_wp2_with fail
 refine(HVd.out _ (Mem.b3 w).ext).mono ?_
 rintro e w1 ⟨rfl,hx1⟩
 have M1:=xQ ((Mem.b3 w).adv hx1)
 have lt1_0:=M1.out.hi 0
 have lt1_1:=M1.out.hi 1
 have lt1_2:=M1.out.hi 2
 clear hx1
 clear HVd
 obtain⟨ce0,ce1,ce2,ce3,ce4,ce5,ce6,ce7,ce8,ce9⟩:=(M1.out.blk (i:=2) rfl).ten
 go_wp2_with fail
 clear ce0 ce1 ce2 ce3 ce4 ce5 ce6 ce7 ce8 ce9
 refine(HL.out _ (M1.out).ext).mono ?_
 rintro e w2 ⟨p1,cp1,q1,cq1,rfl,ho,hq,hx⟩
 have M2:=xQ ((M1.out).own2 hx ho hq (Nat.le_refl _) (by decide))
 clear M1
 clear lt1_0 lt1_1 lt1_2
 have lt2_2:=M2.out.hi 2
 have lt2_3:=M2.out.hi 3
 have lt2_4:=M2.out.hi 4
 clear hx ho hq
 obtain⟨ce0,ce1,ce2,ce3,ce4,ce5,ce6,ce7,ce8,ce9⟩:=(M2.out.blk (i:=4) rfl).ten
 obtain⟨de0,de1,de2⟩:=(M2.out.blk (i:=3) rfl).tri
 go_wp2_with fail
 clear ce0 ce1 ce2 ce3 ce4 ce5 ce6 ce7 ce8 ce9 de0 de1 de2
 refine(HP.out _ (((M2.out).blkNew aO #[.int .i64 aA,.int .i64 aB,.slice p1 n cp1,.int .i64 free,.int .i64 step,.int .i64 aE,.int .i64 aG,.int .i64 aD,.int .i64 aH,.slice q1 m cq1] (w2.heap.size) (by simp))).ext).mono ?_
 rintro e w3 ⟨p5,cp5,rfl,ho,hx⟩
 have M3:=xQ ((((M2.out).blkNew aO #[.int .i64 aA,.int .i64 aB,.slice p1 n cp1,.int .i64 free,.int .i64 step,.int .i64 aE,.int .i64 aG,.int .i64 aD,.int .i64 aH,.slice q1 m cq1] (w2.heap.size) (by simp))).call hx ho)
 clear M2
 clear lt2_2 lt2_3 lt2_4
 have lt3_1:=M3.out.hi 1
 have lt3_4:=M3.out.hi 4
 have lt3_5:=M3.out.hi 5
 have lt3_6:=M3.out.hi 6
 clear hx ho HP
 obtain⟨ce0,ce1,ce2,ce3,ce4,ce5,ce6,ce7,ce8,ce9⟩:=(M3.out.blk (i:=6) rfl).ten
 obtain⟨de0,de1,de2⟩:=(M3.out.blk (i:=5) rfl).tri
 go_wp2_with fail
 clear ce0 ce1 ce2 ce3 ce4 ce5 ce6 ce7 ce8 ce9 de0 de1 de2
 refine(HF.out _ (((M3.out).blkNew TH3 #[.int .i64 aA,.int .i64 aB,.slice p5 n cp5] (w3.heap.size) (by simp))).ext).mono ?_
 rintro e w4 ⟨rfl,hx4⟩
 have M4:=xQ ((((M3.out).blkNew TH3 #[.int .i64 aA,.int .i64 aB,.slice p5 n cp5] (w3.heap.size) (by simp))).adv hx4)
 clear M3
 clear lt3_1 lt3_4 lt3_5 lt3_6
 have lt4_0:=M4.out.hi 0
 have lt4_2:=M4.out.hi 2
 have lt4_5:=M4.out.hi 5
 have lt4_6:=M4.out.hi 6
 have lt4_7:=M4.out.hi 7
 clear hx4
 clear HF
 obtain⟨ce0,ce1,ce2,ce3,ce4,ce5,ce6,ce7,ce8,ce9⟩:=(M4.out.blk (i:=7) rfl).ten
 obtain⟨de0,de1,de2⟩:=(M4.out.blk (i:=6) rfl).tri
 go_wp2_with fail
 clear ce0 ce1 ce2 ce3 ce4 ce5 ce6 ce7 ce8 ce9 de0 de1 de2
 refine(HM.out _ (M4.out).ext).mono ?_
 rintro e w5 ⟨rfl,hx5⟩
 have M5:=xQ ((M4.out).adv hx5)
 clear M4
 clear lt4_0 lt4_2 lt4_5 lt4_6 lt4_7
 have lt5_0:=M5.out.hi 0
 have lt5_2:=M5.out.hi 2
 have lt5_5:=M5.out.hi 5
 have lt5_6:=M5.out.hi 6
 have lt5_7:=M5.out.hi 7
 clear hx5
 clear HM
 have hd:decide (slides<0)=false:=by simp;omega
 have hd2:decide (0≤slides)=true:=by simp;omega
 clear HL
 obtain⟨d0,df0,d1,df1,d2,df2,d3,df3,d4,df4,d5,df5,d6,df6,d7,df7,d8,df8,d9,df9⟩:=(M5.out.blk (i:=2) rfl).tenf
 obtain⟨xc0,xc1,xc2⟩:=(M5.out.blk (i:=0) rfl).tri
 have ne0_1a: ¬(w3.heap.size=w2.heap.size):=M5.out.ne (i:=0) (j:=2) (by omega) rfl rfl rfl rfl
 have ne0_1b: ¬(w2.heap.size=w3.heap.size):=fun h=>ne0_1a h.symm
 go_upto_region 22 with fail
 clear d0 df0 d1 df1 d2 df2 d3 df3 d4 df4 d5 df5 d6 df6 d7 df7 d8 df8 d9 df9 xc0 xc1 xc2 ne0_1a ne0_1b lt5_0 lt5_2 lt5_5 lt5_6 lt5_7
 have M6:=xQ (show Mem w (((w5.setCell ⟨w2.heap.size,0,none⟩ (.int .i64 aA)).setCell ⟨w2.heap.size,1,none⟩ (.int .i64 aB)).setCell ⟨w2.heap.size,2,none⟩ (.slice p5 n cp5)) [aF w.heap.size (w3.heap.size) TH3 #[.int .i64 aA,.int .i64 aB,.slice p5 n cp5],aJ w.heap.size TI 1 (p5) (n) (cp5) (ivs ys),aF w.heap.size (w2.heap.size) aO #[.int .i64 aA,.int .i64 aB,.slice p5 n cp5,.int .i64 free,.int .i64 step,.int .i64 aE,.int .i64 aG,.int .i64 aD,.int .i64 aH,.slice q1 m cq1],aJ w.heap.size TI 1 (p1) (n) (cp1) (ivs xs),aJ w.heap.size TV 4 (q1) (m) (cq1) (vs.flatMap aC),aF w.heap.size (w.heap.size+1+1) aO #[.int .i64 0,.int .i64 0,.slice none 0 0,.int .i64 0,.int .i64 0,.int .i64 0,.int .i64 0,.int .i64 0,.int .i64 0,.slice none 0 0],aF w.heap.size (w.heap.size+1) THD #[.int .i64 2,.int .i64 one,.int .i64 two],aF w.heap.size (w.heap.size) aO #[.int .i64 aA,.int .i64 aB,.slice p n cap,.int .i64 free,.int .i64 step,.int .i64 aE,.int .i64 aG,.int .i64 aD,.int .i64 aH,.slice (some ⟨b,off,none⟩) m c2]]from((((((M5.out).store (i:=2) rfl 0 (.int .i64 aA))).store (i:=2) rfl 1 (.int .i64 aB))).store (i:=2) rfl 2 (.slice p5 n cp5)))
 generalize hwz:World.setCell _ _ _=w6
 rw[hwz]at M6
 clear hwz M5
 have lt6_0:=M6.out.hi 0
 have lt6_2:=M6.out.hi 2
 have lt6_5:=M6.out.hi 5
 have lt6_6:=M6.out.hi 6
 have lt6_7:=M6.out.hi 7
 have ce9:w6.cell? ⟨w.heap.size,9,none⟩=some (.slice (some ⟨b,off,none⟩) m c2):=(M6.out.blk (i:=7) rfl).cell 9
 obtain⟨d0,df0,d1,df1,d2,df2,d3,df3,d4,df4,d5,df5,d6,df6,d7,df7,d8,df8,d9,df9⟩:=(M6.out.blk (i:=2) rfl).tenf
 have ne0_1a: ¬(w2.heap.size=w.heap.size):=M6.out.ne (i:=2) (j:=7) (by omega) rfl rfl rfl rfl
 have ne0_1b: ¬(w.heap.size=w2.heap.size):=fun h=>ne0_1a h.symm
 have ne0_2a: ¬(w.heap.size+1+1=w.heap.size):=M6.out.ne (i:=5) (j:=7) (by omega) rfl rfl rfl rfl
 have ne0_2b: ¬(w.heap.size=w.heap.size+1+1):=fun h=>ne0_2a h.symm
 have ne1_2a: ¬(w2.heap.size=w.heap.size+1+1):=M6.out.ne (i:=2) (j:=5) (by omega) rfl rfl rfl rfl
 have ne1_2b: ¬(w.heap.size+1+1=w2.heap.size):=fun h=>ne1_2a h.symm
 have i1:(0:Int)≤(k:Int):=by omega
 have i2:(k:Int)≤(m:Int):=by omega
 have i3:(k:Int)≤(c2:Int):=by omega
 have i4:(k:Int)+1≤(m:Int):=by omega
 have i5:(0:Int)≤(k:Int)+1:=by omega
 have i6:((k:Int)+1).toNat=k+1:=by omega
 have i7:IntKind.i64.wrap ((k:Int)+1)=(k:Int)+1:=IntWalk.i64_in _ (by omega)
 have hck: ¬c2=k+1:=by omega
 have hc0: ¬c2=0:=by omega
 go_cut [] (fun wx=> ∃(q9:Option Addr) (c9:Nat),Mem w wx [aJ w.heap.size TV 4 (q9) (m-1) (c9) ((vs.take k++vs.drop (k+1)).flatMap aC),aF w.heap.size (w3.heap.size) TH3 #[.int .i64 aA,.int .i64 aB,.slice p5 n cp5],aJ w.heap.size TI 1 (p5) (n) (cp5) (ivs ys),aF w.heap.size (w2.heap.size) aO #[.int .i64 aA,.int .i64 aB,.slice p5 n cp5,.int .i64 free,.int .i64 step,.int .i64 aE,.int .i64 aG,.int .i64 aD,.int .i64 aH,.slice q9 (m-1) c9],aJ w.heap.size TI 1 (p1) (n) (cp1) (ivs xs),aJ w.heap.size TV 4 (q1) (m) (cq1) (vs.flatMap aC),aF w.heap.size (w.heap.size+1+1) aO #[.int .i64 0,.int .i64 0,.slice none 0 0,.int .i64 0,.int .i64 0,.int .i64 0,.int .i64 0,.int .i64 0,.int .i64 0,.slice none 0 0],aF w.heap.size (w.heap.size+1) THD #[.int .i64 2,.int .i64 one,.int .i64 two],aF w.heap.size (w.heap.size) aO #[.int .i64 aA,.int .i64 aB,.slice p n cap,.int .i64 free,.int .i64 step,.int .i64 aE,.int .i64 aG,.int .i64 aD,.int .i64 aH,.slice (some ⟨b,off,none⟩) m c2]])
 case first=>
  go_region_law ((first
   |(refine eX pG (by rfl) _ _ (by rfl) (by first|exact M6.out.made0 TV 4 w6.heap.size (by simp)|exact(M6.out.made0 TV 4 w6.heap.size (by simp)).adv (by exact .drew (.refl _))|exact(M6.out.adv xE).made0 TV 4 w6.heap.size (by simp)) 0 (by rfl) (by rfl) ((vs.take k).flatMap aC) (by rfl) (vK (HS.out.ext (M6.out.ext.trans (by exact .drew (.alloc (.refl _) _)))) (by omega)) (dL _) (by omega) ?_
     intro q7 c7 w7 M7X
     have M7:=xQ (show Mem w w7 [aJ w.heap.size TV 4 (q7) (k) (c7) ((vs.take k).flatMap aC),aF w.heap.size (w3.heap.size) TH3 #[.int .i64 aA,.int .i64 aB,.slice p5 n cp5],aJ w.heap.size TI 1 (p5) (n) (cp5) (ivs ys),aF w.heap.size (w2.heap.size) aO #[.int .i64 aA,.int .i64 aB,.slice p5 n cp5,.int .i64 free,.int .i64 step,.int .i64 aE,.int .i64 aG,.int .i64 aD,.int .i64 aH,.slice q1 m cq1],aJ w.heap.size TI 1 (p1) (n) (cp1) (ivs xs),aJ w.heap.size TV 4 (q1) (m) (cq1) (vs.flatMap aC),aF w.heap.size (w.heap.size+1+1) aO #[.int .i64 0,.int .i64 0,.slice none 0 0,.int .i64 0,.int .i64 0,.int .i64 0,.int .i64 0,.int .i64 0,.int .i64 0,.slice none 0 0],aF w.heap.size (w.heap.size+1) THD #[.int .i64 2,.int .i64 one,.int .i64 two],aF w.heap.size (w.heap.size) aO #[.int .i64 aA,.int .i64 aB,.slice p n cap,.int .i64 free,.int .i64 step,.int .i64 aE,.int .i64 aG,.int .i64 aD,.int .i64 aH,.slice (some ⟨b,off,none⟩) m c2]]from by simpa only[List.set_cons_zero,Nat.zero_add,List.nil_append]using M7X)
     clear M7X
     have gc9:w7.cell? ⟨w.heap.size,9,none⟩=some (.slice (some ⟨b,off,none⟩) m c2):=(M7.out.blk (i:=8) rfl).cell 9
     have gd9:w7.cell? ⟨w2.heap.size,9,none⟩=some (.slice q1 m cq1):=(M7.out.blk (i:=3) rfl).cell 9
     have gdf9:w7.frozen? ⟨w2.heap.size,9,none⟩=false:=(M7.out.blk (i:=3) rfl).frozen 9
     have gl0:w.heap.size<w7.heap.size:=(M7.out.lt (i:=8) rfl rfl).2
     have gl1:w2.heap.size<w7.heap.size:=(M7.out.lt (i:=3) rfl rfl).2)
   |(refine eX pG (by rfl) _ _ (by rfl) (M7.out.adv (by exact .refl _)) 0 (by rfl) (by rfl) ((vs.drop (k+1)).flatMap aC) (by rfl) (iB (k+1) vs▸vL (HS.out.ext (M7.out.ext.trans (by exact .refl _))) (by omega)) (dL _) (by omega) ?_
     intro q9 c9 w9 M9X
     have M9:=xQ (show Mem w w9 [aJ w.heap.size TV 4 (q9) (k+(m-(k+1))) (c9) ((vs.take k).flatMap aC++(vs.drop (k+1)).flatMap aC),aF w.heap.size (w3.heap.size) TH3 #[.int .i64 aA,.int .i64 aB,.slice p5 n cp5],aJ w.heap.size TI 1 (p5) (n) (cp5) (ivs ys),aF w.heap.size (w2.heap.size) aO #[.int .i64 aA,.int .i64 aB,.slice p5 n cp5,.int .i64 free,.int .i64 step,.int .i64 aE,.int .i64 aG,.int .i64 aD,.int .i64 aH,.slice q1 m cq1],aJ w.heap.size TI 1 (p1) (n) (cp1) (ivs xs),aJ w.heap.size TV 4 (q1) (m) (cq1) (vs.flatMap aC),aF w.heap.size (w.heap.size+1+1) aO #[.int .i64 0,.int .i64 0,.slice none 0 0,.int .i64 0,.int .i64 0,.int .i64 0,.int .i64 0,.int .i64 0,.int .i64 0,.slice none 0 0],aF w.heap.size (w.heap.size+1) THD #[.int .i64 2,.int .i64 one,.int .i64 two],aF w.heap.size (w.heap.size) aO #[.int .i64 aA,.int .i64 aB,.slice p n cap,.int .i64 free,.int .i64 step,.int .i64 aE,.int .i64 aG,.int .i64 aD,.int .i64 aH,.slice (some ⟨b,off,none⟩) m c2]]from M9X)
     clear M9X
     have hc9:w9.cell? ⟨w.heap.size,9,none⟩=some (.slice (some ⟨b,off,none⟩) m c2):=(M9.out.blk (i:=8) rfl).cell 9
     have hd9:w9.cell? ⟨w2.heap.size,9,none⟩=some (.slice q1 m cq1):=(M9.out.blk (i:=3) rfl).cell 9
     have hdf9:w9.frozen? ⟨w2.heap.size,9,none⟩=false:=(M9.out.blk (i:=3) rfl).frozen 9
     have hl0:w.heap.size<w9.heap.size:=(M9.out.lt (i:=8) rfl rfl).2
     have hl1:w2.heap.size<w9.heap.size:=(M9.out.lt (i:=3) rfl rfl).2)))
  all_goals (
   have e1:k+(m-(k+1))=m-1:=by omega
   have e2:(vs.take k).flatMap aC++(vs.drop (k+1)).flatMap aC=(vs.take k++vs.drop (k+1)).flatMap aC:=by simp
   have i8:(k:Int)+((m-(k+1):Nat):Int)=((m-1:Nat):Int):=by omega
   have MZ:=xQ (show Mem w w9 [aJ w.heap.size TV 4 (q9) (m-1) (c9) ((vs.take k++vs.drop (k+1)).flatMap aC),aF w.heap.size (w3.heap.size) TH3 #[.int .i64 aA,.int .i64 aB,.slice p5 n cp5],aJ w.heap.size TI 1 (p5) (n) (cp5) (ivs ys),aF w.heap.size (w2.heap.size) aO #[.int .i64 aA,.int .i64 aB,.slice p5 n cp5,.int .i64 free,.int .i64 step,.int .i64 aE,.int .i64 aG,.int .i64 aD,.int .i64 aH,.slice q1 m cq1],aJ w.heap.size TI 1 (p1) (n) (cp1) (ivs xs),aJ w.heap.size TV 4 (q1) (m) (cq1) (vs.flatMap aC),aF w.heap.size (w.heap.size+1+1) aO #[.int .i64 0,.int .i64 0,.slice none 0 0,.int .i64 0,.int .i64 0,.int .i64 0,.int .i64 0,.int .i64 0,.int .i64 0,.slice none 0 0],aF w.heap.size (w.heap.size+1) THD #[.int .i64 2,.int .i64 one,.int .i64 two],aF w.heap.size (w.heap.size) aO #[.int .i64 aA,.int .i64 aB,.slice p n cap,.int .i64 free,.int .i64 step,.int .i64 aE,.int .i64 aG,.int .i64 aD,.int .i64 aH,.slice (some ⟨b,off,none⟩) m c2]]from by have:=M9.out;rw[e2]at this;simpa only[e1]using this)
   clear e2 M9 M7)
  all_goals go_wp2_with fail
  all_goals go_meet
  all_goals exact⟨q9,c9,by first|exact((MZ.out).store (i:=3) rfl 9 (.slice q9 (m-1) c9))|(simp only[e1];exact((MZ.out).store (i:=3) rfl 9 (.slice q9 (m-1) c9)))⟩
 case rest=>
  obtain⟨q9,c9,MC⟩:=hcut
  have MC:=xQ MC
  clear M6 i1 i2 i3 i4 i5 i6 i7 hck hc0 ce9 d0 df0 d1 df1 d2 df2 d3 df3 d4 df4 d5 df5 d6 df6 d7 df7 d8 df8 d9 df9 ne0_1a ne0_1b ne0_2a ne0_2b ne1_2a ne1_2b lt6_0 lt6_2 lt6_5 lt6_6 lt6_7
  have lt6_1:w3.heap.size<wc.heap.size:=(MC.out.lt (i:=1) rfl rfl).2
  have lt6_3:w2.heap.size<wc.heap.size:=(MC.out.lt (i:=3) rfl rfl).2
  have lt6_6:w.heap.size+1+1<wc.heap.size:=(MC.out.lt (i:=6) rfl rfl).2
  have lt6_7:w.heap.size+1<wc.heap.size:=(MC.out.lt (i:=7) rfl rfl).2
  have lt6_8:w.heap.size<wc.heap.size:=(MC.out.lt (i:=8) rfl rfl).2
  obtain⟨e0,e1,e2,e3,e4,e5,e6,e7,e8,e9⟩:=(MC.out.blk (i:=3) rfl).ten
  obtain⟨f0,ff0,f1,ff1,f2,ff2,f3,ff3,f4,ff4,f5,ff5,f6,ff6,f7,ff7,f8,ff8,f9,ff9⟩:=(MC.out.blk (i:=6) rfl).tenf
  have ne0_1a: ¬(w2.heap.size=w.heap.size+1+1):=MC.out.ne (i:=3) (j:=6) (by omega) rfl rfl rfl rfl
  have ne0_1b: ¬(w.heap.size+1+1=w2.heap.size):=fun h=>ne0_1a h.symm
  go_upto_region 33 with fail
  go_wp2
  clear e0 e1 e2 e3 e4 e5 e6 e7 e8 e9 f0 ff0 f1 ff1 f2 ff2 f3 ff3 f4 ff4 f5 ff5 f6 ff6 f7 ff7 f8 ff8 f9 ff9 ne0_1a ne0_1b lt6_1 lt6_3 lt6_6 lt6_7 lt6_8
  have M7:=xQ (((MC.out).put10 (i:=6) rfl (.int .i64 aA) (.int .i64 aB) (.slice p5 n cp5) (.int .i64 free) (.int .i64 step) (.int .i64 aE) (.int .i64 aG) (.int .i64 aD) (.int .i64 aH) (.slice q9 (m-1) c9)))
  generalize hwz:World.setCell _ _ _=wz
  rw[hwz]at M7
  clear hwz MC
  obtain⟨y0,y1,y2,y3,y4,y5,y6,y7,y8,y9⟩:=(M7.out.blk (i:=6) rfl).ten
  exact bodyPost_ret (v:= .tuple #[.agg #[.int .i64 aA,.int .i64 aB,.slice p5 n cp5,.int .i64 free,.int .i64 step,.int .i64 aE,.int .i64 aG,.int .i64 aD,.int .i64 aH,.slice q9 (m-1) c9],.int .i64 slides,.bool true]) (by simp[results,Tryz.results7,go_sem, *]) rfl ⟨p5,cp5,q9,c9,rfl,(M7.out.own (i:=2) rfl),(M7.out.own (i:=0) rfl),M7.out.ext⟩
set_option maxRecDepth 100000 in
set_option maxHeartbeats 8000000 in
theorem mI (aA aB free step aE aG aD aH slides one two:Int)(p:Option Addr)(n cap:Nat)(b off k:Nat)(xs ys:List Int)(vs:List aQ)(w:World)(h0:0≤slides)(hm:(k+1)≤1000)(hdn:Hid (vs.drop (k+1)= []))(HS:Hid (Sl w (some ⟨b,off,none⟩) (k+1) (k+1) 4 (vs.flatMap aC)))
  (HVd:Hid (∀w',Ext w w'→Calls Tryz.prog 27 #[.agg #[.int .i64 aA,.int .i64 aB,.slice p n cap,.int .i64 free,.int .i64 step,.int .i64 aE,.int .i64 aG,.int .i64 aD,.int .i64 aH,.slice (some ⟨b,off,none⟩) (k+1) (k+1)]] w' fun e w''=>e= .returned (.bool true)∧Ext w' w''))
  (HL:Hid (∀w',Ext w w'→Calls Tryz.prog 28 #[.agg #[.int .i64 aA,.int .i64 aB,.slice p n cap,.int .i64 free,.int .i64 step,.int .i64 aE,.int .i64 aG,.int .i64 aD,.int .i64 aH,.slice (some ⟨b,off,none⟩) (k+1) (k+1)]] w' fun e w''=> ∃p' cap' q' c2',e= .returned (.agg #[.int .i64 aA,.int .i64 aB,.slice p' n cap',.int .i64 free,.int .i64 step,.int .i64 aE,.int .i64 aG,.int .i64 aD,.int .i64 aH,.slice q' (k+1) c2'])∧w''.ownsRow w'.heap.size TI 1 (.slice p' n cap') n (ivs xs)∧w''.ownsRow w'.heap.size TV 4 (.slice q' (k+1) c2') (k+1) (vs.flatMap aC)∧Ext w' w''))
  (HP:Hid (∀w',Ext w w'→Calls Tryz.prog 32 #[aK aA aB p n cap,.int .i64 one] w' fun e w''=> ∃p' cap',e= .returned (.tuple #[aK aA aB p' n cap',.int .i64 slides])∧w''.ownsRow w'.heap.size TI 1 (.slice p' n cap') n (ivs ys)∧Ext w' w''))
  (HF:Hid (∀w',Ext w w'→Calls Tryz.prog 33 #[.agg #[.int .i64 aA,.int .i64 aB,.slice p n cap,.int .i64 free,.int .i64 step,.int .i64 aE,.int .i64 aG,.int .i64 aD,.int .i64 aH,.slice (some ⟨b,off,none⟩) (k+1) (k+1)],.int .i64 one] w' fun e w''=>e= .returned (.int .i64 (k:Int))∧Ext w' w''))
  (HM:Hid (∀w',Ext w w'→Calls Tryz.prog 34 #[.agg #[.int .i64 aA,.int .i64 aB,.slice p n cap,.int .i64 free,.int .i64 step,.int .i64 aE,.int .i64 aG,.int .i64 aD,.int .i64 aH,.slice (some ⟨b,off,none⟩) (k+1) (k+1)],.int .i64 one] w' fun e w''=>e= .returned (.bool true)∧Ext w' w'')):
  Calls Tryz.prog 7 #[.agg #[.int .i64 aA,.int .i64 aB,.slice p n cap,.int .i64 free,.int .i64 step,.int .i64 aE,.int .i64 aG,.int .i64 aD,.int .i64 aH,.slice (some ⟨b,off,none⟩) (k+1) (k+1)],.agg #[.int .i64 2,.int .i64 one,.int .i64 two]] w fun e w'=> ∃p' cap' q' c2',e= .returned (.tuple #[.agg #[.int .i64 aA,.int .i64 aB,.slice p' n cap',.int .i64 free,.int .i64 step,.int .i64 aE,.int .i64 aG,.int .i64 aD,.int .i64 aH,.slice q' (k) c2'],.int .i64 slides,.bool true])∧w'.ownsRow w.heap.size TI 1 (.slice p' n cap') n (ivs ys)∧w'.ownsRow w.heap.size TV 4 (.slice q' (k) c2') (k) ((vs.take k++vs.drop (k+1)).flatMap aC)∧Ext w w':=by
 go_enter Tryz.func7,Tryz.ntmps7
 go_wp2_with fail
 refine(HVd.out _ (Mem.b3 w).ext).mono ?_
 rintro e w1 ⟨rfl,hx1⟩
 have M1:=xQ ((Mem.b3 w).adv hx1)
 have lt1_0:=M1.out.hi 0
 have lt1_1:=M1.out.hi 1
 have lt1_2:=M1.out.hi 2
 clear hx1
 clear HVd
 obtain⟨ce0,ce1,ce2,ce3,ce4,ce5,ce6,ce7,ce8,ce9⟩:=(M1.out.blk (i:=2) rfl).ten
 go_wp2_with fail
 clear ce0 ce1 ce2 ce3 ce4 ce5 ce6 ce7 ce8 ce9
 refine(HL.out _ (M1.out).ext).mono ?_
 rintro e w2 ⟨p1,cp1,q1,cq1,rfl,ho,hq,hx⟩
 have M2:=xQ ((M1.out).own2 hx ho hq (Nat.le_refl _) (by decide))
 clear M1
 clear lt1_0 lt1_1 lt1_2
 have lt2_2:=M2.out.hi 2
 have lt2_3:=M2.out.hi 3
 have lt2_4:=M2.out.hi 4
 clear hx ho hq
 obtain⟨ce0,ce1,ce2,ce3,ce4,ce5,ce6,ce7,ce8,ce9⟩:=(M2.out.blk (i:=4) rfl).ten
 obtain⟨de0,de1,de2⟩:=(M2.out.blk (i:=3) rfl).tri
 go_wp2_with fail
 clear ce0 ce1 ce2 ce3 ce4 ce5 ce6 ce7 ce8 ce9 de0 de1 de2
 refine(HP.out _ (((M2.out).blkNew aO #[.int .i64 aA,.int .i64 aB,.slice p1 n cp1,.int .i64 free,.int .i64 step,.int .i64 aE,.int .i64 aG,.int .i64 aD,.int .i64 aH,.slice q1 (k+1) cq1] (w2.heap.size) (by simp))).ext).mono ?_
 rintro e w3 ⟨p5,cp5,rfl,ho,hx⟩
 have M3:=xQ ((((M2.out).blkNew aO #[.int .i64 aA,.int .i64 aB,.slice p1 n cp1,.int .i64 free,.int .i64 step,.int .i64 aE,.int .i64 aG,.int .i64 aD,.int .i64 aH,.slice q1 (k+1) cq1] (w2.heap.size) (by simp))).call hx ho)
 clear M2
 clear lt2_2 lt2_3 lt2_4
 have lt3_1:=M3.out.hi 1
 have lt3_4:=M3.out.hi 4
 have lt3_5:=M3.out.hi 5
 have lt3_6:=M3.out.hi 6
 clear hx ho HP
 obtain⟨ce0,ce1,ce2,ce3,ce4,ce5,ce6,ce7,ce8,ce9⟩:=(M3.out.blk (i:=6) rfl).ten
 obtain⟨de0,de1,de2⟩:=(M3.out.blk (i:=5) rfl).tri
 go_wp2_with fail
 clear ce0 ce1 ce2 ce3 ce4 ce5 ce6 ce7 ce8 ce9 de0 de1 de2
 refine(HF.out _ (((M3.out).blkNew TH3 #[.int .i64 aA,.int .i64 aB,.slice p5 n cp5] (w3.heap.size) (by simp))).ext).mono ?_
 rintro e w4 ⟨rfl,hx4⟩
 have M4:=xQ ((((M3.out).blkNew TH3 #[.int .i64 aA,.int .i64 aB,.slice p5 n cp5] (w3.heap.size) (by simp))).adv hx4)
 clear M3
 clear lt3_1 lt3_4 lt3_5 lt3_6
 have lt4_0:=M4.out.hi 0
 have lt4_2:=M4.out.hi 2
 have lt4_5:=M4.out.hi 5
 have lt4_6:=M4.out.hi 6
 have lt4_7:=M4.out.hi 7
 clear hx4
 clear HF
 obtain⟨ce0,ce1,ce2,ce3,ce4,ce5,ce6,ce7,ce8,ce9⟩:=(M4.out.blk (i:=7) rfl).ten
 obtain⟨de0,de1,de2⟩:=(M4.out.blk (i:=6) rfl).tri
 go_wp2_with fail
 clear ce0 ce1 ce2 ce3 ce4 ce5 ce6 ce7 ce8 ce9 de0 de1 de2
 refine(HM.out _ (M4.out).ext).mono ?_
 rintro e w5 ⟨rfl,hx5⟩
 have M5:=xQ ((M4.out).adv hx5)
 clear M4
 clear lt4_0 lt4_2 lt4_5 lt4_6 lt4_7
 have lt5_0:=M5.out.hi 0
 have lt5_2:=M5.out.hi 2
 have lt5_5:=M5.out.hi 5
 have lt5_6:=M5.out.hi 6
 have lt5_7:=M5.out.hi 7
 clear hx5
 clear HM
 have hd:decide (slides<0)=false:=by simp;omega
 have hd2:decide (0≤slides)=true:=by simp;omega
 clear HL
 obtain⟨d0,df0,d1,df1,d2,df2,d3,df3,d4,df4,d5,df5,d6,df6,d7,df7,d8,df8,d9,df9⟩:=(M5.out.blk (i:=2) rfl).tenf
 obtain⟨xc0,xc1,xc2⟩:=(M5.out.blk (i:=0) rfl).tri
 have ne0_1a: ¬(w3.heap.size=w2.heap.size):=M5.out.ne (i:=0) (j:=2) (by omega) rfl rfl rfl rfl
 have ne0_1b: ¬(w2.heap.size=w3.heap.size):=fun h=>ne0_1a h.symm
 go_upto_region 22 with fail
 clear d0 df0 d1 df1 d2 df2 d3 df3 d4 df4 d5 df5 d6 df6 d7 df7 d8 df8 d9 df9 xc0 xc1 xc2 ne0_1a ne0_1b lt5_0 lt5_2 lt5_5 lt5_6 lt5_7
 have M6:=xQ (show Mem w (((w5.setCell ⟨w2.heap.size,0,none⟩ (.int .i64 aA)).setCell ⟨w2.heap.size,1,none⟩ (.int .i64 aB)).setCell ⟨w2.heap.size,2,none⟩ (.slice p5 n cp5)) [aF w.heap.size (w3.heap.size) TH3 #[.int .i64 aA,.int .i64 aB,.slice p5 n cp5],aJ w.heap.size TI 1 (p5) (n) (cp5) (ivs ys),aF w.heap.size (w2.heap.size) aO #[.int .i64 aA,.int .i64 aB,.slice p5 n cp5,.int .i64 free,.int .i64 step,.int .i64 aE,.int .i64 aG,.int .i64 aD,.int .i64 aH,.slice q1 (k+1) cq1],aJ w.heap.size TI 1 (p1) (n) (cp1) (ivs xs),aJ w.heap.size TV 4 (q1) ((k+1)) (cq1) (vs.flatMap aC),aF w.heap.size (w.heap.size+1+1) aO #[.int .i64 0,.int .i64 0,.slice none 0 0,.int .i64 0,.int .i64 0,.int .i64 0,.int .i64 0,.int .i64 0,.int .i64 0,.slice none 0 0],aF w.heap.size (w.heap.size+1) THD #[.int .i64 2,.int .i64 one,.int .i64 two],aF w.heap.size (w.heap.size) aO #[.int .i64 aA,.int .i64 aB,.slice p n cap,.int .i64 free,.int .i64 step,.int .i64 aE,.int .i64 aG,.int .i64 aD,.int .i64 aH,.slice (some ⟨b,off,none⟩) (k+1) (k+1)]]from((((((M5.out).store (i:=2) rfl 0 (.int .i64 aA))).store (i:=2) rfl 1 (.int .i64 aB))).store (i:=2) rfl 2 (.slice p5 n cp5)))
 generalize hwz:World.setCell _ _ _=w6
 rw[hwz]at M6
 clear hwz M5
 have lt6_0:=M6.out.hi 0
 have lt6_2:=M6.out.hi 2
 have lt6_5:=M6.out.hi 5
 have lt6_6:=M6.out.hi 6
 have lt6_7:=M6.out.hi 7
 have ce9:w6.cell? ⟨w.heap.size,9,none⟩=some (.slice (some ⟨b,off,none⟩) (k+1) (k+1)):=(M6.out.blk (i:=7) rfl).cell 9
 obtain⟨d0,df0,d1,df1,d2,df2,d3,df3,d4,df4,d5,df5,d6,df6,d7,df7,d8,df8,d9,df9⟩:=(M6.out.blk (i:=2) rfl).tenf
 have ne0_1a: ¬(w2.heap.size=w.heap.size):=M6.out.ne (i:=2) (j:=7) (by omega) rfl rfl rfl rfl
 have ne0_1b: ¬(w.heap.size=w2.heap.size):=fun h=>ne0_1a h.symm
 have ne0_2a: ¬(w.heap.size+1+1=w.heap.size):=M6.out.ne (i:=5) (j:=7) (by omega) rfl rfl rfl rfl
 have ne0_2b: ¬(w.heap.size=w.heap.size+1+1):=fun h=>ne0_2a h.symm
 have ne1_2a: ¬(w2.heap.size=w.heap.size+1+1):=M6.out.ne (i:=2) (j:=5) (by omega) rfl rfl rfl rfl
 have ne1_2b: ¬(w.heap.size+1+1=w2.heap.size):=fun h=>ne1_2a h.symm
 have i1:(0:Int)≤(k:Int):=by omega
 have i2:(k:Int)≤((k+1):Int):=by omega
 have i3:(k:Int)≤((k+1):Int):=by omega
 have i4:(k:Int)+1≤((k+1):Int):=by omega
 have i5:(0:Int)≤(k:Int)+1:=by omega
 have i6:((k:Int)+1).toNat=k+1:=by omega
 have i7:IntKind.i64.wrap ((k:Int)+1)=(k:Int)+1:=IntWalk.i64_in _ (by omega)
 have hc0: ¬(k+1)=0:=by omega
 go_cut [] (fun wx=> ∃(q9:Option Addr) (c9:Nat),Mem w wx [aJ w.heap.size TV 4 (q9) (k) (c9) ((vs.take k++vs.drop (k+1)).flatMap aC),aF w.heap.size (w3.heap.size) TH3 #[.int .i64 aA,.int .i64 aB,.slice p5 n cp5],aJ w.heap.size TI 1 (p5) (n) (cp5) (ivs ys),aF w.heap.size (w2.heap.size) aO #[.int .i64 aA,.int .i64 aB,.slice p5 n cp5,.int .i64 free,.int .i64 step,.int .i64 aE,.int .i64 aG,.int .i64 aD,.int .i64 aH,.slice q9 (k) c9],aJ w.heap.size TI 1 (p1) (n) (cp1) (ivs xs),aJ w.heap.size TV 4 (q1) ((k+1)) (cq1) (vs.flatMap aC),aF w.heap.size (w.heap.size+1+1) aO #[.int .i64 0,.int .i64 0,.slice none 0 0,.int .i64 0,.int .i64 0,.int .i64 0,.int .i64 0,.int .i64 0,.int .i64 0,.slice none 0 0],aF w.heap.size (w.heap.size+1) THD #[.int .i64 2,.int .i64 one,.int .i64 two],aF w.heap.size (w.heap.size) aO #[.int .i64 aA,.int .i64 aB,.slice p n cap,.int .i64 free,.int .i64 step,.int .i64 aE,.int .i64 aG,.int .i64 aD,.int .i64 aH,.slice (some ⟨b,off,none⟩) (k+1) (k+1)]])
 case first=>
  go_region_law ((first
   |(refine eX pG (by rfl) _ _ (by rfl) (by first|exact M6.out.made0 TV 4 w6.heap.size (by simp)|exact(M6.out.made0 TV 4 w6.heap.size (by simp)).adv (by exact .drew (.refl _))|exact(M6.out.adv xE).made0 TV 4 w6.heap.size (by simp)) 0 (by rfl) (by rfl) ((vs.take k).flatMap aC) (by rfl) (vK (HS.out.ext (M6.out.ext.trans (by exact .drew (.alloc (.refl _) _)))) (by omega)) (dL _) (by omega) ?_
     intro q7 c7 w7 M7X
     have M7:=xQ (show Mem w w7 [aJ w.heap.size TV 4 (q7) (k) (c7) ((vs.take k).flatMap aC),aF w.heap.size (w3.heap.size) TH3 #[.int .i64 aA,.int .i64 aB,.slice p5 n cp5],aJ w.heap.size TI 1 (p5) (n) (cp5) (ivs ys),aF w.heap.size (w2.heap.size) aO #[.int .i64 aA,.int .i64 aB,.slice p5 n cp5,.int .i64 free,.int .i64 step,.int .i64 aE,.int .i64 aG,.int .i64 aD,.int .i64 aH,.slice q1 (k+1) cq1],aJ w.heap.size TI 1 (p1) (n) (cp1) (ivs xs),aJ w.heap.size TV 4 (q1) ((k+1)) (cq1) (vs.flatMap aC),aF w.heap.size (w.heap.size+1+1) aO #[.int .i64 0,.int .i64 0,.slice none 0 0,.int .i64 0,.int .i64 0,.int .i64 0,.int .i64 0,.int .i64 0,.int .i64 0,.slice none 0 0],aF w.heap.size (w.heap.size+1) THD #[.int .i64 2,.int .i64 one,.int .i64 two],aF w.heap.size (w.heap.size) aO #[.int .i64 aA,.int .i64 aB,.slice p n cap,.int .i64 free,.int .i64 step,.int .i64 aE,.int .i64 aG,.int .i64 aD,.int .i64 aH,.slice (some ⟨b,off,none⟩) (k+1) (k+1)]]from by simpa only[List.set_cons_zero,Nat.zero_add,List.nil_append]using M7X)
     clear M7X
     have gc9:w7.cell? ⟨w.heap.size,9,none⟩=some (.slice (some ⟨b,off,none⟩) (k+1) (k+1)):=(M7.out.blk (i:=8) rfl).cell 9
     have gd9:w7.cell? ⟨w2.heap.size,9,none⟩=some (.slice q1 (k+1) cq1):=(M7.out.blk (i:=3) rfl).cell 9
     have gdf9:w7.frozen? ⟨w2.heap.size,9,none⟩=false:=(M7.out.blk (i:=3) rfl).frozen 9
     have gl0:w.heap.size<w7.heap.size:=(M7.out.lt (i:=8) rfl rfl).2
     have gl1:w2.heap.size<w7.heap.size:=(M7.out.lt (i:=3) rfl rfl).2)
   |(refine eX pG (by rfl) _ _ (by rfl) (M7.out.adv (by exact .refl _)) 0 (by rfl) (by rfl) (([]:List aQ).flatMap aC) (by rfl) (⟨by simp,Nat.zero_le _,by have:=HS.out.mx;omega,fun h=>absurd h (by omega)⟩) (dL _) (by omega) ?_
     intro q9 c9 w9 M9X
     have M9:=xQ (show Mem w w9 [aJ w.heap.size TV 4 (q9) (k+(0)) (c9) ((vs.take k).flatMap aC++([]:List aQ).flatMap aC),aF w.heap.size (w3.heap.size) TH3 #[.int .i64 aA,.int .i64 aB,.slice p5 n cp5],aJ w.heap.size TI 1 (p5) (n) (cp5) (ivs ys),aF w.heap.size (w2.heap.size) aO #[.int .i64 aA,.int .i64 aB,.slice p5 n cp5,.int .i64 free,.int .i64 step,.int .i64 aE,.int .i64 aG,.int .i64 aD,.int .i64 aH,.slice q1 (k+1) cq1],aJ w.heap.size TI 1 (p1) (n) (cp1) (ivs xs),aJ w.heap.size TV 4 (q1) ((k+1)) (cq1) (vs.flatMap aC),aF w.heap.size (w.heap.size+1+1) aO #[.int .i64 0,.int .i64 0,.slice none 0 0,.int .i64 0,.int .i64 0,.int .i64 0,.int .i64 0,.int .i64 0,.int .i64 0,.slice none 0 0],aF w.heap.size (w.heap.size+1) THD #[.int .i64 2,.int .i64 one,.int .i64 two],aF w.heap.size (w.heap.size) aO #[.int .i64 aA,.int .i64 aB,.slice p n cap,.int .i64 free,.int .i64 step,.int .i64 aE,.int .i64 aG,.int .i64 aD,.int .i64 aH,.slice (some ⟨b,off,none⟩) (k+1) (k+1)]]from M9X)
     clear M9X
     have hc9:w9.cell? ⟨w.heap.size,9,none⟩=some (.slice (some ⟨b,off,none⟩) (k+1) (k+1)):=(M9.out.blk (i:=8) rfl).cell 9
     have hd9:w9.cell? ⟨w2.heap.size,9,none⟩=some (.slice q1 (k+1) cq1):=(M9.out.blk (i:=3) rfl).cell 9
     have hdf9:w9.frozen? ⟨w2.heap.size,9,none⟩=false:=(M9.out.blk (i:=3) rfl).frozen 9
     have hl0:w.heap.size<w9.heap.size:=(M9.out.lt (i:=8) rfl rfl).2
     have hl1:w2.heap.size<w9.heap.size:=(M9.out.lt (i:=3) rfl rfl).2)))
  all_goals (
   have e1:k+(0)=k:=by omega
   have e2:(vs.take k).flatMap aC++([]:List aQ).flatMap aC=(vs.take k++vs.drop (k+1)).flatMap aC:=by rw[hdn.out];simp
   skip
   have MZ:=xQ (show Mem w w9 [aJ w.heap.size TV 4 (q9) (k) (c9) ((vs.take k++vs.drop (k+1)).flatMap aC),aF w.heap.size (w3.heap.size) TH3 #[.int .i64 aA,.int .i64 aB,.slice p5 n cp5],aJ w.heap.size TI 1 (p5) (n) (cp5) (ivs ys),aF w.heap.size (w2.heap.size) aO #[.int .i64 aA,.int .i64 aB,.slice p5 n cp5,.int .i64 free,.int .i64 step,.int .i64 aE,.int .i64 aG,.int .i64 aD,.int .i64 aH,.slice q1 (k+1) cq1],aJ w.heap.size TI 1 (p1) (n) (cp1) (ivs xs),aJ w.heap.size TV 4 (q1) ((k+1)) (cq1) (vs.flatMap aC),aF w.heap.size (w.heap.size+1+1) aO #[.int .i64 0,.int .i64 0,.slice none 0 0,.int .i64 0,.int .i64 0,.int .i64 0,.int .i64 0,.int .i64 0,.int .i64 0,.slice none 0 0],aF w.heap.size (w.heap.size+1) THD #[.int .i64 2,.int .i64 one,.int .i64 two],aF w.heap.size (w.heap.size) aO #[.int .i64 aA,.int .i64 aB,.slice p n cap,.int .i64 free,.int .i64 step,.int .i64 aE,.int .i64 aG,.int .i64 aD,.int .i64 aH,.slice (some ⟨b,off,none⟩) (k+1) (k+1)]]from by have:=M9.out;rw[e2]at this;simpa only[e1]using this)
   clear e2 M9 M7)
  all_goals go_wp2_with fail
  all_goals go_meet
  all_goals exact⟨q9,c9,by first|exact((MZ.out).store (i:=3) rfl 9 (.slice q9 (k) c9))|(simp only[e1];exact((MZ.out).store (i:=3) rfl 9 (.slice q9 (k) c9)))⟩
 case rest=>
  obtain⟨q9,c9,MC⟩:=hcut
  have MC:=xQ MC
  clear M6 i1 i2 i3 i4 i5 i6 i7 hc0 ce9 d0 df0 d1 df1 d2 df2 d3 df3 d4 df4 d5 df5 d6 df6 d7 df7 d8 df8 d9 df9 ne0_1a ne0_1b ne0_2a ne0_2b ne1_2a ne1_2b lt6_0 lt6_2 lt6_5 lt6_6 lt6_7
  have lt6_1:w3.heap.size<wc.heap.size:=(MC.out.lt (i:=1) rfl rfl).2
  have lt6_3:w2.heap.size<wc.heap.size:=(MC.out.lt (i:=3) rfl rfl).2
  have lt6_6:w.heap.size+1+1<wc.heap.size:=(MC.out.lt (i:=6) rfl rfl).2
  have lt6_7:w.heap.size+1<wc.heap.size:=(MC.out.lt (i:=7) rfl rfl).2
  have lt6_8:w.heap.size<wc.heap.size:=(MC.out.lt (i:=8) rfl rfl).2
  obtain⟨e0,e1,e2,e3,e4,e5,e6,e7,e8,e9⟩:=(MC.out.blk (i:=3) rfl).ten
  obtain⟨f0,ff0,f1,ff1,f2,ff2,f3,ff3,f4,ff4,f5,ff5,f6,ff6,f7,ff7,f8,ff8,f9,ff9⟩:=(MC.out.blk (i:=6) rfl).tenf
  have ne0_1a: ¬(w2.heap.size=w.heap.size+1+1):=MC.out.ne (i:=3) (j:=6) (by omega) rfl rfl rfl rfl
  have ne0_1b: ¬(w.heap.size+1+1=w2.heap.size):=fun h=>ne0_1a h.symm
  go_upto_region 33 with fail
  go_wp2
  clear e0 e1 e2 e3 e4 e5 e6 e7 e8 e9 f0 ff0 f1 ff1 f2 ff2 f3 ff3 f4 ff4 f5 ff5 f6 ff6 f7 ff7 f8 ff8 f9 ff9 ne0_1a ne0_1b lt6_1 lt6_3 lt6_6 lt6_7 lt6_8
  have M7:=xQ (((MC.out).put10 (i:=6) rfl (.int .i64 aA) (.int .i64 aB) (.slice p5 n cp5) (.int .i64 free) (.int .i64 step) (.int .i64 aE) (.int .i64 aG) (.int .i64 aD) (.int .i64 aH) (.slice q9 (k) c9)))
  generalize hwz:World.setCell _ _ _=wz
  rw[hwz]at M7
  clear hwz MC
  obtain⟨y0,y1,y2,y3,y4,y5,y6,y7,y8,y9⟩:=(M7.out.blk (i:=6) rfl).ten
  exact bodyPost_ret (v:= .tuple #[.agg #[.int .i64 aA,.int .i64 aB,.slice p5 n cp5,.int .i64 free,.int .i64 step,.int .i64 aE,.int .i64 aG,.int .i64 aD,.int .i64 aH,.slice q9 (k) c9],.int .i64 slides,.bool true]) (by simp[results,Tryz.results7,go_sem, *]) rfl ⟨p5,cp5,q9,c9,rfl,(M7.out.own (i:=2) rfl),(M7.out.own (i:=0) rfl),M7.out.ext⟩
end Go.Proofs.YtahglfakiobbcaaGreatDoor
