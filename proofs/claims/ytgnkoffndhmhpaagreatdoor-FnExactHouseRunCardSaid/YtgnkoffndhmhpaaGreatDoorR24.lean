/-
  Texts of this proof, packed (@packed).
-/
import Derived.Test.YtgnkoffndhmhpaaGreatDoorR1
import Derived.Test.YtgnkoffndhmhpaaGreatDoorR10
import Derived.Test.YtgnkoffndhmhpaaGreatDoorR19
import Derived.Test.YtgnkoffndhmhpaaGreatDoorR21
import Derived.Test.YtgnkoffndhmhpaaGreatDoorR22
import Derived.Test.YtgnkoffndhmhpaaGreatDoorR23
namespace Go.Proofs.YtgnkoffndhmhpaaGreatDoor
open Go.RowKit
set_option linter.unusedVariables false
set_option linter.unusedSimpArgs false
set_option maxHeartbeats 8000000
set_option maxRecDepth 100000
theorem xU {w:World}{b off n cap k:Nat}{vs:List aQ}(h:Sl w (some ⟨b,off,none⟩) n cap 4 (vs.flatMap aD))(hk:k≤n):Sl w (some ⟨b,off,none⟩) k cap 4 ((vs.take k).flatMap aD):=by
 have hl:=h.len
 have hle:=h.le
 have hmx:=h.mx
 have e:(vs.take k).flatMap aD=(vs.flatMap aD).take (k*4):=by
  have h1:vs.flatMap aD=(vs.take k).flatMap aD++(vs.drop k).flatMap aD:=by rw[←List.flatMap_append,List.take_append_drop]
  have h2:vs.length=n:=by rw[cH aD 4 (fun _=>rfl)]at hl;omega
  have h3:((vs.take k).flatMap aD).length=k*4:=by rw[cH aD 4 (fun _=>rfl),List.length_take];omega
  rw[h1,←h3,List.take_left]
 rw[e]
 refine⟨by rw[List.length_take,hl];omega,by omega,by omega,fun h0=> ?_⟩
 obtain⟨b',off',e,hb,hc⟩:=h.rd (by omega)
 injection e with e;injection e with e1 e2
 subst e1 e2
 refine⟨_,_,rfl,hb,fun j hj=> ?_⟩
 rw[hc j (by omega),List.getElem?_take,if_pos hj]
theorem pE (aA aB free step aE aF aC aG slides one two:Int)(p:OA)(n cap:Nat)(b off m c2 k:Nat)(xs ys:List Int)(vs:List aQ)(w:World)(h0:0≤slides)(hk:k<m)(hm:m≤1000)(hcc:k+1<c2)(HS:Hid (Sl w (some ⟨b,off,none⟩) m c2 4 (vs.flatMap aD)))
  (HVd:xB 40 #[.agg #[aA,aB,.slice p n cap,free,step,aE,aF,aC,aG,.slice (some ⟨b,off,none⟩) m c2]] w true)
  (HL:xC 60 #[.agg #[aA,aB,.slice p n cap,free,step,aE,aF,aC,aG,.slice (some ⟨b,off,none⟩) m c2]] w fun w' e w''=> ∃p' cap' q' c2',e= .returned (.agg #[aA,aB,.slice p' n cap',free,step,aE,aF,aC,aG,.slice q' m c2'])∧w''.ownsRow w'.heap.size TI 1 (.slice p' n cap') n (ivs xs)∧w''.ownsRow w'.heap.size TV 4 (.slice q' m c2') m (vs.flatMap aD)∧Ext w' w'')
  (HP:xC 74 #[aI aA aB p n cap,one] w fun w' e w''=> ∃p' cap',e= .returned (.tuple #[aI aA aB p' n cap',slides])∧w''.ownsRow w'.heap.size TI 1 (.slice p' n cap') n (ivs ys)∧Ext w' w'')
  (HF:xC 75 #[.agg #[aA,aB,.slice p n cap,free,step,aE,aF,aC,aG,.slice (some ⟨b,off,none⟩) m c2],one] w fun w' e w''=>e= .returned (.int .i64 (k:Int))∧Ext w' w'')
  (HM:xB 76 #[.agg #[aA,aB,.slice p n cap,free,step,aE,aF,aC,aG,.slice (some ⟨b,off,none⟩) m c2],one] w true):
  Calls Tryz.prog 28 #[.agg #[aA,aB,.slice p n cap,free,step,aE,aF,aC,aG,.slice (some ⟨b,off,none⟩) m c2],.agg #[.int .i64 2,one,two]] w fun e w'=> ∃p' cap' q' c2',e= .returned (.tuple #[.agg #[aA,aB,.slice p' n cap',free,step,aE,aF,aC,aG,.slice q' (m-1) c2'],slides,.bool true])∧w'.ownsRow w.heap.size TI 1 (.slice p' n cap') n (ivs ys)∧w'.ownsRow w.heap.size TV 4 (.slice q' (m-1) c2') (m-1) ((vs.take k++vs.drop (k+1)).flatMap aD)∧Ext w w':=by
 go_enter Tryz.func28,Tryz.ntmps28
 go_wp2_with fail
 refine(HVd.out _ (Mem.b3 w).ext).mono ?_
 rintro e w1 ⟨rfl,hx1⟩
 have M1:=xQ ((Mem.b3 w).adv hx1)
 have lt1_0:=M1.out.hi 0
 have lt1_1:=M1.out.hi 1
 have lt1_2:=M1.out.hi 2
 clear hx1 HVd
 obtain⟨ce0,ce1,ce2,ce3,ce4,ce5,ce6,ce7,ce8,ce9⟩:=(M1.out.blk (i:=2) rfl).ten
 go_wp2_with fail
 clear ce0 ce1 ce2 ce3 ce4 ce5 ce6 ce7 ce8 ce9
 refine(HL.out _ (M1.out).ext).mono ?_
 rintro e w2 ⟨p1,cp1,q1,cq1,rfl,ho,hq,hx⟩
 have M2:=xQ ((M1.out).own2 hx ho hq (Nat.le_refl _) (by decide))
 clear M1 lt1_0 lt1_1 lt1_2
 have lt2_2:=M2.out.hi 2
 have lt2_3:=M2.out.hi 3
 have lt2_4:=M2.out.hi 4
 clear hx ho hq
 obtain⟨ce0,ce1,ce2,ce3,ce4,ce5,ce6,ce7,ce8,ce9⟩:=(M2.out.blk (i:=4) rfl).ten
 obtain⟨de0,de1,de2⟩:=(M2.out.blk (i:=3) rfl).tri
 go_wp2_with fail
 clear ce0 ce1 ce2 ce3 ce4 ce5 ce6 ce7 ce8 ce9 de0 de1 de2
 refine(HP.out _ (((M2.out).blkNew aO #[aA,aB,.slice p1 n cp1,free,step,aE,aF,aC,aG,.slice q1 m cq1] (w2.heap.size) (by simp))).ext).mono ?_
 rintro e w3 ⟨p5,cp5,rfl,ho,hx⟩
 have M3:=xQ ((((M2.out).blkNew aO #[aA,aB,.slice p1 n cp1,free,step,aE,aF,aC,aG,.slice q1 m cq1] (w2.heap.size) (by simp))).call hx ho)
 clear M2 lt2_2 lt2_3 lt2_4
 have lt3_1:=M3.out.hi 1
 have lt3_4:=M3.out.hi 4
 have lt3_5:=M3.out.hi 5
 have lt3_6:=M3.out.hi 6
 clear hx ho HP
 obtain⟨ce0,ce1,ce2,ce3,ce4,ce5,ce6,ce7,ce8,ce9⟩:=(M3.out.blk (i:=6) rfl).ten
 obtain⟨de0,de1,de2⟩:=(M3.out.blk (i:=5) rfl).tri
 go_wp2_with fail
 clear ce0 ce1 ce2 ce3 ce4 ce5 ce6 ce7 ce8 ce9 de0 de1 de2
 refine(HF.out _ (((M3.out).blkNew TH3 #[aA,aB,.slice p5 n cp5] (w3.heap.size) (by simp))).ext).mono ?_
 rintro e w4 ⟨rfl,hx4⟩
 have M4:=xQ ((((M3.out).blkNew TH3 #[aA,aB,.slice p5 n cp5] (w3.heap.size) (by simp))).adv hx4)
 clear M3 lt3_1 lt3_4 lt3_5 lt3_6
 have lt4_0:=M4.out.hi 0
 have lt4_2:=M4.out.hi 2
 have lt4_5:=M4.out.hi 5
 have lt4_6:=M4.out.hi 6
 have lt4_7:=M4.out.hi 7
 clear hx4 HF
 obtain⟨ce0,ce1,ce2,ce3,ce4,ce5,ce6,ce7,ce8,ce9⟩:=(M4.out.blk (i:=7) rfl).ten
 obtain⟨de0,de1,de2⟩:=(M4.out.blk (i:=6) rfl).tri
 go_wp2_with fail
 clear ce0 ce1 ce2 ce3 ce4 ce5 ce6 ce7 ce8 ce9 de0 de1 de2
 refine(HM.out _ (M4.out).ext).mono ?_
 rintro e w5 ⟨rfl,hx5⟩
 have M5:=xQ ((M4.out).adv hx5)
 clear M4 lt4_0 lt4_2 lt4_5 lt4_6 lt4_7
 have lt5_0:=M5.out.hi 0
 have lt5_2:=M5.out.hi 2
 have lt5_5:=M5.out.hi 5
 have lt5_6:=M5.out.hi 6
 have lt5_7:=M5.out.hi 7
 clear hx5 HM
 have hd:decide (slides<0)=false:=by simp;omega
 have hd2:decide (0≤slides)=true:=by simp;omega
 clear HL
 obtain⟨d0,df0,d1,df1,d2,df2,d3,df3,d4,df4,d5,df5,d6,df6,d7,df7,d8,df8,d9,df9⟩:=(M5.out.blk (i:=2) rfl).tenf
 obtain⟨xc0,xc1,xc2⟩:=(M5.out.blk (i:=0) rfl).tri
 have ne0_1a: ¬(w3.heap.size=w2.heap.size):=M5.out.ne (i:=0) (j:=2) (by omega) rfl rfl rfl rfl
 have ne0_1b: ¬(w2.heap.size=w3.heap.size):=fun h=>ne0_1a h.symm
 go_upto_region 22 with fail
 clear d0 df0 d1 df1 d2 df2 d3 df3 d4 df4 d5 df5 d6 df6 d7 df7 d8 df8 d9 df9 xc0 xc1 xc2 ne0_1a ne0_1b lt5_0 lt5_2 lt5_5 lt5_6 lt5_7
 have M6:=xQ (((((((M5.out).st 2 0 (.int .i64 aA))).st 2 1 (.int .i64 aB))).st 2 2 (.slice p5 n cp5)))
 generalize hwz:World.setCell _ _ _=w6
 rw[hwz]at M6
 clear hwz M5
 have lt6_0:=M6.out.hi 0
 have lt6_2:=M6.out.hi 2
 have lt6_5:=M6.out.hi 5
 have lt6_6:=M6.out.hi 6
 have lt6_7:=M6.out.hi 7
 have ce9:w6.cell? ⟨w.heap.size,9,none⟩=some (.slice (some ⟨b,off,none⟩) m c2):=(M6.out.blk (i:=7) rfl).cell 9
 obtain⟨d0,df0,d1,df1,d2,df2,d3,df3,d4,df4,d5,df5,d6,df6,d7,df7,d8,df8,d9,df9⟩:=(M6.out.blk (i:=2) rfl).tenf
 have ne0_1a: ¬(w2.heap.size=w.heap.size):=M6.out.ne (i:=2) (j:=7) (by omega) rfl rfl rfl rfl
 have ne0_1b: ¬(w.heap.size=w2.heap.size):=fun h=>ne0_1a h.symm
 have ne0_2a: ¬(w.heap.size+1+1=w.heap.size):=M6.out.ne (i:=5) (j:=7) (by omega) rfl rfl rfl rfl
 have ne0_2b: ¬(w.heap.size=w.heap.size+1+1):=fun h=>ne0_2a h.symm
 have ne1_2a: ¬(w2.heap.size=w.heap.size+1+1):=M6.out.ne (i:=2) (j:=5) (by omega) rfl rfl rfl rfl
 have ne1_2b: ¬(w.heap.size+1+1=w2.heap.size):=fun h=>ne1_2a h.symm
 have i1:(0:Int)≤(k:Int):=by omega
 have i2:(k:Int)≤(m:Int):=by omega
 have i3:(k:Int)≤(c2:Int):=by omega
 have i4:(k:Int)+1≤(m:Int):=by omega
 have i5:(0:Int)≤(k:Int)+1:=by omega
 have i6:((k:Int)+1).toNat=k+1:=by omega
 have i7:IntKind.i64.wrap ((k:Int)+1)=(k:Int)+1:=IntWalk.i64_in _ (by omega)
 have hck: ¬c2=k+1:=by omega
 have hc0: ¬c2=0:=by omega
 go_cut [] (fun wx=> ∃(q9:OA) (c9:Nat),Mem w wx [aJ w.heap.size TV 4 (q9) (m-1) (c9) ((vs.take k++vs.drop (k+1)).flatMap aD),aL w.heap.size (w3.heap.size) TH3 #[aA,aB,.slice p5 n cp5],aJ w.heap.size TI 1 (p5) (n) (cp5) (ivs ys),aL w.heap.size (w2.heap.size) aO #[aA,aB,.slice p5 n cp5,free,step,aE,aF,aC,aG,.slice q9 (m-1) c9],aJ w.heap.size TI 1 (p1) (n) (cp1) (ivs xs),aJ w.heap.size TV 4 (q1) (m) (cq1) (vs.flatMap aD),aL w.heap.size (w.heap.size+1+1) aO #[(),(),((),()),(),(),(),(),(),(),((),())],aL w.heap.size (w.heap.size+1) THD #[.int .i64 2,one,two],aL w.heap.size (w.heap.size) aO #[aA,aB,.slice p n cap,free,step,aE,aF,aC,aG,.slice (some ⟨b,off,none⟩) m c2]])
 case first=>
  go_region_law ((first
   |(refine eX qT (by rfl) _ _ (by rfl) (by first|exact M6.out.made0 TV 4 w6.heap.size (by simp)|exact(M6.out.made0 TV 4 w6.heap.size (by simp)).adv (by exact .drew (.refl _))|exact(M6.out.adv xE).made0 TV 4 w6.heap.size (by simp)) 0 (by rfl) (by rfl) ((vs.take k).flatMap aD) (by rfl) (xU (HS.out.ext (M6.out.ext.trans (by exact .drew (.alloc (.refl _) _)))) (by omega)) (dZ _) (by omega) ?_
     intro q7 c7 w7 M7X
     have M7:=xQ (show Mem w w7 [aJ w.heap.size TV 4 (q7) (k) (c7) ((vs.take k).flatMap aD),aL w.heap.size (w3.heap.size) TH3 #[aA,aB,.slice p5 n cp5],aJ w.heap.size TI 1 (p5) (n) (cp5) (ivs ys),aL w.heap.size (w2.heap.size) aO #[aA,aB,.slice p5 n cp5,free,step,aE,aF,aC,aG,.slice q1 m cq1],aJ w.heap.size TI 1 (p1) (n) (cp1) (ivs xs),aJ w.heap.size TV 4 (q1) (m) (cq1) (vs.flatMap aD),aL w.heap.size (w.heap.size+1+1) aO #[(),(),((),()),(),(),(),(),(),(),((),())],aL w.heap.size (w.heap.size+1) THD #[.int .i64 2,one,two],aL w.heap.size (w.heap.size) aO #[aA,aB,.slice p n cap,free,step,aE,aF,aC,aG,.slice (some ⟨b,off,none⟩) m c2]]from by simpa only[List.set_cons_zero,Nat.zero_add,List.nil_append]using M7X)
     clear M7X
     have gc9:w7.cell? ⟨w.heap.size,9,none⟩=some (.slice (some ⟨b,off,none⟩) m c2):=(M7.out.blk (i:=8) rfl).cell 9
     have gd9:w7.cell? ⟨w2.heap.size,9,none⟩=some (.slice q1 m cq1):=(M7.out.blk (i:=3) rfl).cell 9
     have gdf9:w7.frozen? ⟨w2.heap.size,9,none⟩=false:=(M7.out.blk (i:=3) rfl).frozen 9
     have gl0:w.heap.size<w7.heap.size:=(M7.out.lt (i:=8) rfl rfl).2
     have gl1:w2.heap.size<w7.heap.size:=(M7.out.lt (i:=3) rfl rfl).2)
   |(refine eX qT (by rfl) _ _ (by rfl) (M7.out.adv (by exact .refl _)) 0 (by rfl) (by rfl) ((vs.drop (k+1)).flatMap aD) (by rfl) (iS (k+1) vs▸xV (HS.out.ext (M7.out.ext.trans (by exact .refl _))) (by omega)) (dZ _) (by omega) ?_
     intro q9 c9 w9 M9X
     have M9:=xQ (show Mem w w9 [aJ w.heap.size TV 4 (q9) (k+(m-(k+1))) (c9) ((vs.take k).flatMap aD++(vs.drop (k+1)).flatMap aD),aL w.heap.size (w3.heap.size) TH3 #[aA,aB,.slice p5 n cp5],aJ w.heap.size TI 1 (p5) (n) (cp5) (ivs ys),aL w.heap.size (w2.heap.size) aO #[aA,aB,.slice p5 n cp5,free,step,aE,aF,aC,aG,.slice q1 m cq1],aJ w.heap.size TI 1 (p1) (n) (cp1) (ivs xs),aJ w.heap.size TV 4 (q1) (m) (cq1) (vs.flatMap aD),aL w.heap.size (w.heap.size+1+1) aO #[(),(),((),()),(),(),(),(),(),(),((),())],aL w.heap.size (w.heap.size+1) THD #[.int .i64 2,one,two],aL w.heap.size (w.heap.size) aO #[aA,aB,.slice p n cap,free,step,aE,aF,aC,aG,.slice (some ⟨b,off,none⟩) m c2]]from M9X)
     clear M9X
     have hc9:w9.cell? ⟨w.heap.size,9,none⟩=some (.slice (some ⟨b,off,none⟩) m c2):=(M9.out.blk (i:=8) rfl).cell 9
     have hd9:w9.cell? ⟨w2.heap.size,9,none⟩=some (.slice q1 m cq1):=(M9.out.blk (i:=3) rfl).cell 9
     have hdf9:w9.frozen? ⟨w2.heap.size,9,none⟩=false:=(M9.out.blk (i:=3) rfl).frozen 9
     have hl0:w.heap.size<w9.heap.size:=(M9.out.lt (i:=8) rfl rfl).2
     have hl1:w2.heap.size<w9.heap.size:=(M9.out.lt (i:=3) rfl rfl).2)))
  all_goals (
   have e1:k+(m-(k+1))=m-1:=by omega
   have e2:(vs.take k).flatMap aD++(vs.drop (k+1)).flatMap aD=(vs.take k++vs.drop (k+1)).flatMap aD:=by simp
   have i8:(k:Int)+((m-(k+1):Nat):Int)=((m-1:Nat):Int):=by omega
   have MZ:=xQ (show Mem w w9 [aJ w.heap.size TV 4 (q9) (m-1) (c9) ((vs.take k++vs.drop (k+1)).flatMap aD),aL w.heap.size (w3.heap.size) TH3 #[aA,aB,.slice p5 n cp5],aJ w.heap.size TI 1 (p5) (n) (cp5) (ivs ys),aL w.heap.size (w2.heap.size) aO #[aA,aB,.slice p5 n cp5,free,step,aE,aF,aC,aG,.slice q1 m cq1],aJ w.heap.size TI 1 (p1) (n) (cp1) (ivs xs),aJ w.heap.size TV 4 (q1) (m) (cq1) (vs.flatMap aD),aL w.heap.size (w.heap.size+1+1) aO #[(),(),((),()),(),(),(),(),(),(),((),())],aL w.heap.size (w.heap.size+1) THD #[.int .i64 2,one,two],aL w.heap.size (w.heap.size) aO #[aA,aB,.slice p n cap,free,step,aE,aF,aC,aG,.slice (some ⟨b,off,none⟩) m c2]]from by have:=M9.out;rw[e2]at this;simpa only[e1]using this)
   clear e2 M9 M7)
  all_goals go_wp2_with fail
  all_goals go_meet
  all_goals exact⟨q9,c9,by first|exact((MZ.out).store (i:=3) rfl 9 (.slice q9 (m-1) c9))|(simp only[e1];exact((MZ.out).store (i:=3) rfl 9 (.slice q9 (m-1) c9)))⟩
 case rest=>
  obtain⟨q9,c9,MC⟩:=hcut
  have MC:=xQ MC
  clear M6 i1 i2 i3 i4 i5 i6 i7 hck hc0 ce9 d0 df0 d1 df1 d2 df2 d3 df3 d4 df4 d5 df5 d6 df6 d7 df7 d8 df8 d9 df9 ne0_1a ne0_1b ne0_2a ne0_2b ne1_2a ne1_2b lt6_0 lt6_2 lt6_5 lt6_6 lt6_7
  have lt6_1:w3.heap.size<wc.heap.size:=(MC.out.lt (i:=1) rfl rfl).2
  have lt6_3:w2.heap.size<wc.heap.size:=(MC.out.lt (i:=3) rfl rfl).2
  have lt6_6:w.heap.size+1+1<wc.heap.size:=(MC.out.lt (i:=6) rfl rfl).2
  have lt6_7:w.heap.size+1<wc.heap.size:=(MC.out.lt (i:=7) rfl rfl).2
  have lt6_8:w.heap.size<wc.heap.size:=(MC.out.lt (i:=8) rfl rfl).2
  obtain⟨e0,e1,e2,e3,e4,e5,e6,e7,e8,e9⟩:=(MC.out.blk (i:=3) rfl).ten
  obtain⟨f0,ff0,f1,ff1,f2,ff2,f3,ff3,f4,ff4,f5,ff5,f6,ff6,f7,ff7,f8,ff8,f9,ff9⟩:=(MC.out.blk (i:=6) rfl).tenf
  have ne0_1a: ¬(w2.heap.size=w.heap.size+1+1):=MC.out.ne (i:=3) (j:=6) (by omega) rfl rfl rfl rfl
  have ne0_1b: ¬(w.heap.size+1+1=w2.heap.size):=fun h=>ne0_1a h.symm
  go_upto_region 33 with fail
  go_wp2
  clear e0 e1 e2 e3 e4 e5 e6 e7 e8 e9 f0 ff0 f1 ff1 f2 ff2 f3 ff3 f4 ff4 f5 ff5 f6 ff6 f7 ff7 f8 ff8 f9 ff9 ne0_1a ne0_1b lt6_1 lt6_3 lt6_6 lt6_7 lt6_8
  have M7:=xQ (((MC.out).put10 (i:=6) rfl (.int .i64 aA) (.int .i64 aB) (.slice p5 n cp5) (.int .i64 free) (.int .i64 step) (.int .i64 aE) (.int .i64 aF) (.int .i64 aC) (.int .i64 aG) (.slice q9 (m-1) c9)))
  generalize hwz:World.setCell _ _ _=wz
  rw[hwz]at M7
  clear hwz MC
  obtain⟨y0,y1,y2,y3,y4,y5,y6,y7,y8,y9⟩:=(M7.out.blk (i:=6) rfl).ten
  exact bodyPost_ret (v:= .tuple #[.agg #[aA,aB,.slice p5 n cp5,free,step,aE,aF,aC,aG,.slice q9 (m-1) c9],slides,.bool true]) (by simp[results,Tryz.results28,go_sem, *]) rfl ⟨p5,cp5,q9,c9,rfl,(M7.out.own (i:=2) rfl),(M7.out.own (i:=0) rfl),M7.out.ext⟩
theorem nW (aA aB free step aE aF aC aG slides one two:Int)(p:OA)(n cap:Nat)(b off k:Nat)(xs ys:List Int)(vs:List aQ)(w:World)(h0:0≤slides)(hm:(k+1)≤1000)(hdn:Hid (vs.drop (k+1)= []))(HS:Hid (Sl w (some ⟨b,off,none⟩) (k+1) (k+1) 4 (vs.flatMap aD)))
  (HVd:xB 40 #[.agg #[aA,aB,.slice p n cap,free,step,aE,aF,aC,aG,.slice (some ⟨b,off,none⟩) (k+1) (k+1)]] w true)
  (HL:xC 60 #[.agg #[aA,aB,.slice p n cap,free,step,aE,aF,aC,aG,.slice (some ⟨b,off,none⟩) (k+1) (k+1)]] w fun w' e w''=> ∃p' cap' q' c2',e= .returned (.agg #[aA,aB,.slice p' n cap',free,step,aE,aF,aC,aG,.slice q' (k+1) c2'])∧w''.ownsRow w'.heap.size TI 1 (.slice p' n cap') n (ivs xs)∧w''.ownsRow w'.heap.size TV 4 (.slice q' (k+1) c2') (k+1) (vs.flatMap aD)∧Ext w' w'')
  (HP:xC 74 #[aI aA aB p n cap,one] w fun w' e w''=> ∃p' cap',e= .returned (.tuple #[aI aA aB p' n cap',slides])∧w''.ownsRow w'.heap.size TI 1 (.slice p' n cap') n (ivs ys)∧Ext w' w'')
  (HF:xC 75 #[.agg #[aA,aB,.slice p n cap,free,step,aE,aF,aC,aG,.slice (some ⟨b,off,none⟩) (k+1) (k+1)],one] w fun w' e w''=>e= .returned (.int .i64 (k:Int))∧Ext w' w'')
  (HM:xB 76 #[.agg #[aA,aB,.slice p n cap,free,step,aE,aF,aC,aG,.slice (some ⟨b,off,none⟩) (k+1) (k+1)],one] w true):
  Calls Tryz.prog 28 #[.agg #[aA,aB,.slice p n cap,free,step,aE,aF,aC,aG,.slice (some ⟨b,off,none⟩) (k+1) (k+1)],.agg #[.int .i64 2,one,two]] w fun e w'=> ∃p' cap' q' c2',e= .returned (.tuple #[.agg #[aA,aB,.slice p' n cap',free,step,aE,aF,aC,aG,.slice q' (k) c2'],slides,.bool true])∧w'.ownsRow w.heap.size TI 1 (.slice p' n cap') n (ivs ys)∧w'.ownsRow w.heap.size TV 4 (.slice q' (k) c2') (k) ((vs.take k++vs.drop (k+1)).flatMap aD)∧Ext w w':=by
 go_enter Tryz.func28,Tryz.ntmps28
 go_wp2_with fail
 refine(HVd.out _ (Mem.b3 w).ext).mono ?_
 rintro e w1 ⟨rfl,hx1⟩
 have M1:=xQ ((Mem.b3 w).adv hx1)
 have lt1_0:=M1.out.hi 0
 have lt1_1:=M1.out.hi 1
 have lt1_2:=M1.out.hi 2
 clear hx1 HVd
 obtain⟨ce0,ce1,ce2,ce3,ce4,ce5,ce6,ce7,ce8,ce9⟩:=(M1.out.blk (i:=2) rfl).ten
 go_wp2_with fail
 clear ce0 ce1 ce2 ce3 ce4 ce5 ce6 ce7 ce8 ce9
 refine(HL.out _ (M1.out).ext).mono ?_
 rintro e w2 ⟨p1,cp1,q1,cq1,rfl,ho,hq,hx⟩
 have M2:=xQ ((M1.out).own2 hx ho hq (Nat.le_refl _) (by decide))
 clear M1 lt1_0 lt1_1 lt1_2
 have lt2_2:=M2.out.hi 2
 have lt2_3:=M2.out.hi 3
 have lt2_4:=M2.out.hi 4
 clear hx ho hq
 obtain⟨ce0,ce1,ce2,ce3,ce4,ce5,ce6,ce7,ce8,ce9⟩:=(M2.out.blk (i:=4) rfl).ten
 obtain⟨de0,de1,de2⟩:=(M2.out.blk (i:=3) rfl).tri
 go_wp2_with fail
 clear ce0 ce1 ce2 ce3 ce4 ce5 ce6 ce7 ce8 ce9 de0 de1 de2
 refine(HP.out _ (((M2.out).blkNew aO #[aA,aB,.slice p1 n cp1,free,step,aE,aF,aC,aG,.slice q1 (k+1) cq1] (w2.heap.size) (by simp))).ext).mono ?_
 rintro e w3 ⟨p5,cp5,rfl,ho,hx⟩
 have M3:=xQ ((((M2.out).blkNew aO #[aA,aB,.slice p1 n cp1,free,step,aE,aF,aC,aG,.slice q1 (k+1) cq1] (w2.heap.size) (by simp))).call hx ho)
 clear M2 lt2_2 lt2_3 lt2_4
 have lt3_1:=M3.out.hi 1
 have lt3_4:=M3.out.hi 4
 have lt3_5:=M3.out.hi 5
 have lt3_6:=M3.out.hi 6
 clear hx ho HP
 obtain⟨ce0,ce1,ce2,ce3,ce4,ce5,ce6,ce7,ce8,ce9⟩:=(M3.out.blk (i:=6) rfl).ten
 obtain⟨de0,de1,de2⟩:=(M3.out.blk (i:=5) rfl).tri
 go_wp2_with fail
 clear ce0 ce1 ce2 ce3 ce4 ce5 ce6 ce7 ce8 ce9 de0 de1 de2
 refine(HF.out _ (((M3.out).blkNew TH3 #[aA,aB,.slice p5 n cp5] (w3.heap.size) (by simp))).ext).mono ?_
 rintro e w4 ⟨rfl,hx4⟩
 have M4:=xQ ((((M3.out).blkNew TH3 #[aA,aB,.slice p5 n cp5] (w3.heap.size) (by simp))).adv hx4)
 clear M3 lt3_1 lt3_4 lt3_5 lt3_6
 have lt4_0:=M4.out.hi 0
 have lt4_2:=M4.out.hi 2
 have lt4_5:=M4.out.hi 5
 have lt4_6:=M4.out.hi 6
 have lt4_7:=M4.out.hi 7
 clear hx4 HF
 obtain⟨ce0,ce1,ce2,ce3,ce4,ce5,ce6,ce7,ce8,ce9⟩:=(M4.out.blk (i:=7) rfl).ten
 obtain⟨de0,de1,de2⟩:=(M4.out.blk (i:=6) rfl).tri
 go_wp2_with fail
 clear ce0 ce1 ce2 ce3 ce4 ce5 ce6 ce7 ce8 ce9 de0 de1 de2
 refine(HM.out _ (M4.out).ext).mono ?_
 rintro e w5 ⟨rfl,hx5⟩
 have M5:=xQ ((M4.out).adv hx5)
 clear M4 lt4_0 lt4_2 lt4_5 lt4_6 lt4_7
 have lt5_0:=M5.out.hi 0
 have lt5_2:=M5.out.hi 2
 have lt5_5:=M5.out.hi 5
 have lt5_6:=M5.out.hi 6
 have lt5_7:=M5.out.hi 7
 clear hx5 HM
 have hd:decide (slides<0)=false:=by simp;omega
 have hd2:decide (0≤slides)=true:=by simp;omega
 clear HL
 obtain⟨d0,df0,d1,df1,d2,df2,d3,df3,d4,df4,d5,df5,d6,df6,d7,df7,d8,df8,d9,df9⟩:=(M5.out.blk (i:=2) rfl).tenf
 obtain⟨xc0,xc1,xc2⟩:=(M5.out.blk (i:=0) rfl).tri
 have ne0_1a: ¬(w3.heap.size=w2.heap.size):=M5.out.ne (i:=0) (j:=2) (by omega) rfl rfl rfl rfl
 have ne0_1b: ¬(w2.heap.size=w3.heap.size):=fun h=>ne0_1a h.symm
 go_upto_region 22 with fail
 clear d0 df0 d1 df1 d2 df2 d3 df3 d4 df4 d5 df5 d6 df6 d7 df7 d8 df8 d9 df9 xc0 xc1 xc2 ne0_1a ne0_1b lt5_0 lt5_2 lt5_5 lt5_6 lt5_7
 have M6:=xQ (((((((M5.out).st 2 0 (.int .i64 aA))).st 2 1 (.int .i64 aB))).st 2 2 (.slice p5 n cp5)))
 generalize hwz:World.setCell _ _ _=w6
 rw[hwz]at M6
 clear hwz M5
 have lt6_0:=M6.out.hi 0
 have lt6_2:=M6.out.hi 2
 have lt6_5:=M6.out.hi 5
 have lt6_6:=M6.out.hi 6
 have lt6_7:=M6.out.hi 7
 have ce9:w6.cell? ⟨w.heap.size,9,none⟩=some (.slice (some ⟨b,off,none⟩) (k+1) (k+1)):=(M6.out.blk (i:=7) rfl).cell 9
 obtain⟨d0,df0,d1,df1,d2,df2,d3,df3,d4,df4,d5,df5,d6,df6,d7,df7,d8,df8,d9,df9⟩:=(M6.out.blk (i:=2) rfl).tenf
 have ne0_1a: ¬(w2.heap.size=w.heap.size):=M6.out.ne (i:=2) (j:=7) (by omega) rfl rfl rfl rfl
 have ne0_1b: ¬(w.heap.size=w2.heap.size):=fun h=>ne0_1a h.symm
 have ne0_2a: ¬(w.heap.size+1+1=w.heap.size):=M6.out.ne (i:=5) (j:=7) (by omega) rfl rfl rfl rfl
 have ne0_2b: ¬(w.heap.size=w.heap.size+1+1):=fun h=>ne0_2a h.symm
 have ne1_2a: ¬(w2.heap.size=w.heap.size+1+1):=M6.out.ne (i:=2) (j:=5) (by omega) rfl rfl rfl rfl
 have ne1_2b: ¬(w.heap.size+1+1=w2.heap.size):=fun h=>ne1_2a h.symm
 have i1:(0:Int)≤(k:Int):=by omega
 have i2:(k:Int)≤((k+1):Int):=by omega
 have i3:(k:Int)≤((k+1):Int):=by omega
 have i4:(k:Int)+1≤((k+1):Int):=by omega
 have i5:(0:Int)≤(k:Int)+1:=by omega
 have i6:((k:Int)+1).toNat=k+1:=by omega
 have i7:IntKind.i64.wrap ((k:Int)+1)=(k:Int)+1:=IntWalk.i64_in _ (by omega)
 have hc0: ¬(k+1)=0:=by omega
 go_cut [] (fun wx=> ∃(q9:OA) (c9:Nat),Mem w wx [aJ w.heap.size TV 4 (q9) (k) (c9) ((vs.take k++vs.drop (k+1)).flatMap aD),aL w.heap.size (w3.heap.size) TH3 #[aA,aB,.slice p5 n cp5],aJ w.heap.size TI 1 (p5) (n) (cp5) (ivs ys),aL w.heap.size (w2.heap.size) aO #[aA,aB,.slice p5 n cp5,free,step,aE,aF,aC,aG,.slice q9 (k) c9],aJ w.heap.size TI 1 (p1) (n) (cp1) (ivs xs),aJ w.heap.size TV 4 (q1) ((k+1)) (cq1) (vs.flatMap aD),aL w.heap.size (w.heap.size+1+1) aO #[(),(),((),()),(),(),(),(),(),(),((),())],aL w.heap.size (w.heap.size+1) THD #[.int .i64 2,one,two],aL w.heap.size (w.heap.size) aO #[aA,aB,.slice p n cap,free,step,aE,aF,aC,aG,.slice (some ⟨b,off,none⟩) (k+1) (k+1)]])
 case first=>
  go_region_law ((first
   |(refine eX qT (by rfl) _ _ (by rfl) (by first|exact M6.out.made0 TV 4 w6.heap.size (by simp)|exact(M6.out.made0 TV 4 w6.heap.size (by simp)).adv (by exact .drew (.refl _))|exact(M6.out.adv xE).made0 TV 4 w6.heap.size (by simp)) 0 (by rfl) (by rfl) ((vs.take k).flatMap aD) (by rfl) (xU (HS.out.ext (M6.out.ext.trans (by exact .drew (.alloc (.refl _) _)))) (by omega)) (dZ _) (by omega) ?_
     intro q7 c7 w7 M7X
     have M7:=xQ (show Mem w w7 [aJ w.heap.size TV 4 (q7) (k) (c7) ((vs.take k).flatMap aD),aL w.heap.size (w3.heap.size) TH3 #[aA,aB,.slice p5 n cp5],aJ w.heap.size TI 1 (p5) (n) (cp5) (ivs ys),aL w.heap.size (w2.heap.size) aO #[aA,aB,.slice p5 n cp5,free,step,aE,aF,aC,aG,.slice q1 (k+1) cq1],aJ w.heap.size TI 1 (p1) (n) (cp1) (ivs xs),aJ w.heap.size TV 4 (q1) ((k+1)) (cq1) (vs.flatMap aD),aL w.heap.size (w.heap.size+1+1) aO #[(),(),((),()),(),(),(),(),(),(),((),())],aL w.heap.size (w.heap.size+1) THD #[.int .i64 2,one,two],aL w.heap.size (w.heap.size) aO #[aA,aB,.slice p n cap,free,step,aE,aF,aC,aG,.slice (some ⟨b,off,none⟩) (k+1) (k+1)]]from by simpa only[List.set_cons_zero,Nat.zero_add,List.nil_append]using M7X)
     clear M7X
     have gc9:w7.cell? ⟨w.heap.size,9,none⟩=some (.slice (some ⟨b,off,none⟩) (k+1) (k+1)):=(M7.out.blk (i:=8) rfl).cell 9
     have gd9:w7.cell? ⟨w2.heap.size,9,none⟩=some (.slice q1 (k+1) cq1):=(M7.out.blk (i:=3) rfl).cell 9
     have gdf9:w7.frozen? ⟨w2.heap.size,9,none⟩=false:=(M7.out.blk (i:=3) rfl).frozen 9
     have gl0:w.heap.size<w7.heap.size:=(M7.out.lt (i:=8) rfl rfl).2
     have gl1:w2.heap.size<w7.heap.size:=(M7.out.lt (i:=3) rfl rfl).2)
   |(refine eX qT (by rfl) _ _ (by rfl) (M7.out.adv (by exact .refl _)) 0 (by rfl) (by rfl) (([]:List aQ).flatMap aD) (by rfl) (⟨by simp,Nat.zero_le _,by have:=HS.out.mx;omega,fun h=>absurd h (by omega)⟩) (dZ _) (by omega) ?_
     intro q9 c9 w9 M9X
     have M9:=xQ (show Mem w w9 [aJ w.heap.size TV 4 (q9) (k+(0)) (c9) ((vs.take k).flatMap aD++([]:List aQ).flatMap aD),aL w.heap.size (w3.heap.size) TH3 #[aA,aB,.slice p5 n cp5],aJ w.heap.size TI 1 (p5) (n) (cp5) (ivs ys),aL w.heap.size (w2.heap.size) aO #[aA,aB,.slice p5 n cp5,free,step,aE,aF,aC,aG,.slice q1 (k+1) cq1],aJ w.heap.size TI 1 (p1) (n) (cp1) (ivs xs),aJ w.heap.size TV 4 (q1) ((k+1)) (cq1) (vs.flatMap aD),aL w.heap.size (w.heap.size+1+1) aO #[(),(),((),()),(),(),(),(),(),(),((),())],aL w.heap.size (w.heap.size+1) THD #[.int .i64 2,one,two],aL w.heap.size (w.heap.size) aO #[aA,aB,.slice p n cap,free,step,aE,aF,aC,aG,.slice (some ⟨b,off,none⟩) (k+1) (k+1)]]from M9X)
     clear M9X
     have hc9:w9.cell? ⟨w.heap.size,9,none⟩=some (.slice (some ⟨b,off,none⟩) (k+1) (k+1)):=(M9.out.blk (i:=8) rfl).cell 9
     have hd9:w9.cell? ⟨w2.heap.size,9,none⟩=some (.slice q1 (k+1) cq1):=(M9.out.blk (i:=3) rfl).cell 9
     have hdf9:w9.frozen? ⟨w2.heap.size,9,none⟩=false:=(M9.out.blk (i:=3) rfl).frozen 9
     have hl0:w.heap.size<w9.heap.size:=(M9.out.lt (i:=8) rfl rfl).2
     have hl1:w2.heap.size<w9.heap.size:=(M9.out.lt (i:=3) rfl rfl).2)))
  all_goals (
   have e1:k+(0)=k:=by omega
   have e2:(vs.take k).flatMap aD++([]:List aQ).flatMap aD=(vs.take k++vs.drop (k+1)).flatMap aD:=by rw[hdn.out];simp
   skip
   have MZ:=xQ (show Mem w w9 [aJ w.heap.size TV 4 (q9) (k) (c9) ((vs.take k++vs.drop (k+1)).flatMap aD),aL w.heap.size (w3.heap.size) TH3 #[aA,aB,.slice p5 n cp5],aJ w.heap.size TI 1 (p5) (n) (cp5) (ivs ys),aL w.heap.size (w2.heap.size) aO #[aA,aB,.slice p5 n cp5,free,step,aE,aF,aC,aG,.slice q1 (k+1) cq1],aJ w.heap.size TI 1 (p1) (n) (cp1) (ivs xs),aJ w.heap.size TV 4 (q1) ((k+1)) (cq1) (vs.flatMap aD),aL w.heap.size (w.heap.size+1+1) aO #[(),(),((),()),(),(),(),(),(),(),((),())],aL w.heap.size (w.heap.size+1) THD #[.int .i64 2,one,two],aL w.heap.size (w.heap.size) aO #[aA,aB,.slice p n cap,free,step,aE,aF,aC,aG,.slice (some ⟨b,off,none⟩) (k+1) (k+1)]]from by have:=M9.out;rw[e2]at this;simpa only[e1]using this)
   clear e2 M9 M7)
  all_goals go_wp2_with fail
  all_goals go_meet
  all_goals exact⟨q9,c9,by first|exact((MZ.out).store (i:=3) rfl 9 (.slice q9 (k) c9))|(simp only[e1];exact((MZ.out).store (i:=3) rfl 9 (.slice q9 (k) c9)))⟩
 case rest=>
  obtain⟨q9,c9,MC⟩:=hcut
  have MC:=xQ MC
  clear M6 i1 i2 i3 i4 i5 i6 i7 hc0 ce9 d0 df0 d1 df1 d2 df2 d3 df3 d4 df4 d5 df5 d6 df6 d7 df7 d8 df8 d9 df9 ne0_1a ne0_1b ne0_2a ne0_2b ne1_2a ne1_2b lt6_0 lt6_2 lt6_5 lt6_6 lt6_7
  have lt6_1:w3.heap.size<wc.heap.size:=(MC.out.lt (i:=1) rfl rfl).2
  have lt6_3:w2.heap.size<wc.heap.size:=(MC.out.lt (i:=3) rfl rfl).2
  have lt6_6:w.heap.size+1+1<wc.heap.size:=(MC.out.lt (i:=6) rfl rfl).2
  have lt6_7:w.heap.size+1<wc.heap.size:=(MC.out.lt (i:=7) rfl rfl).2
  have lt6_8:w.heap.size<wc.heap.size:=(MC.out.lt (i:=8) rfl rfl).2
  obtain⟨e0,e1,e2,e3,e4,e5,e6,e7,e8,e9⟩:=(MC.out.blk (i:=3) rfl).ten
  obtain⟨f0,ff0,f1,ff1,f2,ff2,f3,ff3,f4,ff4,f5,ff5,f6,ff6,f7,ff7,f8,ff8,f9,ff9⟩:=(MC.out.blk (i:=6) rfl).tenf
  have ne0_1a: ¬(w2.heap.size=w.heap.size+1+1):=MC.out.ne (i:=3) (j:=6) (by omega) rfl rfl rfl rfl
  have ne0_1b: ¬(w.heap.size+1+1=w2.heap.size):=fun h=>ne0_1a h.symm
  go_upto_region 33 with fail
  go_wp2
  clear e0 e1 e2 e3 e4 e5 e6 e7 e8 e9 f0 ff0 f1 ff1 f2 ff2 f3 ff3 f4 ff4 f5 ff5 f6 ff6 f7 ff7 f8 ff8 f9 ff9 ne0_1a ne0_1b lt6_1 lt6_3 lt6_6 lt6_7 lt6_8
  have M7:=xQ (((MC.out).put10 (i:=6) rfl (.int .i64 aA) (.int .i64 aB) (.slice p5 n cp5) (.int .i64 free) (.int .i64 step) (.int .i64 aE) (.int .i64 aF) (.int .i64 aC) (.int .i64 aG) (.slice q9 (k) c9)))
  generalize hwz:World.setCell _ _ _=wz
  rw[hwz]at M7
  clear hwz MC
  obtain⟨y0,y1,y2,y3,y4,y5,y6,y7,y8,y9⟩:=(M7.out.blk (i:=6) rfl).ten
  exact bodyPost_ret (v:= .tuple #[.agg #[aA,aB,.slice p5 n cp5,free,step,aE,aF,aC,aG,.slice q9 (k) c9],slides,.bool true]) (by simp[results,Tryz.results28,go_sem, *]) rfl ⟨p5,cp5,q9,c9,rfl,(M7.out.own (i:=2) rfl),(M7.out.own (i:=0) rfl),M7.out.ext⟩
end Go.Proofs.YtgnkoffndhmhpaaGreatDoor
namespace Go.Proofs.YtgnkoffndhmhpaaGreatDoor
open Go.RowKit
set_option linter.unusedVariables false
set_option linter.unusedSimpArgs false
def aCz (h:aT)(r:Option (aT×Int))(w:World)(e:Ending)(w':World):Prop:=
 match r with
 |none=> ∃p cap q c2,e= .returned (.tuple #[bS h p h.cells.length cap q h.vs.length c2,(-1:Int),.bool false])∧w'.ownsRow w.heap.size TI 1 (.slice p h.cells.length cap) h.cells.length (ivs h.cells)∧w'.ownsRow w.heap.size TV 4 (.slice q h.vs.length c2) h.vs.length (h.vs.flatMap aD)∧Ext w w'
 |some (h',n)=> ∃p cap q c2,e= .returned (.tuple #[bS h' p h'.cells.length cap q h'.vs.length c2,n,.bool true])∧w'.ownsRow w.heap.size TI 1 (.slice p h'.cells.length cap) h'.cells.length (ivs h'.cells)∧w'.ownsRow w.heap.size TV 4 (.slice q h'.vs.length c2) h'.vs.length (h'.vs.flatMap aD)∧Ext w w'
theorem iQ {h:aT}(hok:bK h=true):h.cells.length≤12∧h.vs.length≤12∧4≤h.cells.length:=by
 obtain⟨q1,q2,q3,q4,q5⟩:=(fP h).1 hok
 have hb:=bR (cF q1)
 have:=congrArg List.length q4
 rw[gC,List.length_map]at this
 have:=iK h.cells
 omega
theorem xG (h:aT)(k a b:Int)(p:OA)(n cap:Nat)(q:OA)(m c2:Nat)(w:World)(hi:IsHouse w h p n cap q m c2)(hok:bK h=true):
  Calls Tryz.prog 28 #[bS h p n cap q m c2,aIi k a b] w (aCz h (cG h k a b) w):=by
 obtain⟨q1,q2,q3,q4,q5⟩:=(fP h).1 hok
 have hsm:=iQ hok
 have hl:=hi.clen
 have hvl:=hi.vlen
 have hS:=hi.cells
 have hV:=hi.vs
 subst hl hvl
 have HVd:=xQ fun(w':World) (hx:Ext w w')=>(by have:=mI h p _ cap q _ c2 w' (hi.ext hx);rwa[hok]at this:Calls Tryz.prog 40 #[bS h p h.cells.length cap q h.vs.length c2] w' fun e w''=>e= .returned (.bool true)∧Ext w' w'')
 have HL:=xQ fun(w':World) (hx:Ext w w')=>nN h p _ cap q _ c2 w' (by omega) (by omega) (hi.ext hx)
 unfold RetHouse at HL
 by_cases k0:k=0
 ·subst k0
  have HP:=xQ fun(w':World) (hx:Ext w w')=>wU h.aA h.aB a p _ cap h.cells w' (hS.ext hx) q1
  have e0:cG h 0 a b=(if 0≤(bZ h.aA h.aB h.cells a).2 then some ({h with cells:=(bZ h.aA h.aB h.cells a).1,vs:=iZ (a,h.aC,0,h.aC) h.vs},(bZ h.aA h.aB h.cells a).2)else none):=by unfold cG;rw[if_pos rfl]
  have el:(bZ h.aA h.aB h.cells a).1.length=h.cells.length:=by
   by_cases h0:0≤(bZ h.aA h.aB h.cells a).2
   ·obtain⟨zs,s1,_,_,s4,_⟩:=nF q1 h0
    rw[s4,List.length_set,s1.length_eq]
   ·unfold bZ at h0⊢
    split at h0
    ·rfl
    ·dsimp only at h0;omega
  unfold cI at HP
  rw[el]at HP
  rw[e0]
  by_cases h0:0≤(bZ h.aA h.aB h.cells a).2
  ·rw[if_pos h0]
   have HQ:=xQ fun(w':World) (hx:Ext w w')=>aDu a h.aC 0 h.aC q _ c2 h.vs w' (by omega) (hV.ext hx)
   refine(pC h.aA h.aB h.free h.step h.aE h.aF h.aC h.aG (bZ h.aA h.aB h.cells a).2 a b p _ cap q _ c2 h.cells (bZ h.aA h.aB h.cells a).1 h.vs (iZ (a,h.aC,0,h.aC) h.vs) w h0 HVd HL HP HQ).mono ?_
   rintro e w' ⟨p',cap',q',c2',rfl,o1,o2,hx⟩
   refine⟨p',cap',q',c2',?_,?_,?_,hx⟩
   ·simp[bS,el,nZ]
   ·dsimp only;rw[el];exact o1
   ·dsimp only;rw[nZ];exact o2
  ·rw[if_neg h0]
   exact qO h.aA h.aB h.free h.step h.aE h.aF h.aC h.aG (bZ h.aA h.aB h.cells a).2 a b p _ cap q _ c2 h.cells (bZ h.aA h.aB h.cells a).1 h.vs w (by omega) HVd HL HP
 by_cases k1:k=1
 ·subst k1
  have HP:=xQ fun(w':World) (hx:Ext w w')=>aDv h a b p _ cap q _ c2 w' (by omega) (by omega) (hi.ext hx) q2 (fun v hv=>(iH _ _).1 (q5 v hv)) q3.2.1 q3.2.2.1 q3.2.2.2
  have e0:cG h 1 a b=nH h a b:=by unfold cG;rw[if_neg (by omega),if_pos rfl]
  rw[e0]
  cases hp:nH h a b with
  |none=>
   rw[hp]at HP
   exact sW h.aA h.aB h.free h.step h.aE h.aF h.aC h.aG a b p _ cap q _ c2 h.cells h.vs w HVd HL HP
  |some r=>
   obtain⟨h',bk⟩:=r
   rw[hp]at HP
   have hd:=sD hok (e0.trans hp)
   have hv:h'.vs.length=h.vs.length∧h'.cells=h.cells∧h'.aC=h.aC:=by
    unfold nH at hp
    split at hp
    ·cases hp
    ·split at hp
     ·injection hp with hp
      simp only[Prod.mk.injEq]at hp
      obtain⟨rfl,_⟩:=hp
      exact⟨by simp,rfl,rfl⟩
     ·cases hp
   obtain⟨t1,t2,t3,t4,t5,t6,t7,t8,t9⟩:=hd
   obtain⟨v1,v2,v3⟩:=hv
   obtain⟨hw,hde,hc,hf,hs,hpr,hca,hcl,hba,hvs⟩:=h'
   dsimp only at t4 t5 t6 t7 t8 t9 v1 v2 v3
   subst t4 t5 t6 t7 t8 t9 v2 v3
   unfold aHk at HP
   dsimp only at HP
   rw[v1]at HP
   refine(rH h.aA h.aB h.free h.step h.aE h.aF h.aC h.aG hba bk a b p _ cap q _ c2 h.cells h.vs hvs w t2.1 HVd HL HP).mono ?_
   rintro e w' ⟨p',cap',q',c2',rfl,o1,o2,hx⟩
   refine⟨p',cap',q',c2',?_,o1,?_,hx⟩
   ·simp[bS,v1]
   ·dsimp only;rw[v1];exact o2
 by_cases k2:k=2
 ·subst k2
  have HP:=xQ fun(w':World) (hx:Ext w w')=>zO h.aA h.aB a p _ cap h.cells w' (hS.ext hx) q1
  have HF:=xQ fun(w':World) (hx:Ext w w')=>nM h.aA h.aB h.free h.step h.aE h.aF h.aC h.aG a p h.cells.length cap q _ c2 h.vs w' (hV.ext hx)
  have HM:=xQ fun(w':World) (hx:Ext w w')=>vA h a p _ cap q _ c2 w' (hi.ext hx)
  have e0:cG h 2 a b=(if eC h a=true∧0≤(bQ h.aA h.aB h.cells a).2 then some ({h with cells:=(bQ h.aA h.aB h.cells a).1,vs:=h.vs.eraseIdx (vix a h.vs).toNat},(bQ h.aA h.aB h.cells a).2)else none):=by unfold cG;rw[if_neg (by omega),if_neg (by omega),if_pos rfl]
  have el:(bQ h.aA h.aB h.cells a).1.length=h.cells.length:=by
   by_cases h0:0≤(bQ h.aA h.aB h.cells a).2
   ·obtain⟨zs,s1,_,_,s4,_⟩:=lD q1 h0
    rw[s4,List.length_set,s1.length_eq]
   ·unfold bQ at h0⊢
    split at h0
    ·rfl
    ·dsimp only at h0;omega
  unfold cI at HP
  rw[el]at HP
  rw[e0]
  by_cases h0:eC h a=true∧0≤(bQ h.aA h.aB h.cells a).2
  ·rw[if_pos h0]
   have hv: ∃v,eN a h.vs=some v:=by
    have:=h0.1
    unfold eC dB at this
    rw[if_pos hok]at this
    cases hv:eN a h.vs with
    |none=>rw[hv]at this;simp at this
    |some v=>exact⟨v,rfl⟩
   obtain⟨v,hv⟩:=hv
   obtain⟨v1,v2,v3,v4,v5,v6⟩:=jU hv
   generalize hk:(vix a h.vs).toNat=kk at*
   rw[v5]at HF
   rw[h0.1]at HM
   obtain⟨bb,off,rfl,hbb,_⟩:=hV.rd (by omega)
   have ee:h.vs.eraseIdx kk=h.vs.take kk++h.vs.drop (kk+1):=List.eraseIdx_eq_take_drop_succ _ _
   have eln:(h.vs.eraseIdx kk).length=h.vs.length-1:=by rw[List.length_eraseIdx,if_pos v4]
   by_cases hcc:kk+1<c2
   ·refine(pE h.aA h.aB h.free h.step h.aE h.aF h.aC h.aG (bQ h.aA h.aB h.cells a).2 a b p _ cap bb off _ c2 kk h.cells (bQ h.aA h.aB h.cells a).1 h.vs w h0.2 v4 (by omega) hcc (xQ hV) HVd HL HP HF HM).mono ?_
    rintro e w' ⟨p',cap',q',c2',rfl,o1,o2,hx⟩
    refine⟨p',cap',q',c2',?_,?_,?_,hx⟩
    ·simp only[bS,el,eln]
    ·dsimp only;rw[el];exact o1
    ·dsimp only;rw[eln,ee];exact o2
   ·have hle:=hV.le
    have e1:c2=kk+1:=by omega
    have e2:h.vs.length=kk+1:=by omega
    subst e1
    rw[e2]at hV HVd HL HF HM eln⊢
    refine(nW h.aA h.aB h.free h.step h.aE h.aF h.aC h.aG (bQ h.aA h.aB h.cells a).2 a b p _ cap bb off kk h.cells (bQ h.aA h.aB h.cells a).1 h.vs w h0.2 (by omega) (xQ (List.drop_eq_nil_of_le (by omega))) (xQ hV) HVd HL HP HF HM).mono ?_
    rintro e w' ⟨p',cap',q',c2',rfl,o1,o2,hx⟩
    refine⟨p',cap',q',c2',?_,?_,?_,hx⟩
    ·simp[bS,el,eln]
    ·dsimp only;rw[el];exact o1
    ·dsimp only;rw[eln,ee,Nat.add_sub_cancel];exact o2
  ·rw[if_neg h0]
   exact qQ h.aA h.aB h.free h.step h.aE h.aF h.aC h.aG (bQ h.aA h.aB h.cells a).2 (vix a h.vs) a b p _ cap q _ c2 h.cells (bQ h.aA h.aB h.cells a).1 h.vs w (eC h a) (fun e=>by
    by_cases hx:0≤(bQ h.aA h.aB h.cells a).2
    ·exact absurd ⟨e,hx⟩ h0
    ·omega) HVd HL HP HF HM
 by_cases k3:k=3
 ·subst k3
  have e0:cG h 3 a b=(if 1≤a∧a≤9999-h.aC then some ({h with aC:=h.aC+a},h.aC+a)else none):=by unfold cG;rw[if_neg (by omega),if_neg (by omega),if_neg (by omega),if_pos rfl]
  rw[e0]
  by_cases h0:1≤a∧a≤9999-h.aC
  ·rw[if_pos h0]
   exact qN h.aA h.aB h.free h.step h.aE h.aF h.aC h.aG a b p _ cap q _ c2 h.cells h.vs w q3.1 q3.2.1 h0.1 h0.2 HVd HL (xQ fun w'=>kO a 1 (9999-h.aC) w' h0.1 h0.2)
  ·rw[if_neg h0]
   exact rG h.aA h.aB h.free h.step h.aE h.aF h.aC h.aG a b p _ cap q _ c2 h.cells h.vs w q3.1 q3.2.1 HVd HL (xQ fun w'=>qU a 1 (9999-h.aC) w' (by omega))
 by_cases k4:k=4
 ·subst k4
  have HP:=xQ fun(w':World) (hx:Ext w w')=>jW h.aA h.aB a b p _ cap h.cells w' (hS.ext hx) q1
  have e0:cG h 4 a b=(if bC h.aA h.aB h.cells a b=true then some ({h with cells:=bE h.aA h.aB h.cells a b},0)else none):=by unfold cG;rw[if_neg (by omega),if_neg (by omega),if_neg (by omega),if_neg (by omega),if_pos rfl]
  unfold cJ at HP
  rw[cN]at HP
  rw[e0]
  cases hm:bC h.aA h.aB h.cells a b with
  |true=>
   rw[hm]at HP
   rw[if_pos rfl]
   refine(pD h.aA h.aB h.free h.step h.aE h.aF h.aC h.aG a b p _ cap q _ c2 h.cells (bE h.aA h.aB h.cells a b) h.vs w HVd HL HP).mono ?_
   rintro e w' ⟨p',cap',q',c2',rfl,o1,o2,hx⟩
   refine⟨p',cap',q',c2',?_,?_,o2,hx⟩
   ·simp only[bS,cN]
   ·dsimp only;rw[cN];exact o1
  |false=>
   rw[hm]at HP
   rw[if_neg (by simp)]
   exact qP h.aA h.aB h.free h.step h.aE h.aF h.aC h.aG a b p _ cap q _ c2 h.cells (bE h.aA h.aB h.cells a b) h.vs w HVd HL HP
 have e0:cG h k a b=none:=by unfold cG;rw[if_neg k0,if_neg k1,if_neg k2,if_neg k3,if_neg k4]
 rw[e0]
 exact vG h.aA h.aB h.free h.step h.aE h.aF h.aC h.aG k a b p _ cap q _ c2 h.cells h.vs w k0 k1 k2 k3 k4 HVd HL
def aU (K:Int):Nat→List Value
 |0=> []
 |m+1=>aU K m++ [.int .i64 (K+m)]
theorem eY (K:Int)(m:Nat):(aU K m).length=m:=by induction m with|zero=>rfl|succ m ih=>simp[aU,ih]
theorem nB (K:Int): ∀(m j:Nat),j<m→(aU K m)[j]? =some (.int .i64 (K+j)):=by
 intro m
 induction m with
 |zero=>intro j h;omega
 |succ m ih=>
  intro j h
  by_cases hj:j<m
  ·rw[aU,List.getElem?_append_left (by rw[eY];exact hj)];exact ih j hj
  ·obtain rfl:j=m:=by omega
   rw[aU,List.getElem?_append_right (by rw[eY];omega),eY];simp
theorem yJ (K:Int)(k:Nat):aU K ((k+1)*1)=aU K (k*1)++ [.int .i64 (K+(k*1:Nat))]:=by
 rw[Nat.succ_mul];rfl
theorem yI (K:Int)(k:Nat):aU K ((k+1)*3)=aU K (k*3)++ [.int .i64 (K+(k*3:Nat)),.int .i64 (K+(k*3:Nat)+1),.int .i64 (K+(k*3:Nat)+1+1)]:=by
 have e1:K+((k*3+1:Nat):Int)=K+(k*3:Nat)+1:=by omega
 have e2:K+((k*3+2:Nat):Int)=K+(k*3:Nat)+1+1:=by omega
 rw[Nat.succ_mul]
 show aU K (k*3)++ [.int .i64 (K+(k*3:Nat))]++ [.int .i64 (K+((k*3+1:Nat):Int))]++ [.int .i64 (K+((k*3+2:Nat):Int))]=_
 rw[e1,e2]
 simp only[List.append_assoc,List.cons_append,List.nil_append]
theorem yH (K:Int)(k:Nat):aU K ((k+1)*4)=aU K (k*4)++ [.int .i64 (K+(k*4:Nat)),.int .i64 (K+(k*4:Nat)+1),.int .i64 (K+(k*4:Nat)+1+1),.int .i64 (K+(k*4:Nat)+1+1+1)]:=by
 have e1:K+((k*4+1:Nat):Int)=K+(k*4:Nat)+1:=by omega
 have e2:K+((k*4+2:Nat):Int)=K+(k*4:Nat)+1+1:=by omega
 have e3:K+((k*4+3:Nat):Int)=K+(k*4:Nat)+1+1+1:=by omega
 rw[Nat.succ_mul]
 show aU K (k*4)++ [.int .i64 (K+(k*4:Nat))]++ [.int .i64 (K+((k*4+1:Nat):Int))]++ [.int .i64 (K+((k*4+2:Nat):Int))]++ [.int .i64 (K+((k*4+3:Nat):Int))]=_
 rw[e1,e2,e3]
 simp only[List.append_assoc,List.cons_append,List.nil_append]
set_option maxHeartbeats 8000000
set_option maxRecDepth 100000
theorem aBz (aA aB:Int)(p q:OA)(n c1 c2:Nat)(xs:List Int)(w:World)(h1:Sl w p n c1 1 (ivs xs))(h2:Sl w q n c2 1 (ivs xs)):
  Calls Tryz.prog 53 #[aI aA aB p n c1,aI aA aB q n c2] w fun e w'=>e= .returned (.bool true)∧Ext w w':=by
 have H1:=xQ h1
 have H2:=xQ h2
 clear h1 h2
 go_enter Tryz.func53,Tryz.ntmps53
 go_wp2_with fail
 refine(aBy p q n c1 c2 xs _ (H1.out.ext xE) (H2.out.ext xE)).mono ?_
 rintro e w1 ⟨rfl,hx⟩
 go_wp2
 go_ret
 exact⟨rfl,xE⟩
theorem eR (h:aT)(p1:OA)(n c1:Nat)(q1:OA)(m d1:Nat)(p2:OA)(c2:Nat)(q2:OA)(d2:Nat)(w:World)(hi1:IsHouse w h p1 n c1 q1 m d1)(hi2:IsHouse w h p2 n c2 q2 m d2):
  Calls Tryz.prog 14 #[bS h p1 n c1 q1 m d1,bS h p2 n c2 q2 m d2] w fun e w'=>e= .returned (.bool true)∧Ext w w':=by
 have H1:=xQ hi1
 have H2:=xQ hi2
 clear hi1 hi2
 obtain⟨aA,aB,cells,free,step,aE,aF,aC,aG,vs⟩:=h
 go_enter Tryz.func14,Tryz.ntmps14
 go_wp2_with fail
 refine(aBz aA aB p1 p2 n c1 c2 cells _ (H1.out.cells.ext xE) (H2.out.cells.ext xE)).mono ?_
 rintro e w1 ⟨rfl,hx1⟩
 have BA:=xQ (((Blk.new w 35 #[aA,aB,.slice p1 n c1,free,step,aE,aF,aC,aG,.slice q1 m d1]).alloc (.cells #[aA,aB,.slice p2 n c2,free,step,aE,aF,aC,aG,.slice q2 m d2] 35)).ext hx1)
 have BB':=xQ ((Blk.new (w.alloc (.cells #[aA,aB,.slice p1 n c1,free,step,aE,aF,aC,aG,.slice q1 m d1] 35)) 35 #[aA,aB,.slice p2 n c2,free,step,aE,aF,aC,aG,.slice q2 m d2]).ext hx1)
 simp only[World.size_alloc]at BB'
 have hxw1:Ext w w1:=(((Ext.refl w).alloc _).alloc _).trans hx1
 have ha:w.heap.size+1<w1.heap.size:=Nat.lt_of_lt_of_le (by simp) hx1.sz
 clear hx1
 have a3:w1.cell? ⟨w.heap.size,3,none⟩=some (.int .i64 free):=BA.out.cell 3
 have a4:w1.cell? ⟨w.heap.size,4,none⟩=some (.int .i64 step):=BA.out.cell 4
 have a5:w1.cell? ⟨w.heap.size,5,none⟩=some (.int .i64 aE):=BA.out.cell 5
 have a6:w1.cell? ⟨w.heap.size,6,none⟩=some (.int .i64 aF):=BA.out.cell 6
 have b3:w1.cell? ⟨w.heap.size+1,3,none⟩=some (.int .i64 free):=BB'.out.cell 3
 have b4:w1.cell? ⟨w.heap.size+1,4,none⟩=some (.int .i64 step):=BB'.out.cell 4
 have b5:w1.cell? ⟨w.heap.size+1,5,none⟩=some (.int .i64 aE):=BB'.out.cell 5
 have b6:w1.cell? ⟨w.heap.size+1,6,none⟩=some (.int .i64 aF):=BB'.out.cell 6
 go_wp2_with fail
 clear a3 a4 a5 a6 b3 b4 b5 b6
 refine(wL free step aE aF _).mono ?_
 rintro e w2 ⟨rfl,hx2⟩
 have hxw2:Ext w w2:=hxw1.trans hx2
 have ha2:w.heap.size+1<w2.heap.size:=Nat.lt_of_lt_of_le ha hx2.sz
 have BA2:=xQ (BA.out.ext hx2)
 have BB2:=xQ (BB'.out.ext hx2)
 clear hx2 BA BB'
 have a7:w2.cell? ⟨w.heap.size,7,none⟩=some (.int .i64 aC):=BA2.out.cell 7
 have a8:w2.cell? ⟨w.heap.size,8,none⟩=some (.int .i64 aG):=BA2.out.cell 8
 have a9:w2.cell? ⟨w.heap.size,9,none⟩=some (.slice q1 m d1):=BA2.out.cell 9
 have b7:w2.cell? ⟨w.heap.size+1,7,none⟩=some (.int .i64 aC):=BB2.out.cell 7
 have b8:w2.cell? ⟨w.heap.size+1,8,none⟩=some (.int .i64 aG):=BB2.out.cell 8
 have b9:w2.cell? ⟨w.heap.size+1,9,none⟩=some (.slice q2 m d2):=BB2.out.cell 9
 go_wp2_with fail
 clear a7 a8 a9 b7 b8 b9
 refine(wK q1 q2 m d1 d2 vs _ (H1.out.vs.ext xE) (H2.out.vs.ext xE)).mono ?_
 rintro e w3 ⟨rfl,hx3⟩
 go_wp2
 go_ret
 exact⟨rfl,xE⟩
end Go.Proofs.YtgnkoffndhmhpaaGreatDoor
