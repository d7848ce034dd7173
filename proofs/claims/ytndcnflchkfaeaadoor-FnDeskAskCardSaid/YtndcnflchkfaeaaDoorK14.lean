/-
  Texts of this proof, packed (@packed).
-/
import Derived.Test.YtndcnflchkfaeaaDoorK10
import Derived.Test.YtndcnflchkfaeaaDoorK13
namespace Go.Proofs.YtndcnflchkfaeaaDoor
open Go.RowKit
set_option linter.unusedVariables false
set_option linter.unusedSimpArgs false
set_option maxRecDepth 100000 in
set_option maxHeartbeats 8000000 in
theorem implDa_bad (P:Int)(q:Option Addr)(m c2:Nat)(q2:Option Addr)(m2 d2:Nat)(b0 b1 b2 b3:Int)(T R:List Visit4)(w:World)(HV:Hid (∀w',Ext w w'→Calls Tryd.prog 10 #[.agg #[.int .i64 P,.slice q m c2,.slice q2 m2 d2]] w' fun e w''=>e= .returned (.bool false)∧Ext w' w'')):
  Calls Tryd.prog 15 #[.agg #[.int .i64 P,.slice q m c2,.slice q2 m2 d2],bookV b0 b1 b2 b3] w fun e w'=>e= .returned (.tuple #[.agg #[.int .i64 0,.slice none 0 0,.slice none 0 0],.int .i64 0])∧Ext w w':=by
 go_enter Tryd.func15,Tryd.ntmps15
 go_wp2_with fail
 refine(HV.out _ (((((((Mem.start w).blkNew TDk #[.int .i64 P,.slice q m c2,.slice q2 m2 d2] (w.heap.size) (by simp))).blkNew TBk #[.int .i64 b0,.int .i64 b1,.int .i64 b2,.int .i64 b3] (w.heap.size+1) (by simp))).blkNew TDk #[.int .i64 0,.slice none 0 0,.slice none 0 0] (w.heap.size+1+1) (by simp))).ext).mono ?_
 rintro e w1 ⟨rfl,hx1⟩
 have M1:=Lib.hid ((((((((Mem.start w).blkNew TDk #[.int .i64 P,.slice q m c2,.slice q2 m2 d2] (w.heap.size) (by simp))).blkNew TBk #[.int .i64 b0,.int .i64 b1,.int .i64 b2,.int .i64 b3] (w.heap.size+1) (by simp))).blkNew TDk #[.int .i64 0,.slice none 0 0,.slice none 0 0] (w.heap.size+1+1) (by simp))).adv hx1)
 have lt1_0:w.heap.size+1+1<w1.heap.size:=(M1.out.lt (i:=0) rfl rfl).2
 have lt1_1:w.heap.size+1<w1.heap.size:=(M1.out.lt (i:=1) rfl rfl).2
 have lt1_2:w.heap.size<w1.heap.size:=(M1.out.lt (i:=2) rfl rfl).2
 clear hx1
 clear HV
 obtain⟨cz0,czf0,cz1,czf1,cz2,czf2⟩:=(M1.out.blk (i:=0) rfl).trif
 go_wp2
 clear cz0 czf0 cz1 czf1 cz2 czf2 lt1_0 lt1_1 lt1_2
 have M2:=Lib.hid (((M1.out).put3 (i:=0) rfl (.int .i64 0) (.slice none 0 0) (.slice none 0 0)))
 generalize hwz:World.setCell _ _ _=wz
 rw[hwz]at M2
 clear hwz M1
 obtain⟨y0,y1,y2⟩:=(M2.out.blk (i:=0) rfl).tri
 exact bodyPost_ret (v:= .tuple #[.agg #[.int .i64 0,.slice none 0 0,.slice none 0 0],.int .i64 0]) (by simp[results,Tryd.results15,go_sem, *]) rfl ⟨rfl,M2.out.ext⟩
set_option maxRecDepth 100000 in
set_option maxHeartbeats 8000000 in
theorem implDa_inv (P:Int)(q:Option Addr)(m c2:Nat)(q2:Option Addr)(m2 d2:Nat)(b0 b1 b2 b3:Int)(T R:List Visit4)(w:World)(HV:Hid (∀w',Ext w w'→Calls Tryd.prog 10 #[.agg #[.int .i64 P,.slice q m c2,.slice q2 m2 d2]] w' fun e w''=>e= .returned (.bool true)∧Ext w' w''))
  (HC:Hid (∀w',Ext w w'→Calls Tryd.prog 53 #[.agg #[.int .i64 P,.slice q m c2,.slice q2 m2 d2]] w' fun e w''=> ∃q5 c5 q6 c6,e= .returned (.agg #[.int .i64 P,.slice q5 m c5,.slice q6 m2 c6])∧Mem w' w'' [ownI w'.heap.size TBk 4 (q5) (m) (c5) (T.flatMap visitCells),ownI w'.heap.size TBk 4 (q6) (m2) (c6) (R.flatMap visitCells)]))
  (HBV:Hid (∀w',Calls Tryd.prog 41 #[bookV b0 b1 b2 b3] w' fun e w''=>e= .returned (.bool false)∧Ext w' w'')):
  Calls Tryd.prog 15 #[.agg #[.int .i64 P,.slice q m c2,.slice q2 m2 d2],bookV b0 b1 b2 b3] w fun e w'=> ∃qa ca qb cb,e= .returned (.tuple #[.agg #[.int .i64 P,.slice qa m ca,.slice qb m2 cb],.int .i64 0])∧Mem w w' [ownI w.heap.size TBk 4 (qa) (m) (ca) (T.flatMap visitCells),ownI w.heap.size TBk 4 (qb) (m2) (cb) (R.flatMap visitCells)]:=by
 go_enter Tryd.func15,Tryd.ntmps15
 go_wp2_with fail
 refine(HV.out _ (((((((Mem.start w).blkNew TDk #[.int .i64 P,.slice q m c2,.slice q2 m2 d2] (w.heap.size) (by simp))).blkNew TBk #[.int .i64 b0,.int .i64 b1,.int .i64 b2,.int .i64 b3] (w.heap.size+1) (by simp))).blkNew TDk #[.int .i64 0,.slice none 0 0,.slice none 0 0] (w.heap.size+1+1) (by simp))).ext).mono ?_
 rintro e w1 ⟨rfl,hx1⟩
 have M1:=Lib.hid ((((((((Mem.start w).blkNew TDk #[.int .i64 P,.slice q m c2,.slice q2 m2 d2] (w.heap.size) (by simp))).blkNew TBk #[.int .i64 b0,.int .i64 b1,.int .i64 b2,.int .i64 b3] (w.heap.size+1) (by simp))).blkNew TDk #[.int .i64 0,.slice none 0 0,.slice none 0 0] (w.heap.size+1+1) (by simp))).adv hx1)
 have lt1_0:w.heap.size+1+1<w1.heap.size:=(M1.out.lt (i:=0) rfl rfl).2
 have lt1_1:w.heap.size+1<w1.heap.size:=(M1.out.lt (i:=1) rfl rfl).2
 have lt1_2:w.heap.size<w1.heap.size:=(M1.out.lt (i:=2) rfl rfl).2
 clear hx1
 clear HV
 obtain⟨ca0,ca1,ca2⟩:=(M1.out.blk (i:=2) rfl).tri
 go_wp2_with fail
 clear ca0 ca1 ca2
 refine(HC.out _ (M1.out).ext).mono ?_
 rintro e w2 ⟨q5,c5,q6,c6,rfl,hm2⟩
 have M2:=Lib.hid ((M1.out).call2 hm2)
 clear M1
 clear lt1_0 lt1_1 lt1_2
 have lt2_2:w.heap.size+1+1<w2.heap.size:=(M2.out.lt (i:=2) rfl rfl).2
 have lt2_3:w.heap.size+1<w2.heap.size:=(M2.out.lt (i:=3) rfl rfl).2
 have lt2_4:w.heap.size<w2.heap.size:=(M2.out.lt (i:=4) rfl rfl).2
 clear hm2
 clear HC
 have cb0:w2.cell? ⟨w.heap.size+1,0,none⟩=some (.int .i64 b0):=(M2.out.blk (i:=3) rfl).cell 0
 have cb1:w2.cell? ⟨w.heap.size+1,1,none⟩=some (.int .i64 b1):=(M2.out.blk (i:=3) rfl).cell 1
 have cb2:w2.cell? ⟨w.heap.size+1,2,none⟩=some (.int .i64 b2):=(M2.out.blk (i:=3) rfl).cell 2
 have cb3:w2.cell? ⟨w.heap.size+1,3,none⟩=some (.int .i64 b3):=(M2.out.blk (i:=3) rfl).cell 3
 go_wp2_with fail
 clear cb0 cb1 cb2 cb3
 refine(HBV.out _).mono ?_
 rintro e w3 ⟨rfl,hx3⟩
 have M3:=Lib.hid ((((M2.out).blkNew TDk #[.int .i64 P,.slice q5 m c5,.slice q6 m2 c6] (w2.heap.size) (by simp))).adv hx3)
 clear M2
 clear lt2_2 lt2_3 lt2_4
 have lt3_0:w2.heap.size<w3.heap.size:=(M3.out.lt (i:=0) rfl rfl).2
 have lt3_3:w.heap.size+1+1<w3.heap.size:=(M3.out.lt (i:=3) rfl rfl).2
 have lt3_4:w.heap.size+1<w3.heap.size:=(M3.out.lt (i:=4) rfl rfl).2
 have lt3_5:w.heap.size<w3.heap.size:=(M3.out.lt (i:=5) rfl rfl).2
 clear hx3
 obtain⟨ca0,ca1,ca2⟩:=(M3.out.blk (i:=0) rfl).tri
 obtain⟨cz0,czf0,cz1,czf1,cz2,czf2⟩:=(M3.out.blk (i:=3) rfl).trif
 have ne0_1a: ¬(w2.heap.size=w.heap.size+1+1):=M3.out.ne (i:=0) (j:=3) (by omega) rfl rfl rfl rfl
 have ne0_1b: ¬(w.heap.size+1+1=w2.heap.size):=fun h=>ne0_1a h.symm
 go_wp2
 clear ca0 ca1 ca2 cz0 czf0 cz1 czf1 cz2 czf2 ne0_1a ne0_1b lt3_0 lt3_3 lt3_4 lt3_5
 have M4:=Lib.hid (((M3.out).put3 (i:=3) rfl (.int .i64 P) (.slice q5 m c5) (.slice q6 m2 c6)))
 generalize hwz:World.setCell _ _ _=wz
 rw[hwz]at M4
 clear hwz M3
 obtain⟨y0,y1,y2⟩:=(M4.out.blk (i:=3) rfl).tri
 exact bodyPost_ret (v:= .tuple #[.agg #[.int .i64 P,.slice q5 m c5,.slice q6 m2 c6],.int .i64 0]) (by simp[results,Tryd.results15,go_sem, *]) rfl ⟨q5,c5,q6,c6,rfl,show Mem w wz [ownI w.heap.size TBk 4 (q5) (m) (c5) (T.flatMap visitCells),ownI w.heap.size TBk 4 (q6) (m2) (c6) (R.flatMap visitCells)]from(M4.out.pick [1,2] (by decide) rfl)⟩
set_option maxRecDepth 100000 in
set_option maxHeartbeats 8000000 in
theorem implDa_t (P:Int)(q:Option Addr)(m c2:Nat)(q2:Option Addr)(m2 d2:Nat)(b0 b1 b2 b3:Int)(T R:List Visit4)(w:World)(X:Int)(hX:0≤X)
  (HV:Hid (∀w',Ext w w'→Calls Tryd.prog 10 #[.agg #[.int .i64 P,.slice q m c2,.slice q2 m2 d2]] w' fun e w''=>e= .returned (.bool true)∧Ext w' w''))
  (HC:Hid (∀w',Ext w w'→Calls Tryd.prog 53 #[.agg #[.int .i64 P,.slice q m c2,.slice q2 m2 d2]] w' fun e w''=> ∃q5 c5 q6 c6,e= .returned (.agg #[.int .i64 P,.slice q5 m c5,.slice q6 m2 c6])∧Mem w' w'' [ownI w'.heap.size TBk 4 (q5) (m) (c5) (T.flatMap visitCells),ownI w'.heap.size TBk 4 (q6) (m2) (c6) (R.flatMap visitCells)]))
  (HBV:Hid (∀w',Calls Tryd.prog 41 #[bookV b0 b1 b2 b3] w' fun e w''=>e= .returned (.bool true)∧Ext w' w''))
  (HF1:Hid (∀w',Ext w w'→Calls Tryd.prog 42 #[.slice q m c2,.int .i64 b0] w' fun e w''=>e= .returned (.int .i64 X)∧Ext w' w'')):
  Calls Tryd.prog 15 #[.agg #[.int .i64 P,.slice q m c2,.slice q2 m2 d2],bookV b0 b1 b2 b3] w fun e w'=> ∃qa ca qb cb,e= .returned (.tuple #[.agg #[.int .i64 P,.slice qa m ca,.slice qb m2 cb],.int .i64 0])∧Mem w w' [ownI w.heap.size TBk 4 (qa) (m) (ca) (T.flatMap visitCells),ownI w.heap.size TBk 4 (qb) (m2) (cb) (R.flatMap visitCells)]:=by
 go_enter Tryd.func15,Tryd.ntmps15
 go_wp2_with fail
 refine(HV.out _ (((((((Mem.start w).blkNew TDk #[.int .i64 P,.slice q m c2,.slice q2 m2 d2] (w.heap.size) (by simp))).blkNew TBk #[.int .i64 b0,.int .i64 b1,.int .i64 b2,.int .i64 b3] (w.heap.size+1) (by simp))).blkNew TDk #[.int .i64 0,.slice none 0 0,.slice none 0 0] (w.heap.size+1+1) (by simp))).ext).mono ?_
 rintro e w1 ⟨rfl,hx1⟩
 have M1:=Lib.hid ((((((((Mem.start w).blkNew TDk #[.int .i64 P,.slice q m c2,.slice q2 m2 d2] (w.heap.size) (by simp))).blkNew TBk #[.int .i64 b0,.int .i64 b1,.int .i64 b2,.int .i64 b3] (w.heap.size+1) (by simp))).blkNew TDk #[.int .i64 0,.slice none 0 0,.slice none 0 0] (w.heap.size+1+1) (by simp))).adv hx1)
 have lt1_0:w.heap.size+1+1<w1.heap.size:=(M1.out.lt (i:=0) rfl rfl).2
 have lt1_1:w.heap.size+1<w1.heap.size:=(M1.out.lt (i:=1) rfl rfl).2
 have lt1_2:w.heap.size<w1.heap.size:=(M1.out.lt (i:=2) rfl rfl).2
 clear hx1
 clear HV
 obtain⟨ca0,ca1,ca2⟩:=(M1.out.blk (i:=2) rfl).tri
 go_wp2_with fail
 clear ca0 ca1 ca2
 refine(HC.out _ (M1.out).ext).mono ?_
 rintro e w2 ⟨q5,c5,q6,c6,rfl,hm2⟩
 have M2:=Lib.hid ((M1.out).call2 hm2)
 clear M1
 clear lt1_0 lt1_1 lt1_2
 have lt2_2:w.heap.size+1+1<w2.heap.size:=(M2.out.lt (i:=2) rfl rfl).2
 have lt2_3:w.heap.size+1<w2.heap.size:=(M2.out.lt (i:=3) rfl rfl).2
 have lt2_4:w.heap.size<w2.heap.size:=(M2.out.lt (i:=4) rfl rfl).2
 clear hm2
 clear HC
 have cb0:w2.cell? ⟨w.heap.size+1,0,none⟩=some (.int .i64 b0):=(M2.out.blk (i:=3) rfl).cell 0
 have cb1:w2.cell? ⟨w.heap.size+1,1,none⟩=some (.int .i64 b1):=(M2.out.blk (i:=3) rfl).cell 1
 have cb2:w2.cell? ⟨w.heap.size+1,2,none⟩=some (.int .i64 b2):=(M2.out.blk (i:=3) rfl).cell 2
 have cb3:w2.cell? ⟨w.heap.size+1,3,none⟩=some (.int .i64 b3):=(M2.out.blk (i:=3) rfl).cell 3
 go_wp2_with fail
 clear cb0 cb1 cb2 cb3
 refine(HBV.out _).mono ?_
 rintro e w3 ⟨rfl,hx3⟩
 have M3:=Lib.hid ((((M2.out).blkNew TDk #[.int .i64 P,.slice q5 m c5,.slice q6 m2 c6] (w2.heap.size) (by simp))).adv hx3)
 clear M2
 clear lt2_2 lt2_3 lt2_4
 have lt3_0:w2.heap.size<w3.heap.size:=(M3.out.lt (i:=0) rfl rfl).2
 have lt3_3:w.heap.size+1+1<w3.heap.size:=(M3.out.lt (i:=3) rfl rfl).2
 have lt3_4:w.heap.size+1<w3.heap.size:=(M3.out.lt (i:=4) rfl rfl).2
 have lt3_5:w.heap.size<w3.heap.size:=(M3.out.lt (i:=5) rfl rfl).2
 clear hx3
 have ca1:w3.cell? ⟨w.heap.size,1,none⟩=some (.slice q m c2):=(M3.out.blk (i:=5) rfl).cell 1
 have cb0:w3.cell? ⟨w.heap.size+1,0,none⟩=some (.int .i64 b0):=(M3.out.blk (i:=4) rfl).cell 0
 go_wp2_with fail
 clear ca1 cb0
 refine(HF1.out _ (M3.out).ext).mono ?_
 rintro e w4 ⟨rfl,hx4⟩
 have M4:=Lib.hid ((M3.out).adv hx4)
 clear M3
 clear lt3_0 lt3_3 lt3_4 lt3_5
 have lt4_0:w2.heap.size<w4.heap.size:=(M4.out.lt (i:=0) rfl rfl).2
 have lt4_3:w.heap.size+1+1<w4.heap.size:=(M4.out.lt (i:=3) rfl rfl).2
 have lt4_4:w.heap.size+1<w4.heap.size:=(M4.out.lt (i:=4) rfl rfl).2
 have lt4_5:w.heap.size<w4.heap.size:=(M4.out.lt (i:=5) rfl rfl).2
 clear hx4
 obtain⟨ca0,ca1,ca2⟩:=(M4.out.blk (i:=0) rfl).tri
 obtain⟨cz0,czf0,cz1,czf1,cz2,czf2⟩:=(M4.out.blk (i:=3) rfl).trif
 have ne0_1a: ¬(w2.heap.size=w.heap.size+1+1):=M4.out.ne (i:=0) (j:=3) (by omega) rfl rfl rfl rfl
 have ne0_1b: ¬(w.heap.size+1+1=w2.heap.size):=fun h=>ne0_1a h.symm
 go_wp2
 clear ca0 ca1 ca2 cz0 czf0 cz1 czf1 cz2 czf2 ne0_1a ne0_1b lt4_0 lt4_3 lt4_4 lt4_5
 have M5:=Lib.hid (((M4.out).put3 (i:=3) rfl (.int .i64 P) (.slice q5 m c5) (.slice q6 m2 c6)))
 generalize hwz:World.setCell _ _ _=wz
 rw[hwz]at M5
 clear hwz M4
 obtain⟨y0,y1,y2⟩:=(M5.out.blk (i:=3) rfl).tri
 exact bodyPost_ret (v:= .tuple #[.agg #[.int .i64 P,.slice q5 m c5,.slice q6 m2 c6],.int .i64 0]) (by simp[results,Tryd.results15,go_sem, *]) rfl ⟨q5,c5,q6,c6,rfl,show Mem w wz [ownI w.heap.size TBk 4 (q5) (m) (c5) (T.flatMap visitCells),ownI w.heap.size TBk 4 (q6) (m2) (c6) (R.flatMap visitCells)]from(M5.out.pick [1,2] (by decide) rfl)⟩
set_option maxRecDepth 100000 in
set_option maxHeartbeats 8000000 in
theorem implDa_r (P:Int)(q:Option Addr)(m c2:Nat)(q2:Option Addr)(m2 d2:Nat)(b0 b1 b2 b3:Int)(T R:List Visit4)(w:World)(X:Int)(hX:0≤X)
  (HV:Hid (∀w',Ext w w'→Calls Tryd.prog 10 #[.agg #[.int .i64 P,.slice q m c2,.slice q2 m2 d2]] w' fun e w''=>e= .returned (.bool true)∧Ext w' w''))
  (HC:Hid (∀w',Ext w w'→Calls Tryd.prog 53 #[.agg #[.int .i64 P,.slice q m c2,.slice q2 m2 d2]] w' fun e w''=> ∃q5 c5 q6 c6,e= .returned (.agg #[.int .i64 P,.slice q5 m c5,.slice q6 m2 c6])∧Mem w' w'' [ownI w'.heap.size TBk 4 (q5) (m) (c5) (T.flatMap visitCells),ownI w'.heap.size TBk 4 (q6) (m2) (c6) (R.flatMap visitCells)]))
  (HBV:Hid (∀w',Calls Tryd.prog 41 #[bookV b0 b1 b2 b3] w' fun e w''=>e= .returned (.bool true)∧Ext w' w''))
  (HF1:Hid (∀w',Ext w w'→Calls Tryd.prog 42 #[.slice q m c2,.int .i64 b0] w' fun e w''=>e= .returned (.int .i64 (-1))∧Ext w' w''))
  (HF2:Hid (∀w',Ext w w'→Calls Tryd.prog 42 #[.slice q2 m2 d2,.int .i64 b0] w' fun e w''=>e= .returned (.int .i64 X)∧Ext w' w'')):
  Calls Tryd.prog 15 #[.agg #[.int .i64 P,.slice q m c2,.slice q2 m2 d2],bookV b0 b1 b2 b3] w fun e w'=> ∃qa ca qb cb,e= .returned (.tuple #[.agg #[.int .i64 P,.slice qa m ca,.slice qb m2 cb],.int .i64 0])∧Mem w w' [ownI w.heap.size TBk 4 (qa) (m) (ca) (T.flatMap visitCells),ownI w.heap.size TBk 4 (qb) (m2) (cb) (R.flatMap visitCells)]:=by
 go_enter Tryd.func15,Tryd.ntmps15
 go_wp2_with fail
 refine(HV.out _ (((((((Mem.start w).blkNew TDk #[.int .i64 P,.slice q m c2,.slice q2 m2 d2] (w.heap.size) (by simp))).blkNew TBk #[.int .i64 b0,.int .i64 b1,.int .i64 b2,.int .i64 b3] (w.heap.size+1) (by simp))).blkNew TDk #[.int .i64 0,.slice none 0 0,.slice none 0 0] (w.heap.size+1+1) (by simp))).ext).mono ?_
 rintro e w1 ⟨rfl,hx1⟩
 have M1:=Lib.hid ((((((((Mem.start w).blkNew TDk #[.int .i64 P,.slice q m c2,.slice q2 m2 d2] (w.heap.size) (by simp))).blkNew TBk #[.int .i64 b0,.int .i64 b1,.int .i64 b2,.int .i64 b3] (w.heap.size+1) (by simp))).blkNew TDk #[.int .i64 0,.slice none 0 0,.slice none 0 0] (w.heap.size+1+1) (by simp))).adv hx1)
 have lt1_0:w.heap.size+1+1<w1.heap.size:=(M1.out.lt (i:=0) rfl rfl).2
 have lt1_1:w.heap.size+1<w1.heap.size:=(M1.out.lt (i:=1) rfl rfl).2
 have lt1_2:w.heap.size<w1.heap.size:=(M1.out.lt (i:=2) rfl rfl).2
 clear hx1
 clear HV
 obtain⟨ca0,ca1,ca2⟩:=(M1.out.blk (i:=2) rfl).tri
 go_wp2_with fail
 clear ca0 ca1 ca2
 refine(HC.out _ (M1.out).ext).mono ?_
 rintro e w2 ⟨q5,c5,q6,c6,rfl,hm2⟩
 have M2:=Lib.hid ((M1.out).call2 hm2)
 clear M1
 clear lt1_0 lt1_1 lt1_2
 have lt2_2:w.heap.size+1+1<w2.heap.size:=(M2.out.lt (i:=2) rfl rfl).2
 have lt2_3:w.heap.size+1<w2.heap.size:=(M2.out.lt (i:=3) rfl rfl).2
 have lt2_4:w.heap.size<w2.heap.size:=(M2.out.lt (i:=4) rfl rfl).2
 clear hm2
 clear HC
 have cb0:w2.cell? ⟨w.heap.size+1,0,none⟩=some (.int .i64 b0):=(M2.out.blk (i:=3) rfl).cell 0
 have cb1:w2.cell? ⟨w.heap.size+1,1,none⟩=some (.int .i64 b1):=(M2.out.blk (i:=3) rfl).cell 1
 have cb2:w2.cell? ⟨w.heap.size+1,2,none⟩=some (.int .i64 b2):=(M2.out.blk (i:=3) rfl).cell 2
 have cb3:w2.cell? ⟨w.heap.size+1,3,none⟩=some (.int .i64 b3):=(M2.out.blk (i:=3) rfl).cell 3
 go_wp2_with fail
 clear cb0 cb1 cb2 cb3
 refine(HBV.out _).mono ?_
 rintro e w3 ⟨rfl,hx3⟩
 have M3:=Lib.hid ((((M2.out).blkNew TDk #[.int .i64 P,.slice q5 m c5,.slice q6 m2 c6] (w2.heap.size) (by simp))).adv hx3)
 clear M2
 clear lt2_2 lt2_3 lt2_4
 have lt3_0:w2.heap.size<w3.heap.size:=(M3.out.lt (i:=0) rfl rfl).2
 have lt3_3:w.heap.size+1+1<w3.heap.size:=(M3.out.lt (i:=3) rfl rfl).2
 have lt3_4:w.heap.size+1<w3.heap.size:=(M3.out.lt (i:=4) rfl rfl).2
 have lt3_5:w.heap.size<w3.heap.size:=(M3.out.lt (i:=5) rfl rfl).2
 clear hx3
 have ca1:w3.cell? ⟨w.heap.size,1,none⟩=some (.slice q m c2):=(M3.out.blk (i:=5) rfl).cell 1
 have cb0:w3.cell? ⟨w.heap.size+1,0,none⟩=some (.int .i64 b0):=(M3.out.blk (i:=4) rfl).cell 0
 go_wp2_with fail
 clear ca1 cb0
 refine(HF1.out _ (M3.out).ext).mono ?_
 rintro e w4 ⟨rfl,hx4⟩
 have M4:=Lib.hid ((M3.out).adv hx4)
 clear M3
 clear lt3_0 lt3_3 lt3_4 lt3_5
 have lt4_0:w2.heap.size<w4.heap.size:=(M4.out.lt (i:=0) rfl rfl).2
 have lt4_3:w.heap.size+1+1<w4.heap.size:=(M4.out.lt (i:=3) rfl rfl).2
 have lt4_4:w.heap.size+1<w4.heap.size:=(M4.out.lt (i:=4) rfl rfl).2
 have lt4_5:w.heap.size<w4.heap.size:=(M4.out.lt (i:=5) rfl rfl).2
 clear hx4
 have ca2:w4.cell? ⟨w.heap.size,2,none⟩=some (.slice q2 m2 d2):=(M4.out.blk (i:=5) rfl).cell 2
 have cb0:w4.cell? ⟨w.heap.size+1,0,none⟩=some (.int .i64 b0):=(M4.out.blk (i:=4) rfl).cell 0
 go_wp2_with fail
 clear ca2 cb0
 refine(HF2.out _ (M4.out).ext).mono ?_
 rintro e w5 ⟨rfl,hx5⟩
 have M5:=Lib.hid ((M4.out).adv hx5)
 clear M4
 clear lt4_0 lt4_3 lt4_4 lt4_5
 have lt5_0:w2.heap.size<w5.heap.size:=(M5.out.lt (i:=0) rfl rfl).2
 have lt5_3:w.heap.size+1+1<w5.heap.size:=(M5.out.lt (i:=3) rfl rfl).2
 have lt5_4:w.heap.size+1<w5.heap.size:=(M5.out.lt (i:=4) rfl rfl).2
 have lt5_5:w.heap.size<w5.heap.size:=(M5.out.lt (i:=5) rfl rfl).2
 clear hx5
 obtain⟨ca0,ca1,ca2⟩:=(M5.out.blk (i:=0) rfl).tri
 obtain⟨cz0,czf0,cz1,czf1,cz2,czf2⟩:=(M5.out.blk (i:=3) rfl).trif
 have ne0_1a: ¬(w2.heap.size=w.heap.size+1+1):=M5.out.ne (i:=0) (j:=3) (by omega) rfl rfl rfl rfl
 have ne0_1b: ¬(w.heap.size+1+1=w2.heap.size):=fun h=>ne0_1a h.symm
 go_wp2
 clear ca0 ca1 ca2 cz0 czf0 cz1 czf1 cz2 czf2 ne0_1a ne0_1b lt5_0 lt5_3 lt5_4 lt5_5
 have M6:=Lib.hid (((M5.out).put3 (i:=3) rfl (.int .i64 P) (.slice q5 m c5) (.slice q6 m2 c6)))
 generalize hwz:World.setCell _ _ _=wz
 rw[hwz]at M6
 clear hwz M5
 obtain⟨y0,y1,y2⟩:=(M6.out.blk (i:=3) rfl).tri
 exact bodyPost_ret (v:= .tuple #[.agg #[.int .i64 P,.slice q5 m c5,.slice q6 m2 c6],.int .i64 0]) (by simp[results,Tryd.results15,go_sem, *]) rfl ⟨q5,c5,q6,c6,rfl,show Mem w wz [ownI w.heap.size TBk 4 (q5) (m) (c5) (T.flatMap visitCells),ownI w.heap.size TBk 4 (q6) (m2) (c6) (R.flatMap visitCells)]from(M6.out.pick [1,2] (by decide) rfl)⟩
set_option maxRecDepth 100000 in
set_option maxHeartbeats 8000000 in
theorem implDa_take (P:Int)(q:Option Addr)(m c2:Nat)(q2:Option Addr)(m2 d2:Nat)(b0 b1 b2 b3:Int)(T R:List Visit4)(w:World)(xs:List Value)
  (HV:Hid (∀w',Ext w w'→Calls Tryd.prog 10 #[.agg #[.int .i64 P,.slice q m c2,.slice q2 m2 d2]] w' fun e w''=>e= .returned (.bool true)∧Ext w' w''))
  (HC:Hid (∀w',Ext w w'→Calls Tryd.prog 53 #[.agg #[.int .i64 P,.slice q m c2,.slice q2 m2 d2]] w' fun e w''=> ∃q5 c5 q6 c6,e= .returned (.agg #[.int .i64 P,.slice q5 m c5,.slice q6 m2 c6])∧Mem w' w'' [ownI w'.heap.size TBk 4 (q5) (m) (c5) (T.flatMap visitCells),ownI w'.heap.size TBk 4 (q6) (m2) (c6) (R.flatMap visitCells)]))
  (HBV:Hid (∀w',Calls Tryd.prog 41 #[bookV b0 b1 b2 b3] w' fun e w''=>e= .returned (.bool true)∧Ext w' w''))
  (HF1:Hid (∀w',Ext w w'→Calls Tryd.prog 42 #[.slice q m c2,.int .i64 b0] w' fun e w''=>e= .returned (.int .i64 (-1))∧Ext w' w''))
  (HF2:Hid (∀w',Ext w w'→Calls Tryd.prog 42 #[.slice q2 m2 d2,.int .i64 b0] w' fun e w''=>e= .returned (.int .i64 (-1))∧Ext w' w''))
  (HFI:Hid (∀w',Ext w w'→Calls Tryd.prog 43 #[.agg #[.int .i64 P,.slice q m c2,.slice q2 m2 d2],bookV b0 b1 b2 b3] w' fun e w''=>e= .returned (.bool true)∧Ext w' w''))
  (HPU:Hid (∀w',Ext w w'→Calls Tryd.prog 54 #[.slice q m c2,bookV b0 b1 b2 b3] w' fun e w''=> ∃q' c',e= .returned (.slice q' (m+1) c')∧w''.ownsRow w'.heap.size TBk 4 (.slice q' (m+1) c') (m+1) (xs)∧Ext w' w'')):
  Calls Tryd.prog 15 #[.agg #[.int .i64 P,.slice q m c2,.slice q2 m2 d2],bookV b0 b1 b2 b3] w fun e w'=> ∃qa ca qb cb,e= .returned (.tuple #[.agg #[.int .i64 P,.slice qa (m+1) ca,.slice qb m2 cb],.int .i64 1])∧Mem w w' [ownI w.heap.size TBk 4 (qa) (m+1) (ca) (xs),ownI w.heap.size TBk 4 (qb) (m2) (cb) (R.flatMap visitCells)]:=by
 go_enter Tryd.func15,Tryd.ntmps15
 go_wp2_with fail
 refine(HV.out _ (((((((Mem.start w).blkNew TDk #[.int .i64 P,.slice q m c2,.slice q2 m2 d2] (w.heap.size) (by simp))).blkNew TBk #[.int .i64 b0,.int .i64 b1,.int .i64 b2,.int .i64 b3] (w.heap.size+1) (by simp))).blkNew TDk #[.int .i64 0,.slice none 0 0,.slice none 0 0] (w.heap.size+1+1) (by simp))).ext).mono ?_
 rintro e w1 ⟨rfl,hx1⟩
 have M1:=Lib.hid ((((((((Mem.start w).blkNew TDk #[.int .i64 P,.slice q m c2,.slice q2 m2 d2] (w.heap.size) (by simp))).blkNew TBk #[.int .i64 b0,.int .i64 b1,.int .i64 b2,.int .i64 b3] (w.heap.size+1) (by simp))).blkNew TDk #[.int .i64 0,.slice none 0 0,.slice none 0 0] (w.heap.size+1+1) (by simp))).adv hx1)
 have lt1_0:w.heap.size+1+1<w1.heap.size:=(M1.out.lt (i:=0) rfl rfl).2
 have lt1_1:w.heap.size+1<w1.heap.size:=(M1.out.lt (i:=1) rfl rfl).2
 have lt1_2:w.heap.size<w1.heap.size:=(M1.out.lt (i:=2) rfl rfl).2
 clear hx1
 clear HV
 obtain⟨ca0,ca1,ca2⟩:=(M1.out.blk (i:=2) rfl).tri
 go_wp2_with fail
 clear ca0 ca1 ca2
 refine(HC.out _ (M1.out).ext).mono ?_
 rintro e w2 ⟨q5,c5,q6,c6,rfl,hm2⟩
 have M2:=Lib.hid ((M1.out).call2 hm2)
 clear M1
 clear lt1_0 lt1_1 lt1_2
 have lt2_2:w.heap.size+1+1<w2.heap.size:=(M2.out.lt (i:=2) rfl rfl).2
 have lt2_3:w.heap.size+1<w2.heap.size:=(M2.out.lt (i:=3) rfl rfl).2
 have lt2_4:w.heap.size<w2.heap.size:=(M2.out.lt (i:=4) rfl rfl).2
 clear hm2
 clear HC
 have cb0:w2.cell? ⟨w.heap.size+1,0,none⟩=some (.int .i64 b0):=(M2.out.blk (i:=3) rfl).cell 0
 have cb1:w2.cell? ⟨w.heap.size+1,1,none⟩=some (.int .i64 b1):=(M2.out.blk (i:=3) rfl).cell 1
 have cb2:w2.cell? ⟨w.heap.size+1,2,none⟩=some (.int .i64 b2):=(M2.out.blk (i:=3) rfl).cell 2
 have cb3:w2.cell? ⟨w.heap.size+1,3,none⟩=some (.int .i64 b3):=(M2.out.blk (i:=3) rfl).cell 3
 go_wp2_with fail
 clear cb0 cb1 cb2 cb3
 refine(HBV.out _).mono ?_
 rintro e w3 ⟨rfl,hx3⟩
 have M3:=Lib.hid ((((M2.out).blkNew TDk #[.int .i64 P,.slice q5 m c5,.slice q6 m2 c6] (w2.heap.size) (by simp))).adv hx3)
 clear M2
 clear lt2_2 lt2_3 lt2_4
 have lt3_0:w2.heap.size<w3.heap.size:=(M3.out.lt (i:=0) rfl rfl).2
 have lt3_3:w.heap.size+1+1<w3.heap.size:=(M3.out.lt (i:=3) rfl rfl).2
 have lt3_4:w.heap.size+1<w3.heap.size:=(M3.out.lt (i:=4) rfl rfl).2
 have lt3_5:w.heap.size<w3.heap.size:=(M3.out.lt (i:=5) rfl rfl).2
 clear hx3
 have ca1:w3.cell? ⟨w.heap.size,1,none⟩=some (.slice q m c2):=(M3.out.blk (i:=5) rfl).cell 1
 have cb0:w3.cell? ⟨w.heap.size+1,0,none⟩=some (.int .i64 b0):=(M3.out.blk (i:=4) rfl).cell 0
 go_wp2_with fail
 clear ca1 cb0
 refine(HF1.out _ (M3.out).ext).mono ?_
 rintro e w4 ⟨rfl,hx4⟩
 have M4:=Lib.hid ((M3.out).adv hx4)
 clear M3
 clear lt3_0 lt3_3 lt3_4 lt3_5
 have lt4_0:w2.heap.size<w4.heap.size:=(M4.out.lt (i:=0) rfl rfl).2
 have lt4_3:w.heap.size+1+1<w4.heap.size:=(M4.out.lt (i:=3) rfl rfl).2
 have lt4_4:w.heap.size+1<w4.heap.size:=(M4.out.lt (i:=4) rfl rfl).2
 have lt4_5:w.heap.size<w4.heap.size:=(M4.out.lt (i:=5) rfl rfl).2
 clear hx4
 have ca2:w4.cell? ⟨w.heap.size,2,none⟩=some (.slice q2 m2 d2):=(M4.out.blk (i:=5) rfl).cell 2
 have cb0:w4.cell? ⟨w.heap.size+1,0,none⟩=some (.int .i64 b0):=(M4.out.blk (i:=4) rfl).cell 0
 go_wp2_with fail
 clear ca2 cb0
 refine(HF2.out _ (M4.out).ext).mono ?_
 rintro e w5 ⟨rfl,hx5⟩
 have M5:=Lib.hid ((M4.out).adv hx5)
 clear M4
 clear lt4_0 lt4_3 lt4_4 lt4_5
 have lt5_0:w2.heap.size<w5.heap.size:=(M5.out.lt (i:=0) rfl rfl).2
 have lt5_3:w.heap.size+1+1<w5.heap.size:=(M5.out.lt (i:=3) rfl rfl).2
 have lt5_4:w.heap.size+1<w5.heap.size:=(M5.out.lt (i:=4) rfl rfl).2
 have lt5_5:w.heap.size<w5.heap.size:=(M5.out.lt (i:=5) rfl rfl).2
 clear hx5
 obtain⟨ca0,ca1,ca2⟩:=(M5.out.blk (i:=5) rfl).tri
 have cb0:w5.cell? ⟨w.heap.size+1,0,none⟩=some (.int .i64 b0):=(M5.out.blk (i:=4) rfl).cell 0
 have cb1:w5.cell? ⟨w.heap.size+1,1,none⟩=some (.int .i64 b1):=(M5.out.blk (i:=4) rfl).cell 1
 have cb2:w5.cell? ⟨w.heap.size+1,2,none⟩=some (.int .i64 b2):=(M5.out.blk (i:=4) rfl).cell 2
 have cb3:w5.cell? ⟨w.heap.size+1,3,none⟩=some (.int .i64 b3):=(M5.out.blk (i:=4) rfl).cell 3
 go_wp2_with fail
 clear ca0 ca1 ca2 cb0 cb1 cb2 cb3
 refine(HFI.out _ (M5.out).ext).mono ?_
 rintro e w6 ⟨rfl,hx6⟩
 have M6:=Lib.hid ((M5.out).adv hx6)
 clear M5
 clear lt5_0 lt5_3 lt5_4 lt5_5
 have lt6_0:w2.heap.size<w6.heap.size:=(M6.out.lt (i:=0) rfl rfl).2
 have lt6_3:w.heap.size+1+1<w6.heap.size:=(M6.out.lt (i:=3) rfl rfl).2
 have lt6_4:w.heap.size+1<w6.heap.size:=(M6.out.lt (i:=4) rfl rfl).2
 have lt6_5:w.heap.size<w6.heap.size:=(M6.out.lt (i:=5) rfl rfl).2
 clear hx6
 have ca1:w6.cell? ⟨w.heap.size,1,none⟩=some (.slice q m c2):=(M6.out.blk (i:=5) rfl).cell 1
 have cb0:w6.cell? ⟨w.heap.size+1,0,none⟩=some (.int .i64 b0):=(M6.out.blk (i:=4) rfl).cell 0
 have cb1:w6.cell? ⟨w.heap.size+1,1,none⟩=some (.int .i64 b1):=(M6.out.blk (i:=4) rfl).cell 1
 have cb2:w6.cell? ⟨w.heap.size+1,2,none⟩=some (.int .i64 b2):=(M6.out.blk (i:=4) rfl).cell 2
 have cb3:w6.cell? ⟨w.heap.size+1,3,none⟩=some (.int .i64 b3):=(M6.out.blk (i:=4) rfl).cell 3
 go_wp2_with fail
 clear ca1 cb0 cb1 cb2 cb3
 refine(HPU.out _ (M6.out).ext).mono ?_
 rintro e w7 ⟨q7,c7,rfl,ho7,hx7⟩
 have M7:=Lib.hid ((M6.out).call hx7 ho7)
 clear M6
 clear lt6_0 lt6_3 lt6_4 lt6_5
 have lt7_1:w2.heap.size<w7.heap.size:=(M7.out.lt (i:=1) rfl rfl).2
 have lt7_4:w.heap.size+1+1<w7.heap.size:=(M7.out.lt (i:=4) rfl rfl).2
 have lt7_5:w.heap.size+1<w7.heap.size:=(M7.out.lt (i:=5) rfl rfl).2
 have lt7_6:w.heap.size<w7.heap.size:=(M7.out.lt (i:=6) rfl rfl).2
 clear hx7 ho7
 obtain⟨ca0,ca1,ca2⟩:=(M7.out.blk (i:=1) rfl).tri
 have cq1:w7.cell? ⟨w2.heap.size,1,none⟩=some (.slice q5 m c5):=(M7.out.blk (i:=1) rfl).cell 1
 have cqf1:w7.frozen? ⟨w2.heap.size,1,none⟩=false:=(M7.out.blk (i:=1) rfl).frozen 1
 obtain⟨cz0,czf0,cz1,czf1,cz2,czf2⟩:=(M7.out.blk (i:=4) rfl).trif
 have ne0_1a: ¬(w2.heap.size=w.heap.size+1+1):=M7.out.ne (i:=1) (j:=4) (by omega) rfl rfl rfl rfl
 have ne0_1b: ¬(w.heap.size+1+1=w2.heap.size):=fun h=>ne0_1a h.symm
 have M8:=Lib.hid (show Mem w (w7.setCell ⟨w2.heap.size,1,none⟩ (.slice q7 (m+1) c7)) [ownI w.heap.size TBk 4 (q7) (m+1) (c7) (xs),blkI w.heap.size (w2.heap.size) TDk #[.int .i64 P,.slice q7 (m+1) c7,.slice q6 m2 c6],ownI w.heap.size TBk 4 (q5) (m) (c5) (T.flatMap visitCells),ownI w.heap.size TBk 4 (q6) (m2) (c6) (R.flatMap visitCells),blkI w.heap.size (w.heap.size+1+1) TDk #[.int .i64 0,.slice none 0 0,.slice none 0 0],blkI w.heap.size (w.heap.size+1) TBk #[.int .i64 b0,.int .i64 b1,.int .i64 b2,.int .i64 b3],blkI w.heap.size (w.heap.size) TDk #[.int .i64 P,.slice q m c2,.slice q2 m2 d2]]from((M7.out).store (i:=1) rfl 1 (.slice q7 (m+1) c7)))
 go_wp2
 clear ca0 ca1 ca2 cq1 cqf1 cz0 czf0 cz1 czf1 cz2 czf2 ne0_1a ne0_1b lt7_1 lt7_4 lt7_5 lt7_6
 have M9:=Lib.hid (((M8.out).put3 (i:=4) rfl (.int .i64 P) (.slice q7 (m+1) c7) (.slice q6 m2 c6)))
 generalize hwz:World.setCell _ _ _=wz
 rw[hwz]at M9
 clear hwz M7 M8
 obtain⟨y0,y1,y2⟩:=(M9.out.blk (i:=4) rfl).tri
 exact bodyPost_ret (v:= .tuple #[.agg #[.int .i64 P,.slice q7 (m+1) c7,.slice q6 m2 c6],.int .i64 1]) (by simp[results,Tryd.results15,go_sem, *]) rfl ⟨q7,c7,q6,c6,rfl,show Mem w wz [ownI w.heap.size TBk 4 (q7) (m+1) (c7) (xs),ownI w.heap.size TBk 4 (q6) (m2) (c6) (R.flatMap visitCells)]from(M9.out.pick [0,3] (by decide) rfl)⟩
set_option maxRecDepth 100000 in
set_option maxHeartbeats 8000000 in
theorem implDa_full (P:Int)(q:Option Addr)(m c2:Nat)(q2:Option Addr)(d2:Nat)(b0 b1 b2 b3:Int)(T R:List Visit4)(w:World)(HV:Hid (∀w',Ext w w'→Calls Tryd.prog 10 #[.agg #[.int .i64 P,.slice q m c2,.slice q2 5 d2]] w' fun e w''=>e= .returned (.bool true)∧Ext w' w''))
  (HC:Hid (∀w',Ext w w'→Calls Tryd.prog 53 #[.agg #[.int .i64 P,.slice q m c2,.slice q2 5 d2]] w' fun e w''=> ∃q5 c5 q6 c6,e= .returned (.agg #[.int .i64 P,.slice q5 m c5,.slice q6 5 c6])∧Mem w' w'' [ownI w'.heap.size TBk 4 (q5) (m) (c5) (T.flatMap visitCells),ownI w'.heap.size TBk 4 (q6) (5) (c6) (R.flatMap visitCells)]))
  (HBV:Hid (∀w',Calls Tryd.prog 41 #[bookV b0 b1 b2 b3] w' fun e w''=>e= .returned (.bool true)∧Ext w' w''))
  (HF1:Hid (∀w',Ext w w'→Calls Tryd.prog 42 #[.slice q m c2,.int .i64 b0] w' fun e w''=>e= .returned (.int .i64 (-1))∧Ext w' w''))
  (HF2:Hid (∀w',Ext w w'→Calls Tryd.prog 42 #[.slice q2 5 d2,.int .i64 b0] w' fun e w''=>e= .returned (.int .i64 (-1))∧Ext w' w''))
  (HFI:Hid (∀w',Ext w w'→Calls Tryd.prog 43 #[.agg #[.int .i64 P,.slice q m c2,.slice q2 5 d2],bookV b0 b1 b2 b3] w' fun e w''=>e= .returned (.bool false)∧Ext w' w'')):
  Calls Tryd.prog 15 #[.agg #[.int .i64 P,.slice q m c2,.slice q2 5 d2],bookV b0 b1 b2 b3] w fun e w'=> ∃qa ca qb cb,e= .returned (.tuple #[.agg #[.int .i64 P,.slice qa m ca,.slice qb 5 cb],.int .i64 0])∧Mem w w' [ownI w.heap.size TBk 4 (qa) (m) (ca) (T.flatMap visitCells),ownI w.heap.size TBk 4 (qb) (5) (cb) (R.flatMap visitCells)]:=by
 go_enter Tryd.func15,Tryd.ntmps15
 go_wp2_with fail
 refine(HV.out _ (((((((Mem.start w).blkNew TDk #[.int .i64 P,.slice q m c2,.slice q2 5 d2] (w.heap.size) (by simp))).blkNew TBk #[.int .i64 b0,.int .i64 b1,.int .i64 b2,.int .i64 b3] (w.heap.size+1) (by simp))).blkNew TDk #[.int .i64 0,.slice none 0 0,.slice none 0 0] (w.heap.size+1+1) (by simp))).ext).mono ?_
 rintro e w1 ⟨rfl,hx1⟩
 have M1:=Lib.hid ((((((((Mem.start w).blkNew TDk #[.int .i64 P,.slice q m c2,.slice q2 5 d2] (w.heap.size) (by simp))).blkNew TBk #[.int .i64 b0,.int .i64 b1,.int .i64 b2,.int .i64 b3] (w.heap.size+1) (by simp))).blkNew TDk #[.int .i64 0,.slice none 0 0,.slice none 0 0] (w.heap.size+1+1) (by simp))).adv hx1)
 have lt1_0:w.heap.size+1+1<w1.heap.size:=(M1.out.lt (i:=0) rfl rfl).2
 have lt1_1:w.heap.size+1<w1.heap.size:=(M1.out.lt (i:=1) rfl rfl).2
 have lt1_2:w.heap.size<w1.heap.size:=(M1.out.lt (i:=2) rfl rfl).2
 clear hx1
 clear HV
 obtain⟨ca0,ca1,ca2⟩:=(M1.out.blk (i:=2) rfl).tri
 go_wp2_with fail
 clear ca0 ca1 ca2
 refine(HC.out _ (M1.out).ext).mono ?_
 rintro e w2 ⟨q5,c5,q6,c6,rfl,hm2⟩
 have M2:=Lib.hid ((M1.out).call2 hm2)
 clear M1
 clear lt1_0 lt1_1 lt1_2
 have lt2_2:w.heap.size+1+1<w2.heap.size:=(M2.out.lt (i:=2) rfl rfl).2
 have lt2_3:w.heap.size+1<w2.heap.size:=(M2.out.lt (i:=3) rfl rfl).2
 have lt2_4:w.heap.size<w2.heap.size:=(M2.out.lt (i:=4) rfl rfl).2
 clear hm2
 clear HC
 have cb0:w2.cell? ⟨w.heap.size+1,0,none⟩=some (.int .i64 b0):=(M2.out.blk (i:=3) rfl).cell 0
 have cb1:w2.cell? ⟨w.heap.size+1,1,none⟩=some (.int .i64 b1):=(M2.out.blk (i:=3) rfl).cell 1
 have cb2:w2.cell? ⟨w.heap.size+1,2,none⟩=some (.int .i64 b2):=(M2.out.blk (i:=3) rfl).cell 2
 have cb3:w2.cell? ⟨w.heap.size+1,3,none⟩=some (.int .i64 b3):=(M2.out.blk (i:=3) rfl).cell 3
 go_wp2_with fail
 clear cb0 cb1 cb2 cb3
 refine(HBV.out _).mono ?_
 rintro e w3 ⟨rfl,hx3⟩
 have M3:=Lib.hid ((((M2.out).blkNew TDk #[.int .i64 P,.slice q5 m c5,.slice q6 5 c6] (w2.heap.size) (by simp))).adv hx3)
 clear M2
 clear lt2_2 lt2_3 lt2_4
 have lt3_0:w2.heap.size<w3.heap.size:=(M3.out.lt (i:=0) rfl rfl).2
 have lt3_3:w.heap.size+1+1<w3.heap.size:=(M3.out.lt (i:=3) rfl rfl).2
 have lt3_4:w.heap.size+1<w3.heap.size:=(M3.out.lt (i:=4) rfl rfl).2
 have lt3_5:w.heap.size<w3.heap.size:=(M3.out.lt (i:=5) rfl rfl).2
 clear hx3
 have ca1:w3.cell? ⟨w.heap.size,1,none⟩=some (.slice q m c2):=(M3.out.blk (i:=5) rfl).cell 1
 have cb0:w3.cell? ⟨w.heap.size+1,0,none⟩=some (.int .i64 b0):=(M3.out.blk (i:=4) rfl).cell 0
 go_wp2_with fail
 clear ca1 cb0
 refine(HF1.out _ (M3.out).ext).mono ?_
 rintro e w4 ⟨rfl,hx4⟩
 have M4:=Lib.hid ((M3.out).adv hx4)
 clear M3
 clear lt3_0 lt3_3 lt3_4 lt3_5
 have lt4_0:w2.heap.size<w4.heap.size:=(M4.out.lt (i:=0) rfl rfl).2
 have lt4_3:w.heap.size+1+1<w4.heap.size:=(M4.out.lt (i:=3) rfl rfl).2
 have lt4_4:w.heap.size+1<w4.heap.size:=(M4.out.lt (i:=4) rfl rfl).2
 have lt4_5:w.heap.size<w4.heap.size:=(M4.out.lt (i:=5) rfl rfl).2
 clear hx4
 have ca2:w4.cell? ⟨w.heap.size,2,none⟩=some (.slice q2 5 d2):=(M4.out.blk (i:=5) rfl).cell 2
 have cb0:w4.cell? ⟨w.heap.size+1,0,none⟩=some (.int .i64 b0):=(M4.out.blk (i:=4) rfl).cell 0
 go_wp2_with fail
 clear ca2 cb0
 refine(HF2.out _ (M4.out).ext).mono ?_
 rintro e w5 ⟨rfl,hx5⟩
 have M5:=Lib.hid ((M4.out).adv hx5)
 clear M4
 clear lt4_0 lt4_3 lt4_4 lt4_5
 have lt5_0:w2.heap.size<w5.heap.size:=(M5.out.lt (i:=0) rfl rfl).2
 have lt5_3:w.heap.size+1+1<w5.heap.size:=(M5.out.lt (i:=3) rfl rfl).2
 have lt5_4:w.heap.size+1<w5.heap.size:=(M5.out.lt (i:=4) rfl rfl).2
 have lt5_5:w.heap.size<w5.heap.size:=(M5.out.lt (i:=5) rfl rfl).2
 clear hx5
 obtain⟨ca0,ca1,ca2⟩:=(M5.out.blk (i:=5) rfl).tri
 have cb0:w5.cell? ⟨w.heap.size+1,0,none⟩=some (.int .i64 b0):=(M5.out.blk (i:=4) rfl).cell 0
 have cb1:w5.cell? ⟨w.heap.size+1,1,none⟩=some (.int .i64 b1):=(M5.out.blk (i:=4) rfl).cell 1
 have cb2:w5.cell? ⟨w.heap.size+1,2,none⟩=some (.int .i64 b2):=(M5.out.blk (i:=4) rfl).cell 2
 have cb3:w5.cell? ⟨w.heap.size+1,3,none⟩=some (.int .i64 b3):=(M5.out.blk (i:=4) rfl).cell 3
 go_wp2_with fail
 clear ca0 ca1 ca2 cb0 cb1 cb2 cb3
 refine(HFI.out _ (M5.out).ext).mono ?_
 rintro e w6 ⟨rfl,hx6⟩
 have M6:=Lib.hid ((M5.out).adv hx6)
 clear M5
 clear lt5_0 lt5_3 lt5_4 lt5_5
 have lt6_0:w2.heap.size<w6.heap.size:=(M6.out.lt (i:=0) rfl rfl).2
 have lt6_3:w.heap.size+1+1<w6.heap.size:=(M6.out.lt (i:=3) rfl rfl).2
 have lt6_4:w.heap.size+1<w6.heap.size:=(M6.out.lt (i:=4) rfl rfl).2
 have lt6_5:w.heap.size<w6.heap.size:=(M6.out.lt (i:=5) rfl rfl).2
 clear hx6
 have cd2:w6.cell? ⟨w.heap.size,2,none⟩=some (.slice q2 5 d2):=(M6.out.blk (i:=5) rfl).cell 2
 obtain⟨ca0,ca1,ca2⟩:=(M6.out.blk (i:=0) rfl).tri
 obtain⟨cz0,czf0,cz1,czf1,cz2,czf2⟩:=(M6.out.blk (i:=3) rfl).trif
 have ne0_1a: ¬(w2.heap.size=w.heap.size+1+1):=M6.out.ne (i:=0) (j:=3) (by omega) rfl rfl rfl rfl
 have ne0_1b: ¬(w.heap.size+1+1=w2.heap.size):=fun h=>ne0_1a h.symm
 go_wp2
 clear cd2 ca0 ca1 ca2 cz0 czf0 cz1 czf1 cz2 czf2 ne0_1a ne0_1b lt6_0 lt6_3 lt6_4 lt6_5
 have M7:=Lib.hid (((M6.out).put3 (i:=3) rfl (.int .i64 P) (.slice q5 m c5) (.slice q6 5 c6)))
 generalize hwz:World.setCell _ _ _=wz
 rw[hwz]at M7
 clear hwz M6
 obtain⟨y0,y1,y2⟩:=(M7.out.blk (i:=3) rfl).tri
 exact bodyPost_ret (v:= .tuple #[.agg #[.int .i64 P,.slice q5 m c5,.slice q6 5 c6],.int .i64 0]) (by simp[results,Tryd.results15,go_sem, *]) rfl ⟨q5,c5,q6,c6,rfl,show Mem w wz [ownI w.heap.size TBk 4 (q5) (m) (c5) (T.flatMap visitCells),ownI w.heap.size TBk 4 (q6) (5) (c6) (R.flatMap visitCells)]from(M7.out.pick [1,2] (by decide) rfl)⟩
set_option maxRecDepth 100000 in
set_option maxHeartbeats 8000000 in
theorem implDa_wait (P:Int)(q:Option Addr)(m c2:Nat)(q2:Option Addr)(m2 d2:Nat)(b0 b1 b2 b3:Int)(T R:List Visit4)(w:World)(h5:m2<5)
  (HV:Hid (∀w',Ext w w'→Calls Tryd.prog 10 #[.agg #[.int .i64 P,.slice q m c2,.slice q2 m2 d2]] w' fun e w''=>e= .returned (.bool true)∧Ext w' w''))
  (HC:Hid (∀w',Ext w w'→Calls Tryd.prog 53 #[.agg #[.int .i64 P,.slice q m c2,.slice q2 m2 d2]] w' fun e w''=> ∃q5 c5 q6 c6,e= .returned (.agg #[.int .i64 P,.slice q5 m c5,.slice q6 m2 c6])∧Mem w' w'' [ownI w'.heap.size TBk 4 (q5) (m) (c5) (T.flatMap visitCells),ownI w'.heap.size TBk 4 (q6) (m2) (c6) (R.flatMap visitCells)]))
  (HBV:Hid (∀w',Calls Tryd.prog 41 #[bookV b0 b1 b2 b3] w' fun e w''=>e= .returned (.bool true)∧Ext w' w''))
  (HF1:Hid (∀w',Ext w w'→Calls Tryd.prog 42 #[.slice q m c2,.int .i64 b0] w' fun e w''=>e= .returned (.int .i64 (-1))∧Ext w' w''))
  (HF2:Hid (∀w',Ext w w'→Calls Tryd.prog 42 #[.slice q2 m2 d2,.int .i64 b0] w' fun e w''=>e= .returned (.int .i64 (-1))∧Ext w' w''))
  (HFI:Hid (∀w',Ext w w'→Calls Tryd.prog 43 #[.agg #[.int .i64 P,.slice q m c2,.slice q2 m2 d2],bookV b0 b1 b2 b3] w' fun e w''=>e= .returned (.bool false)∧Ext w' w'')):
  Calls Tryd.prog 15 #[.agg #[.int .i64 P,.slice q m c2,.slice q2 m2 d2],bookV b0 b1 b2 b3] w fun e w'=> ∃qa ca qb cb,e= .returned (.tuple #[.agg #[.int .i64 P,.slice qa m ca,.slice qb (m2+1) cb],.int .i64 2])∧Mem w w' [ownI w.heap.size TBk 4 (qa) (m) (ca) (T.flatMap visitCells),ownI w.heap.size TBk 4 (qb) (m2+1) (cb) (R.flatMap visitCells++visitCells (b0,b1,b2,b3))]:=by
 go_enter Tryd.func15,Tryd.ntmps15
 have t5:decide ((5:Int)≤(m2:Int))=false:=by simp;omega
 go_wp2_with fail
 refine(HV.out _ (((((((Mem.start w).blkNew TDk #[.int .i64 P,.slice q m c2,.slice q2 m2 d2] (w.heap.size) (by simp))).blkNew TBk #[.int .i64 b0,.int .i64 b1,.int .i64 b2,.int .i64 b3] (w.heap.size+1) (by simp))).blkNew TDk #[.int .i64 0,.slice none 0 0,.slice none 0 0] (w.heap.size+1+1) (by simp))).ext).mono ?_
 rintro e w1 ⟨rfl,hx1⟩
 have M1:=Lib.hid ((((((((Mem.start w).blkNew TDk #[.int .i64 P,.slice q m c2,.slice q2 m2 d2] (w.heap.size) (by simp))).blkNew TBk #[.int .i64 b0,.int .i64 b1,.int .i64 b2,.int .i64 b3] (w.heap.size+1) (by simp))).blkNew TDk #[.int .i64 0,.slice none 0 0,.slice none 0 0] (w.heap.size+1+1) (by simp))).adv hx1)
 have lt1_0:w.heap.size+1+1<w1.heap.size:=(M1.out.lt (i:=0) rfl rfl).2
 have lt1_1:w.heap.size+1<w1.heap.size:=(M1.out.lt (i:=1) rfl rfl).2
 have lt1_2:w.heap.size<w1.heap.size:=(M1.out.lt (i:=2) rfl rfl).2
 clear hx1
 clear HV
 obtain⟨ca0,ca1,ca2⟩:=(M1.out.blk (i:=2) rfl).tri
 go_wp2_with fail
 clear ca0 ca1 ca2
 refine(HC.out _ (M1.out).ext).mono ?_
 rintro e w2 ⟨q5,c5,q6,c6,rfl,hm2⟩
 have M2:=Lib.hid ((M1.out).call2 hm2)
 clear M1
 clear lt1_0 lt1_1 lt1_2
 have lt2_2:w.heap.size+1+1<w2.heap.size:=(M2.out.lt (i:=2) rfl rfl).2
 have lt2_3:w.heap.size+1<w2.heap.size:=(M2.out.lt (i:=3) rfl rfl).2
 have lt2_4:w.heap.size<w2.heap.size:=(M2.out.lt (i:=4) rfl rfl).2
 clear hm2
 clear HC
 have cb0:w2.cell? ⟨w.heap.size+1,0,none⟩=some (.int .i64 b0):=(M2.out.blk (i:=3) rfl).cell 0
 have cb1:w2.cell? ⟨w.heap.size+1,1,none⟩=some (.int .i64 b1):=(M2.out.blk (i:=3) rfl).cell 1
 have cb2:w2.cell? ⟨w.heap.size+1,2,none⟩=some (.int .i64 b2):=(M2.out.blk (i:=3) rfl).cell 2
 have cb3:w2.cell? ⟨w.heap.size+1,3,none⟩=some (.int .i64 b3):=(M2.out.blk (i:=3) rfl).cell 3
 go_wp2_with fail
 clear cb0 cb1 cb2 cb3
 refine(HBV.out _).mono ?_
 rintro e w3 ⟨rfl,hx3⟩
 have M3:=Lib.hid ((((M2.out).blkNew TDk #[.int .i64 P,.slice q5 m c5,.slice q6 m2 c6] (w2.heap.size) (by simp))).adv hx3)
 clear M2
 clear lt2_2 lt2_3 lt2_4
 have lt3_0:w2.heap.size<w3.heap.size:=(M3.out.lt (i:=0) rfl rfl).2
 have lt3_3:w.heap.size+1+1<w3.heap.size:=(M3.out.lt (i:=3) rfl rfl).2
 have lt3_4:w.heap.size+1<w3.heap.size:=(M3.out.lt (i:=4) rfl rfl).2
 have lt3_5:w.heap.size<w3.heap.size:=(M3.out.lt (i:=5) rfl rfl).2
 clear hx3
 have ca1:w3.cell? ⟨w.heap.size,1,none⟩=some (.slice q m c2):=(M3.out.blk (i:=5) rfl).cell 1
 have cb0:w3.cell? ⟨w.heap.size+1,0,none⟩=some (.int .i64 b0):=(M3.out.blk (i:=4) rfl).cell 0
 go_wp2_with fail
 clear ca1 cb0
 refine(HF1.out _ (M3.out).ext).mono ?_
 rintro e w4 ⟨rfl,hx4⟩
 have M4:=Lib.hid ((M3.out).adv hx4)
 clear M3
 clear lt3_0 lt3_3 lt3_4 lt3_5
 have lt4_0:w2.heap.size<w4.heap.size:=(M4.out.lt (i:=0) rfl rfl).2
 have lt4_3:w.heap.size+1+1<w4.heap.size:=(M4.out.lt (i:=3) rfl rfl).2
 have lt4_4:w.heap.size+1<w4.heap.size:=(M4.out.lt (i:=4) rfl rfl).2
 have lt4_5:w.heap.size<w4.heap.size:=(M4.out.lt (i:=5) rfl rfl).2
 clear hx4
 have ca2:w4.cell? ⟨w.heap.size,2,none⟩=some (.slice q2 m2 d2):=(M4.out.blk (i:=5) rfl).cell 2
 have cb0:w4.cell? ⟨w.heap.size+1,0,none⟩=some (.int .i64 b0):=(M4.out.blk (i:=4) rfl).cell 0
 go_wp2_with fail
 clear ca2 cb0
 refine(HF2.out _ (M4.out).ext).mono ?_
 rintro e w5 ⟨rfl,hx5⟩
 have M5:=Lib.hid ((M4.out).adv hx5)
 clear M4
 clear lt4_0 lt4_3 lt4_4 lt4_5
 have lt5_0:w2.heap.size<w5.heap.size:=(M5.out.lt (i:=0) rfl rfl).2
 have lt5_3:w.heap.size+1+1<w5.heap.size:=(M5.out.lt (i:=3) rfl rfl).2
 have lt5_4:w.heap.size+1<w5.heap.size:=(M5.out.lt (i:=4) rfl rfl).2
 have lt5_5:w.heap.size<w5.heap.size:=(M5.out.lt (i:=5) rfl rfl).2
 clear hx5
 obtain⟨ca0,ca1,ca2⟩:=(M5.out.blk (i:=5) rfl).tri
 have cb0:w5.cell? ⟨w.heap.size+1,0,none⟩=some (.int .i64 b0):=(M5.out.blk (i:=4) rfl).cell 0
 have cb1:w5.cell? ⟨w.heap.size+1,1,none⟩=some (.int .i64 b1):=(M5.out.blk (i:=4) rfl).cell 1
 have cb2:w5.cell? ⟨w.heap.size+1,2,none⟩=some (.int .i64 b2):=(M5.out.blk (i:=4) rfl).cell 2
 have cb3:w5.cell? ⟨w.heap.size+1,3,none⟩=some (.int .i64 b3):=(M5.out.blk (i:=4) rfl).cell 3
 go_wp2_with fail
 clear ca0 ca1 ca2 cb0 cb1 cb2 cb3
 refine(HFI.out _ (M5.out).ext).mono ?_
 rintro e w6 ⟨rfl,hx6⟩
 have M6:=Lib.hid ((M5.out).adv hx6)
 clear M5
 clear lt5_0 lt5_3 lt5_4 lt5_5
 have lt6_0:w2.heap.size<w6.heap.size:=(M6.out.lt (i:=0) rfl rfl).2
 have lt6_3:w.heap.size+1+1<w6.heap.size:=(M6.out.lt (i:=3) rfl rfl).2
 have lt6_4:w.heap.size+1<w6.heap.size:=(M6.out.lt (i:=4) rfl rfl).2
 have lt6_5:w.heap.size<w6.heap.size:=(M6.out.lt (i:=5) rfl rfl).2
 clear hx6
 have cd2:w6.cell? ⟨w.heap.size,2,none⟩=some (.slice q2 m2 d2):=(M6.out.blk (i:=5) rfl).cell 2
 have ca2:w6.cell? ⟨w2.heap.size,2,none⟩=some (.slice q6 m2 c6):=(M6.out.blk (i:=0) rfl).cell 2
 have cb0:w6.cell? ⟨w.heap.size+1,0,none⟩=some (.int .i64 b0):=(M6.out.blk (i:=4) rfl).cell 0
 have cb1:w6.cell? ⟨w.heap.size+1,1,none⟩=some (.int .i64 b1):=(M6.out.blk (i:=4) rfl).cell 1
 have cb2:w6.cell? ⟨w.heap.size+1,2,none⟩=some (.int .i64 b2):=(M6.out.blk (i:=4) rfl).cell 2
 have cb3:w6.cell? ⟨w.heap.size+1,3,none⟩=some (.int .i64 b3):=(M6.out.blk (i:=4) rfl).cell 3
 go_wp2_with (at_builtin;go_loud (refine wpList_appM elBk rfl _ _ rfl ((M6.out).adv ((Ext.refl _).alloc (.cells #[.int .i64 b0,.int .i64 b1,.int .i64 b2,.int .i64 b3] TBk))) 2 rfl rfl (visitCells (b0,b1,b2,b3)) rfl (sl_lit _ _ _ 1 4 _ (by simp) (by simp) (by simp[maxLen])) (book_one _) (by omega) ?_;intro q7 c7 w9 M9a;have M9:=Lib.hid (show Mem w w9 [blkI w.heap.size (w2.heap.size) TDk #[.int .i64 P,.slice q5 m c5,.slice q6 m2 c6],ownI w.heap.size TBk 4 (q5) (m) (c5) (T.flatMap visitCells),ownI w.heap.size TBk 4 (q7) (m2+1) (c7) (R.flatMap visitCells++visitCells (b0,b1,b2,b3)),blkI w.heap.size (w.heap.size+1+1) TDk #[.int .i64 0,.slice none 0 0,.slice none 0 0],blkI w.heap.size (w.heap.size+1) TBk #[.int .i64 b0,.int .i64 b1,.int .i64 b2,.int .i64 b3],blkI w.heap.size (w.heap.size) TDk #[.int .i64 P,.slice q m c2,.slice q2 m2 d2]]from M9a);clear M9a cd2 ca2 cb0 cb1 cb2 cb3 M6 lt6_0 lt6_3 lt6_4 lt6_5;(have lt30_0:w2.heap.size<w9.heap.size:=(M9.out.lt (i:=0) rfl rfl).2);(have lt30_3:w.heap.size+1+1<w9.heap.size:=(M9.out.lt (i:=3) rfl rfl).2);(have lt30_4:w.heap.size+1<w9.heap.size:=(M9.out.lt (i:=4) rfl rfl).2);(have lt30_5:w.heap.size<w9.heap.size:=(M9.out.lt (i:=5) rfl rfl).2);(obtain⟨ca0,ca1,ca2⟩:=(M9.out.blk (i:=0) rfl).tri);(have cq2:w9.cell? ⟨w2.heap.size,2,none⟩=some (.slice q6 m2 c6):=(M9.out.blk (i:=0) rfl).cell 2);(have cqf2:w9.frozen? ⟨w2.heap.size,2,none⟩=false:=(M9.out.blk (i:=0) rfl).frozen 2);(obtain⟨cz0,czf0,cz1,czf1,cz2,czf2⟩:=(M9.out.blk (i:=3) rfl).trif);(have ne0_1a: ¬(w2.heap.size=w.heap.size+1+1):=M9.out.ne (i:=0) (j:=3) (by omega) rfl rfl rfl rfl);(have ne0_1b: ¬(w.heap.size+1+1=w2.heap.size):=fun h=>ne0_1a h.symm)))
 have M31:=Lib.hid (show Mem w (w9.setCell ⟨w2.heap.size,2,none⟩ (.slice q7 (m2+1) c7)) [blkI w.heap.size (w2.heap.size) TDk #[.int .i64 P,.slice q5 m c5,.slice q7 (m2+1) c7],ownI w.heap.size TBk 4 (q5) (m) (c5) (T.flatMap visitCells),ownI w.heap.size TBk 4 (q7) (m2+1) (c7) (R.flatMap visitCells++visitCells (b0,b1,b2,b3)),blkI w.heap.size (w.heap.size+1+1) TDk #[.int .i64 0,.slice none 0 0,.slice none 0 0],blkI w.heap.size (w.heap.size+1) TBk #[.int .i64 b0,.int .i64 b1,.int .i64 b2,.int .i64 b3],blkI w.heap.size (w.heap.size) TDk #[.int .i64 P,.slice q m c2,.slice q2 m2 d2]]from((M9.out).store (i:=0) rfl 2 (.slice q7 (m2+1) c7)))
 clear ca0 ca1 ca2 cq2 cqf2 cz0 czf0 cz1 czf1 cz2 czf2 ne0_1a ne0_1b lt30_0 lt30_3 lt30_4 lt30_5
 have M32:=Lib.hid (((M31.out).put3 (i:=3) rfl (.int .i64 P) (.slice q5 m c5) (.slice q7 (m2+1) c7)))
 generalize hwz:World.setCell _ _ _=wz
 rw[hwz]at M32
 clear hwz M9 M31
 obtain⟨y0,y1,y2⟩:=(M32.out.blk (i:=3) rfl).tri
 exact bodyPost_ret (v:= .tuple #[.agg #[.int .i64 P,.slice q5 m c5,.slice q7 (m2+1) c7],.int .i64 2]) (by simp[results,Tryd.results15,go_sem, *]) rfl ⟨q5,c5,q7,c7,rfl,show Mem w wz [ownI w.heap.size TBk 4 (q5) (m) (c5) (T.flatMap visitCells),ownI w.heap.size TBk 4 (q7) (m2+1) (c7) (R.flatMap visitCells++visitCells (b0,b1,b2,b3))]from(M32.out.pick [1,2] (by decide) rfl)⟩
end Go.Proofs.YtndcnflchkfaeaaDoor

