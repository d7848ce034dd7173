/-
  Texts of this proof, packed (@packed).
-/
import Derived.Test.YtndcnflchkfaeaaDoorK10
import Derived.Test.YtndcnflchkfaeaaDoorK13
import Derived.Test.YtndcnflchkfaeaaDoorK17
namespace Go.Proofs.YtndcnflchkfaeaaDoor
open Go.RowKit
set_option linter.unusedVariables false
set_option linter.unusedSimpArgs false
theorem dok_row {p:Int}{T R:List Visit4}(h:DOk p T R)(k:Nat):DOk p T (R.take k):=
 ⟨h.pl,h.ok,h.fit,h.up,by have:=(List.take_sublist k R).length_le;have:=h.rlen;omega,fun b hb=>h.rok b ((List.take_sublist k R).subset hb),h.rnd.sublist ((List.take_sublist k R).map _),fun b hb=>h.far b ((List.take_sublist k R).subset hb),fun b hb=>h.wait b ((List.take_sublist k R).subset hb)⟩
def freeAt (p:Int)(T0 R:List Visit4)(k:Nat):List Visit4×List Visit4×List Int:=freeRun p T0 (R.take k)
theorem freeAt_zero (p:Int)(T0 R:List Visit4):freeAt p T0 R 0=(T0,[],[]):=by simp[freeAt,freeRun]
theorem freeAt_succ {p:Int}{T0 R:List Visit4}{k:Nat}{b:Visit4}(h:R[k]? =some b):freeAt p T0 R (k+1)=freeStep p (freeAt p T0 R k) b:=by
 unfold freeAt freeRun
 rw[take_snocL h,List.foldl_append,List.foldl_cons,List.foldl_nil]
theorem freeAt_end (p:Int)(T0 R:List Visit4){k:Nat}(h:R.length≤k):freeAt p T0 R k=freeRun p T0 R:=by unfold freeAt;rw[List.take_of_length_le h]
theorem freeStep_len (p:Int)(s:List Visit4×List Visit4×List Int)(b:Visit4):(freeStep p s b).2.1.length≤s.2.1.length+1∧(freeStep p s b).2.2.length≤s.2.2.length+1:=by
 unfold freeStep;split<;>simp
theorem freeFold_len (p:Int): ∀(R:List Visit4) (s:List Visit4×List Visit4×List Int),(R.foldl (freeStep p) s).2.1.length≤s.2.1.length+R.length∧(R.foldl (freeStep p) s).2.2.length≤s.2.2.length+R.length
 | [],s=>by simp
 |b::R,s=>by
  rw[List.foldl_cons]
  have h1:=freeFold_len p R (freeStep p s b)
  have h2:=freeStep_len p s b
  simp only[List.length_cons]
  omega
structure FAt (p:Int) (T R:List Visit4) (i k:Nat) (s:List Visit4×List Visit4×List Int):Prop where
 len:s.1.length≤7
 len2:s.2.1.length≤5
 len3:s.2.2.length≤5
 up:(s.1.map (·.1)).Pairwise (·< ·)
 ne: ∀b,R[k]? =some b→ ∀c∈s.1,b.1≠c.1
theorem freeAt_inv {p:Int}{T R:List Visit4}(h:DOk p T R)(i k:Nat):FAt p T R i k (freeAt p (T.eraseIdx i) R k):=by
 have F:=free_inv (dok_row h k) i
 have hl:=freeFold_len p (R.take k) (T.eraseIdx i,[],[])
 have hr:=h.rlen
 have ht:(R.take k).length≤R.length:=(List.take_sublist k R).length_le
 refine⟨((booksOk_iff _).1 F.ok).1,?_,?_,F.up,?_⟩
 ·have:=hl.1;simp only[List.length_nil]at this;unfold freeAt freeRun;omega
 ·have:=hl.2;simp only[List.length_nil]at this;unfold freeAt freeRun;omega
 ·intro b hb c hc
  have hbm:=List.mem_of_getElem? hb
  rcases(F.mem c).1 hc with hc|⟨hc,_⟩
  ·exact h.far b hbm c ((List.eraseIdx_sublist T i).subset hc)
  ·obtain⟨j,hj,e⟩:=List.mem_take_iff_getElem.1 hc
   obtain⟨hk,e2⟩:=List.getElem?_eq_some_iff.1 hb
   have:=List.pairwise_iff_getElem.1 h.rnd j k (by rw[List.length_map];omega) (by rw[List.length_map];exact hk) (by omega)
   simp only[List.getElem_map]at this
   rw[e,e2]at this
   exact fun e3=>this e3.symm
set_option maxRecDepth 100000 in
set_option maxHeartbeats 8000000 in
theorem implDf_bad (P:Int)(q:Option Addr)(m c2:Nat)(q2:Option Addr)(m2 d2:Nat)(id:Int)(T R:List Visit4)(w:World)(HV:Hid (∀w',Ext w w'→Calls Tryd.prog 10 #[.agg #[.int .i64 P,.slice q m c2,.slice q2 m2 d2]] w' fun e w''=>e= .returned (.bool false)∧Ext w' w'')):
  Calls Tryd.prog 20 #[.agg #[.int .i64 P,.slice q m c2,.slice q2 m2 d2],.int .i64 id] w fun e w'=>e= .returned (.tuple #[.agg #[.int .i64 0,.slice none 0 0,.slice none 0 0],.slice none 0 0])∧Ext w w':=by
 go_enter Tryd.func20,Tryd.ntmps20
 go_wp2_with fail
 refine(HV.out _ (((((Mem.start w).blkNew TDk #[.int .i64 P,.slice q m c2,.slice q2 m2 d2] (w.heap.size) (by simp))).blkNew TDk #[.int .i64 0,.slice none 0 0,.slice none 0 0] (w.heap.size+1) (by simp))).ext).mono ?_
 rintro e w1 ⟨rfl,hx1⟩
 have M1:=Lib.hid ((((((Mem.start w).blkNew TDk #[.int .i64 P,.slice q m c2,.slice q2 m2 d2] (w.heap.size) (by simp))).blkNew TDk #[.int .i64 0,.slice none 0 0,.slice none 0 0] (w.heap.size+1) (by simp))).adv hx1)
 have lt1_0:w.heap.size+1<w1.heap.size:=(M1.out.lt (i:=0) rfl rfl).2
 have lt1_1:w.heap.size<w1.heap.size:=(M1.out.lt (i:=1) rfl rfl).2
 clear hx1
 clear HV
 obtain⟨cz0,czf0,cz1,czf1,cz2,czf2⟩:=(M1.out.blk (i:=0) rfl).trif
 go_wp2
 clear cz0 czf0 cz1 czf1 cz2 czf2 lt1_0 lt1_1
 have M2:=Lib.hid (((M1.out).put3 (i:=0) rfl (.int .i64 0) (.slice none 0 0) (.slice none 0 0)))
 generalize hwz:World.setCell _ _ _=wz
 rw[hwz]at M2
 clear hwz M1
 obtain⟨y0,y1,y2⟩:=(M2.out.blk (i:=0) rfl).tri
 exact bodyPost_ret (v:= .tuple #[.agg #[.int .i64 0,.slice none 0 0,.slice none 0 0],.slice none 0 0]) (by simp[results,Tryd.results20,go_sem, *]) rfl ⟨rfl,M2.out.ext⟩
set_option maxRecDepth 100000 in
set_option maxHeartbeats 8000000 in
theorem implDf_row (P:Int)(q:Option Addr)(m c2:Nat)(q2:Option Addr)(m2 d2:Nat)(id:Int)(T R:List Visit4)(w:World)(i:Nat)(hi:i<m2)(hm2:m2≤5)
  (HV:Hid (∀w',Ext w w'→Calls Tryd.prog 10 #[.agg #[.int .i64 P,.slice q m c2,.slice q2 m2 d2]] w' fun e w''=>e= .returned (.bool true)∧Ext w' w''))
  (HC:Hid (∀w',Ext w w'→Calls Tryd.prog 53 #[.agg #[.int .i64 P,.slice q m c2,.slice q2 m2 d2]] w' fun e w''=> ∃q5 c5 q6 c6,e= .returned (.agg #[.int .i64 P,.slice q5 m c5,.slice q6 m2 c6])∧Mem w' w'' [ownI w'.heap.size TBk 4 (q5) (m) (c5) (T.flatMap visitCells),ownI w'.heap.size TBk 4 (q6) (m2) (c6) (R.flatMap visitCells)]))
  (HF2:Hid (∀w',Ext w w'→Calls Tryd.prog 42 #[.slice q2 m2 d2,.int .i64 id] w' fun e w''=>e= .returned (.int .i64 (i:Int))∧Ext w' w'')):
  Calls Tryd.prog 20 #[.agg #[.int .i64 P,.slice q m c2,.slice q2 m2 d2],.int .i64 id] w fun e w'=> ∃qa ca qb cb qc cc,e= .returned (.tuple #[.agg #[.int .i64 P,.slice qa m ca,.slice qb (m2-1) cb],.slice qc 0 cc])∧Mem w w' [ownI w.heap.size TBk 4 (qa) (m) (ca) (T.flatMap visitCells),ownI w.heap.size TBk 4 (qb) (m2-1) (cb) ((R.eraseIdx i).flatMap visitCells),ownI w.heap.size TI 1 (qc) (0) (cc) (ivs ([]))]:=by
 go_enter Tryd.func20,Tryd.ntmps20
 go_wp2_with fail
 refine(HV.out _ (((((Mem.start w).blkNew TDk #[.int .i64 P,.slice q m c2,.slice q2 m2 d2] (w.heap.size) (by simp))).blkNew TDk #[.int .i64 0,.slice none 0 0,.slice none 0 0] (w.heap.size+1) (by simp))).ext).mono ?_
 rintro e w1 ⟨rfl,hx1⟩
 have M1:=Lib.hid ((((((Mem.start w).blkNew TDk #[.int .i64 P,.slice q m c2,.slice q2 m2 d2] (w.heap.size) (by simp))).blkNew TDk #[.int .i64 0,.slice none 0 0,.slice none 0 0] (w.heap.size+1) (by simp))).adv hx1)
 have lt1_0:w.heap.size+1<w1.heap.size:=(M1.out.lt (i:=0) rfl rfl).2
 have lt1_1:w.heap.size<w1.heap.size:=(M1.out.lt (i:=1) rfl rfl).2
 clear hx1
 clear HV
 obtain⟨ca0,ca1,ca2⟩:=(M1.out.blk (i:=1) rfl).tri
 go_wp2_with fail
 clear ca0 ca1 ca2
 refine(HC.out _ (M1.out).ext).mono ?_
 rintro e w2 ⟨q5,c5,q6,c6,rfl,hm2⟩
 have M2:=Lib.hid ((M1.out).call2 hm2)
 clear M1
 clear lt1_0 lt1_1
 have lt2_2:w.heap.size+1<w2.heap.size:=(M2.out.lt (i:=2) rfl rfl).2
 have lt2_3:w.heap.size<w2.heap.size:=(M2.out.lt (i:=3) rfl rfl).2
 clear hm2
 clear HC
 have ca2:w2.cell? ⟨w.heap.size,2,none⟩=some (.slice q2 m2 d2):=(M2.out.blk (i:=3) rfl).cell 2
 go_wp2_with fail
 clear ca2
 refine(HF2.out _ (((M2.out).blkNew TDk #[.int .i64 P,.slice q5 m c5,.slice q6 m2 c6] (w2.heap.size) (by simp))).ext).mono ?_
 rintro e w3 ⟨rfl,hx3⟩
 have M3:=Lib.hid ((((M2.out).blkNew TDk #[.int .i64 P,.slice q5 m c5,.slice q6 m2 c6] (w2.heap.size) (by simp))).adv hx3)
 clear M2
 clear lt2_2 lt2_3
 have lt3_0:w2.heap.size<w3.heap.size:=(M3.out.lt (i:=0) rfl rfl).2
 have lt3_3:w.heap.size+1<w3.heap.size:=(M3.out.lt (i:=3) rfl rfl).2
 have lt3_4:w.heap.size<w3.heap.size:=(M3.out.lt (i:=4) rfl rfl).2
 clear hx3
 obtain⟨g7,rfl,_,_⟩:=M3.out.some (i:=2) rfl (by omega)
 have HDL:=Lib.hid (del_any g7 m2 c6 w.heap.size i (i+1) R _ (by omega) hi rfl (M3.out.own (i:=2) rfl))
 rw[show((i+1:Nat):Int)=(i:Int)+1 by omega]at HDL
 have hwi:IntKind.i64.wrap ((i:Int)+1)=(i:Int)+1:=IntWalk.i64_in _ (by omega)
 have ca2:w3.cell? ⟨w2.heap.size,2,none⟩=some (.slice (some ⟨g7,0,none⟩) m2 c6):=(M3.out.blk (i:=0) rfl).cell 2
 go_wp2_with fail
 clear ca2
 refine(HDL.out).mono ?_
 rintro e w4 ⟨rfl,ho4,hg4⟩
 have M4:=Lib.hid (show Mem w w4 [blkI w.heap.size (w2.heap.size) TDk #[.int .i64 P,.slice q5 m c5,.slice (some ⟨g7,0,none⟩) m2 c6],ownI w.heap.size TBk 4 (q5) (m) (c5) (T.flatMap visitCells),ownI w.heap.size TBk 4 ((some ⟨g7,0,none⟩)) (m2-1) (c6) ((R.eraseIdx i).flatMap visitCells),blkI w.heap.size (w.heap.size+1) TDk #[.int .i64 0,.slice none 0 0,.slice none 0 0],blkI w.heap.size (w.heap.size) TDk #[.int .i64 P,.slice q m c2,.slice q2 m2 d2]]from(M3.out).app (i:=2) rfl ho4 hg4 (.inl rfl))
 clear M3
 clear lt3_0 lt3_3 lt3_4
 have lt4_0:w2.heap.size<w4.heap.size:=(M4.out.lt (i:=0) rfl rfl).2
 have lt4_3:w.heap.size+1<w4.heap.size:=(M4.out.lt (i:=3) rfl rfl).2
 have lt4_4:w.heap.size<w4.heap.size:=(M4.out.lt (i:=4) rfl rfl).2
 clear ho4 hg4 HDL
 obtain⟨ca0,ca1,ca2⟩:=(M4.out.blk (i:=0) rfl).tri
 have cq2:w4.cell? ⟨w2.heap.size,2,none⟩=some (.slice (some ⟨g7,0,none⟩) m2 c6):=(M4.out.blk (i:=0) rfl).cell 2
 have cqf2:w4.frozen? ⟨w2.heap.size,2,none⟩=false:=(M4.out.blk (i:=0) rfl).frozen 2
 obtain⟨cz0,czf0,cz1,czf1,cz2,czf2⟩:=(M4.out.blk (i:=3) rfl).trif
 have ne0_1a: ¬(w2.heap.size=w.heap.size+1):=M4.out.ne (i:=0) (j:=3) (by omega) rfl rfl rfl rfl
 have ne0_1b: ¬(w.heap.size+1=w2.heap.size):=fun h=>ne0_1a h.symm
 have M5:=Lib.hid (show Mem w (w4.setCell ⟨w2.heap.size,2,none⟩ (.slice (some ⟨g7,0,none⟩) (m2-1) c6)) [blkI w.heap.size (w2.heap.size) TDk #[.int .i64 P,.slice q5 m c5,.slice (some ⟨g7,0,none⟩) (m2-1) c6],ownI w.heap.size TBk 4 (q5) (m) (c5) (T.flatMap visitCells),ownI w.heap.size TBk 4 ((some ⟨g7,0,none⟩)) (m2-1) (c6) ((R.eraseIdx i).flatMap visitCells),blkI w.heap.size (w.heap.size+1) TDk #[.int .i64 0,.slice none 0 0,.slice none 0 0],blkI w.heap.size (w.heap.size) TDk #[.int .i64 P,.slice q m c2,.slice q2 m2 d2]]from((M4.out).store (i:=0) rfl 2 (.slice (some ⟨g7,0,none⟩) (m2-1) c6)))
 go_wp2
 clear ca0 ca1 ca2 cq2 cqf2 cz0 czf0 cz1 czf1 cz2 czf2 ne0_1a ne0_1b lt4_0 lt4_3 lt4_4
 have M6:=Lib.hid (((M5.out).put3 (i:=3) rfl (.int .i64 P) (.slice q5 m c5) (.slice (some ⟨g7,0,none⟩) (m2-1) c6)))
 generalize hwz:World.setCell _ _ _=wz
 rw[hwz]at M6
 clear hwz M4 M5
 obtain⟨y0,y1,y2⟩:=(M6.out.blk (i:=3) rfl).tri
 have MF:=Lib.hid (M6.out.call (Ext.refl _) (World.ownsRow_nil _ _ TI 1))
 exact bodyPost_ret (v:= .tuple #[.agg #[.int .i64 P,.slice q5 m c5,.slice (some ⟨g7,0,none⟩) (m2-1) c6],.slice none 0 0]) (by simp[results,Tryd.results20,go_sem, *]) rfl ⟨q5,c5,(some ⟨g7,0,none⟩),c6,none,0,rfl,show Mem w wz [ownI w.heap.size TBk 4 (q5) (m) (c5) (T.flatMap visitCells),ownI w.heap.size TBk 4 ((some ⟨g7,0,none⟩)) (m2-1) (c6) ((R.eraseIdx i).flatMap visitCells),ownI w.heap.size TI 1 (none) (0) (0) (ivs ([]))]from(MF.out.pick [2,3,0] (by decide) rfl)⟩
set_option maxRecDepth 100000 in
set_option maxHeartbeats 8000000 in
theorem implDf_no (P:Int)(q:Option Addr)(m c2:Nat)(q2:Option Addr)(m2 d2:Nat)(id:Int)(T R:List Visit4)(w:World)(HV:Hid (∀w',Ext w w'→Calls Tryd.prog 10 #[.agg #[.int .i64 P,.slice q m c2,.slice q2 m2 d2]] w' fun e w''=>e= .returned (.bool true)∧Ext w' w''))
  (HC:Hid (∀w',Ext w w'→Calls Tryd.prog 53 #[.agg #[.int .i64 P,.slice q m c2,.slice q2 m2 d2]] w' fun e w''=> ∃q5 c5 q6 c6,e= .returned (.agg #[.int .i64 P,.slice q5 m c5,.slice q6 m2 c6])∧Mem w' w'' [ownI w'.heap.size TBk 4 (q5) (m) (c5) (T.flatMap visitCells),ownI w'.heap.size TBk 4 (q6) (m2) (c6) (R.flatMap visitCells)]))
  (HF2:Hid (∀w',Ext w w'→Calls Tryd.prog 42 #[.slice q2 m2 d2,.int .i64 id] w' fun e w''=>e= .returned (.int .i64 (-1))∧Ext w' w''))
  (HF1:Hid (∀w',Ext w w'→Calls Tryd.prog 42 #[.slice q m c2,.int .i64 id] w' fun e w''=>e= .returned (.int .i64 (-1))∧Ext w' w'')):
  Calls Tryd.prog 20 #[.agg #[.int .i64 P,.slice q m c2,.slice q2 m2 d2],.int .i64 id] w fun e w'=> ∃qa ca qb cb qc cc,e= .returned (.tuple #[.agg #[.int .i64 P,.slice qa m ca,.slice qb m2 cb],.slice qc 0 cc])∧Mem w w' [ownI w.heap.size TBk 4 (qa) (m) (ca) (T.flatMap visitCells),ownI w.heap.size TBk 4 (qb) (m2) (cb) (R.flatMap visitCells),ownI w.heap.size TI 1 (qc) (0) (cc) (ivs ([]))]:=by
 go_enter Tryd.func20,Tryd.ntmps20
 go_wp2_with fail
 refine(HV.out _ (((((Mem.start w).blkNew TDk #[.int .i64 P,.slice q m c2,.slice q2 m2 d2] (w.heap.size) (by simp))).blkNew TDk #[.int .i64 0,.slice none 0 0,.slice none 0 0] (w.heap.size+1) (by simp))).ext).mono ?_
 rintro e w1 ⟨rfl,hx1⟩
 have M1:=Lib.hid ((((((Mem.start w).blkNew TDk #[.int .i64 P,.slice q m c2,.slice q2 m2 d2] (w.heap.size) (by simp))).blkNew TDk #[.int .i64 0,.slice none 0 0,.slice none 0 0] (w.heap.size+1) (by simp))).adv hx1)
 have lt1_0:w.heap.size+1<w1.heap.size:=(M1.out.lt (i:=0) rfl rfl).2
 have lt1_1:w.heap.size<w1.heap.size:=(M1.out.lt (i:=1) rfl rfl).2
 clear hx1
 clear HV
 obtain⟨ca0,ca1,ca2⟩:=(M1.out.blk (i:=1) rfl).tri
 go_wp2_with fail
 clear ca0 ca1 ca2
 refine(HC.out _ (M1.out).ext).mono ?_
 rintro e w2 ⟨q5,c5,q6,c6,rfl,hm2⟩
 have M2:=Lib.hid ((M1.out).call2 hm2)
 clear M1
 clear lt1_0 lt1_1
 have lt2_2:w.heap.size+1<w2.heap.size:=(M2.out.lt (i:=2) rfl rfl).2
 have lt2_3:w.heap.size<w2.heap.size:=(M2.out.lt (i:=3) rfl rfl).2
 clear hm2
 clear HC
 have ca2:w2.cell? ⟨w.heap.size,2,none⟩=some (.slice q2 m2 d2):=(M2.out.blk (i:=3) rfl).cell 2
 go_wp2_with fail
 clear ca2
 refine(HF2.out _ (((M2.out).blkNew TDk #[.int .i64 P,.slice q5 m c5,.slice q6 m2 c6] (w2.heap.size) (by simp))).ext).mono ?_
 rintro e w3 ⟨rfl,hx3⟩
 have M3:=Lib.hid ((((M2.out).blkNew TDk #[.int .i64 P,.slice q5 m c5,.slice q6 m2 c6] (w2.heap.size) (by simp))).adv hx3)
 clear M2
 clear lt2_2 lt2_3
 have lt3_0:w2.heap.size<w3.heap.size:=(M3.out.lt (i:=0) rfl rfl).2
 have lt3_3:w.heap.size+1<w3.heap.size:=(M3.out.lt (i:=3) rfl rfl).2
 have lt3_4:w.heap.size<w3.heap.size:=(M3.out.lt (i:=4) rfl rfl).2
 clear hx3
 have ca1:w3.cell? ⟨w.heap.size,1,none⟩=some (.slice q m c2):=(M3.out.blk (i:=4) rfl).cell 1
 go_wp2_with fail
 clear ca1
 refine(HF1.out _ (M3.out).ext).mono ?_
 rintro e w4 ⟨rfl,hx4⟩
 have M4:=Lib.hid ((M3.out).adv hx4)
 clear M3
 clear lt3_0 lt3_3 lt3_4
 have lt4_0:w2.heap.size<w4.heap.size:=(M4.out.lt (i:=0) rfl rfl).2
 have lt4_3:w.heap.size+1<w4.heap.size:=(M4.out.lt (i:=3) rfl rfl).2
 have lt4_4:w.heap.size<w4.heap.size:=(M4.out.lt (i:=4) rfl rfl).2
 clear hx4
 obtain⟨ca0,ca1,ca2⟩:=(M4.out.blk (i:=0) rfl).tri
 obtain⟨cz0,czf0,cz1,czf1,cz2,czf2⟩:=(M4.out.blk (i:=3) rfl).trif
 have ne0_1a: ¬(w2.heap.size=w.heap.size+1):=M4.out.ne (i:=0) (j:=3) (by omega) rfl rfl rfl rfl
 have ne0_1b: ¬(w.heap.size+1=w2.heap.size):=fun h=>ne0_1a h.symm
 go_wp2
 clear ca0 ca1 ca2 cz0 czf0 cz1 czf1 cz2 czf2 ne0_1a ne0_1b lt4_0 lt4_3 lt4_4
 have M5:=Lib.hid (((M4.out).put3 (i:=3) rfl (.int .i64 P) (.slice q5 m c5) (.slice q6 m2 c6)))
 generalize hwz:World.setCell _ _ _=wz
 rw[hwz]at M5
 clear hwz M4
 obtain⟨y0,y1,y2⟩:=(M5.out.blk (i:=3) rfl).tri
 have MF:=Lib.hid (M5.out.call (Ext.refl _) (World.ownsRow_nil _ _ TI 1))
 exact bodyPost_ret (v:= .tuple #[.agg #[.int .i64 P,.slice q5 m c5,.slice q6 m2 c6],.slice none 0 0]) (by simp[results,Tryd.results20,go_sem, *]) rfl ⟨q5,c5,q6,c6,none,0,rfl,show Mem w wz [ownI w.heap.size TBk 4 (q5) (m) (c5) (T.flatMap visitCells),ownI w.heap.size TBk 4 (q6) (m2) (c6) (R.flatMap visitCells),ownI w.heap.size TI 1 (none) (0) (0) (ivs ([]))]from(MF.out.pick [2,3,0] (by decide) rfl)⟩
set_option maxRecDepth 100000 in
set_option maxHeartbeats 8000000 in
theorem implDf_taken (P:Int)(q:Option Addr)(m c2:Nat)(q2:Option Addr)(m2 d2:Nat)(id:Int)(T R:List Visit4)(w:World)(i:Nat)(hi:i<m)(hm:m≤7)(hm2:m2≤5)(hl:Hid (T.length=m))(hl2:Hid (R.length=m2))(HS2:Hid (Sl w q2 m2 d2 4 (R.flatMap visitCells)))(hinv:Hid (∀k,FAt P T R i k (freeAt P (T.eraseIdx i) R k)))
  (HV:Hid (∀w',Ext w w'→Calls Tryd.prog 10 #[.agg #[.int .i64 P,.slice q m c2,.slice q2 m2 d2]] w' fun e w''=>e= .returned (.bool true)∧Ext w' w''))
  (HC:Hid (∀w',Ext w w'→Calls Tryd.prog 53 #[.agg #[.int .i64 P,.slice q m c2,.slice q2 m2 d2]] w' fun e w''=> ∃q5 c5 q6 c6,e= .returned (.agg #[.int .i64 P,.slice q5 m c5,.slice q6 m2 c6])∧Mem w' w'' [ownI w'.heap.size TBk 4 (q5) (m) (c5) (T.flatMap visitCells),ownI w'.heap.size TBk 4 (q6) (m2) (c6) (R.flatMap visitCells)]))
  (HF2:Hid (∀w',Ext w w'→Calls Tryd.prog 42 #[.slice q2 m2 d2,.int .i64 id] w' fun e w''=>e= .returned (.int .i64 (-1))∧Ext w' w''))
  (HF1:Hid (∀w',Ext w w'→Calls Tryd.prog 42 #[.slice q m c2,.int .i64 id] w' fun e w''=>e= .returned (.int .i64 (i:Int))∧Ext w' w'')):
  Calls Tryd.prog 20 #[.agg #[.int .i64 P,.slice q m c2,.slice q2 m2 d2],.int .i64 id] w fun e w'=> ∃qa na ca qb nb cb qc nc cc,e= .returned (.tuple #[.agg #[.int .i64 P,.slice qa na ca,.slice qb nb cb],.slice qc nc cc])∧na=(freeRun P (T.eraseIdx i) R).1.length∧nb=(freeRun P (T.eraseIdx i) R).2.1.length∧nc=(freeRun P (T.eraseIdx i) R).2.2.length∧Mem w w' [ownI w.heap.size TBk 4 (qa) (na) (ca) ((freeRun P (T.eraseIdx i) R).1.flatMap visitCells),ownI w.heap.size TBk 4 (qb) (nb) (cb) ((freeRun P (T.eraseIdx i) R).2.1.flatMap visitCells),ownI w.heap.size TI 1 (qc) (nc) (cc) (ivs ((freeRun P (T.eraseIdx i) R).2.2))]:=by
 go_enter Tryd.func20,Tryd.ntmps20
 go_wp2_with fail
 refine(HV.out _ (((((Mem.start w).blkNew TDk #[.int .i64 P,.slice q m c2,.slice q2 m2 d2] (w.heap.size) (by simp))).blkNew TDk #[.int .i64 0,.slice none 0 0,.slice none 0 0] (w.heap.size+1) (by simp))).ext).mono ?_
 rintro e w1 ⟨rfl,hx1⟩
 have M1:=Lib.hid ((((((Mem.start w).blkNew TDk #[.int .i64 P,.slice q m c2,.slice q2 m2 d2] (w.heap.size) (by simp))).blkNew TDk #[.int .i64 0,.slice none 0 0,.slice none 0 0] (w.heap.size+1) (by simp))).adv hx1)
 have lt1_0:w.heap.size+1<w1.heap.size:=(M1.out.lt (i:=0) rfl rfl).2
 have lt1_1:w.heap.size<w1.heap.size:=(M1.out.lt (i:=1) rfl rfl).2
 clear hx1
 clear HV
 obtain⟨ca0,ca1,ca2⟩:=(M1.out.blk (i:=1) rfl).tri
 go_wp2_with fail
 clear ca0 ca1 ca2
 refine(HC.out _ (M1.out).ext).mono ?_
 rintro e w2 ⟨q5,c5,q6,c6,rfl,hm2⟩
 have M2:=Lib.hid ((M1.out).call2 hm2)
 clear M1
 clear lt1_0 lt1_1
 have lt2_2:w.heap.size+1<w2.heap.size:=(M2.out.lt (i:=2) rfl rfl).2
 have lt2_3:w.heap.size<w2.heap.size:=(M2.out.lt (i:=3) rfl rfl).2
 clear hm2
 clear HC
 have ca2:w2.cell? ⟨w.heap.size,2,none⟩=some (.slice q2 m2 d2):=(M2.out.blk (i:=3) rfl).cell 2
 go_wp2_with fail
 clear ca2
 refine(HF2.out _ (((M2.out).blkNew TDk #[.int .i64 P,.slice q5 m c5,.slice q6 m2 c6] (w2.heap.size) (by simp))).ext).mono ?_
 rintro e w3 ⟨rfl,hx3⟩
 have M3:=Lib.hid ((((M2.out).blkNew TDk #[.int .i64 P,.slice q5 m c5,.slice q6 m2 c6] (w2.heap.size) (by simp))).adv hx3)
 clear M2
 clear lt2_2 lt2_3
 have lt3_0:w2.heap.size<w3.heap.size:=(M3.out.lt (i:=0) rfl rfl).2
 have lt3_3:w.heap.size+1<w3.heap.size:=(M3.out.lt (i:=3) rfl rfl).2
 have lt3_4:w.heap.size<w3.heap.size:=(M3.out.lt (i:=4) rfl rfl).2
 clear hx3
 have ca1:w3.cell? ⟨w.heap.size,1,none⟩=some (.slice q m c2):=(M3.out.blk (i:=4) rfl).cell 1
 go_wp2_with fail
 clear ca1
 refine(HF1.out _ (M3.out).ext).mono ?_
 rintro e w4 ⟨rfl,hx4⟩
 have M4:=Lib.hid ((M3.out).adv hx4)
 clear M3
 clear lt3_0 lt3_3 lt3_4
 have lt4_0:w2.heap.size<w4.heap.size:=(M4.out.lt (i:=0) rfl rfl).2
 have lt4_3:w.heap.size+1<w4.heap.size:=(M4.out.lt (i:=3) rfl rfl).2
 have lt4_4:w.heap.size<w4.heap.size:=(M4.out.lt (i:=4) rfl rfl).2
 clear hx4
 obtain⟨g7,rfl,_,_⟩:=M4.out.some (i:=1) rfl (by omega)
 have HDL:=Lib.hid (del_any g7 m c5 w.heap.size i (i+1) T _ (by omega) hi rfl (M4.out.own (i:=1) rfl))
 rw[show((i+1:Nat):Int)=(i:Int)+1 by omega]at HDL
 have hwi:IntKind.i64.wrap ((i:Int)+1)=(i:Int)+1:=IntWalk.i64_in _ (by omega)
 have ca1:w4.cell? ⟨w2.heap.size,1,none⟩=some (.slice (some ⟨g7,0,none⟩) m c5):=(M4.out.blk (i:=0) rfl).cell 1
 go_wp2_with fail
 clear ca1
 refine(HDL.out).mono ?_
 rintro e w5 ⟨rfl,ho5,hg5⟩
 have M5:=Lib.hid (show Mem w w5 [blkI w.heap.size (w2.heap.size) TDk #[.int .i64 P,.slice (some ⟨g7,0,none⟩) m c5,.slice q6 m2 c6],ownI w.heap.size TBk 4 ((some ⟨g7,0,none⟩)) (m-1) (c5) ((T.eraseIdx i).flatMap visitCells),ownI w.heap.size TBk 4 (q6) (m2) (c6) (R.flatMap visitCells),blkI w.heap.size (w.heap.size+1) TDk #[.int .i64 0,.slice none 0 0,.slice none 0 0],blkI w.heap.size (w.heap.size) TDk #[.int .i64 P,.slice q m c2,.slice q2 m2 d2]]from(M4.out).app (i:=1) rfl ho5 hg5 (.inl rfl))
 clear M4
 clear lt4_0 lt4_3 lt4_4
 have lt5_0:w2.heap.size<w5.heap.size:=(M5.out.lt (i:=0) rfl rfl).2
 have lt5_3:w.heap.size+1<w5.heap.size:=(M5.out.lt (i:=3) rfl rfl).2
 have lt5_4:w.heap.size<w5.heap.size:=(M5.out.lt (i:=4) rfl rfl).2
 clear ho5 hg5 HDL
 have hA:w2.heap.size<w2.heap.size+1:=by omega
 clear hA
 obtain⟨ca0,ca1,ca2⟩:=(M5.out.blk (i:=0) rfl).tri
 have cq1:w5.cell? ⟨w2.heap.size,1,none⟩=some (.slice (some ⟨g7,0,none⟩) m c5):=(M5.out.blk (i:=0) rfl).cell 1
 have cqf1:w5.frozen? ⟨w2.heap.size,1,none⟩=false:=(M5.out.blk (i:=0) rfl).frozen 1
 have cq2:w5.cell? ⟨w2.heap.size,2,none⟩=some (.slice q6 m2 c6):=(M5.out.blk (i:=0) rfl).cell 2
 have cqf2:w5.frozen? ⟨w2.heap.size,2,none⟩=false:=(M5.out.blk (i:=0) rfl).frozen 2
 have cd2:w5.cell? ⟨w.heap.size,2,none⟩=some (.slice q2 m2 d2):=(M5.out.blk (i:=4) rfl).cell 2
 have ne0_1a: ¬(w2.heap.size=w.heap.size):=M5.out.ne (i:=0) (j:=4) (by omega) rfl rfl rfl rfl
 have ne0_1b: ¬(w.heap.size=w2.heap.size):=fun h=>ne0_1a h.symm
 go_wp2
 clear ca0 ca1 ca2 cq1 cqf1 cq2 cqf2 cd2 ne0_1a ne0_1b lt5_0 lt5_3 lt5_4
 have M6:=Lib.hid (show Mem w ((w5.setCell ⟨w2.heap.size,1,none⟩ (.slice (some ⟨g7,0,none⟩) (m-1) c5)).setCell ⟨w2.heap.size,2,none⟩ (.slice none 0 0)) [blkI w.heap.size (w2.heap.size) TDk #[.int .i64 P,.slice (some ⟨g7,0,none⟩) (m-1) c5,.slice none 0 0],ownI w.heap.size TBk 4 ((some ⟨g7,0,none⟩)) (m-1) (c5) ((T.eraseIdx i).flatMap visitCells),ownI w.heap.size TBk 4 (q6) (m2) (c6) (R.flatMap visitCells),blkI w.heap.size (w.heap.size+1) TDk #[.int .i64 0,.slice none 0 0,.slice none 0 0],blkI w.heap.size (w.heap.size) TDk #[.int .i64 P,.slice q m c2,.slice q2 m2 d2]]from((((M5.out).store (i:=0) rfl 1 (.slice (some ⟨g7,0,none⟩) (m-1) c5))).store (i:=0) rfl 2 (.slice none 0 0)))
 generalize hwz:World.setCell _ _ _=wz
 rw[hwz]at M6
 clear hwz M5
 have MS:=Lib.hid (show Mem w wz [ownI w.heap.size TI 1 (none) (0) (0) (ivs ((freeAt P (T.eraseIdx i) R 0).2.2)),ownI w.heap.size TBk 4 ((some ⟨g7,0,none⟩)) (m-1) (c5) ((freeAt P (T.eraseIdx i) R 0).1.flatMap visitCells),ownI w.heap.size TBk 4 (none) (0) (0) ((freeAt P (T.eraseIdx i) R 0).2.1.flatMap visitCells),blkI w.heap.size (w2.heap.size) TDk #[.int .i64 P,.slice (some ⟨g7,0,none⟩) (m-1) c5,.slice none 0 0],blkI w.heap.size (w.heap.size+1) TDk #[.int .i64 0,.slice none 0 0,.slice none 0 0],blkI w.heap.size (w.heap.size) TDk #[.int .i64 P,.slice q m c2,.slice q2 m2 d2]]from by
  rw[freeAt_zero]
  have h:=(M6.out.call (Ext.refl _) (World.ownsRow_nil _ _ TBk 4)).call (Ext.refl _) (World.ownsRow_nil _ _ TI 1)
  exact h.pick [0,3,1,2,5,6] (by decide) rfl)
 clear M6
 generalize w2.heap.size=a at MS
 go_loopw [9,50] (fun v x wr=> ∃(k:Nat) (q7:Option Addr) (l7 c7:Nat) (q8:Option Addr) (l8 c8:Nat) (q9:Option Addr) (l9 c9:Nat),k≤m2∧x= .int .i64 (k:Int)∧v= .slice q9 l9 c9∧l7=(freeAt P (T.eraseIdx i) R k).1.length∧l8=(freeAt P (T.eraseIdx i) R k).2.1.length∧l9=(freeAt P (T.eraseIdx i) R k).2.2.length∧Mem w wr [ownI w.heap.size TI 1 (q9) (l9) (c9) (ivs ((freeAt P (T.eraseIdx i) R k).2.2)),ownI w.heap.size TBk 4 (q7) (l7) (c7) ((freeAt P (T.eraseIdx i) R k).1.flatMap visitCells),ownI w.heap.size TBk 4 (q8) (l8) (c8) ((freeAt P (T.eraseIdx i) R k).2.1.flatMap visitCells),blkI w.heap.size (a) TDk #[.int .i64 P,.slice q7 l7 c7,.slice q8 l8 c8],blkI w.heap.size (w.heap.size+1) TDk #[.int .i64 0,.slice none 0 0,.slice none 0 0],blkI w.heap.size (w.heap.size) TDk #[.int .i64 P,.slice q m c2,.slice q2 m2 d2]]) (fun _ x _=>m2-(intOf x).toNat)
 case atStart=>exact⟨0,(some ⟨g7,0,none⟩),m-1,c5,none,0,0,none,0,0,Nat.zero_le _,rfl,rfl,by rw[freeAt_zero];show _=(T.eraseIdx i).length;rw[List.length_eraseIdx_of_lt (by rw[hl.out];exact hi),hl.out],by rw[freeAt_zero];rfl,by rw[freeAt_zero];rfl,MS.out⟩
 case round=>
  clear MS
  obtain⟨k,q7,l7,c7,q8,l8,c8,q9,l9,c9,hk,rfl,rfl,hl7,hl8,hl9,hM⟩:=hrel
  have HM:=Lib.hid hM
  have HL7:=Lib.hid hl7
  have HL8:=Lib.hid hl8
  have HL9:=Lib.hid hl9
  obtain⟨hb7,hb8,hb9,hup,hne⟩:=hinv.out k
  rw[←hl7]at hb7
  rw[←hl8]at hb8
  rw[←hl9]at hb9
  have HUP:=Lib.hid hup
  have HNE:=Lib.hid hne
  clear hM hl7 hl8 hl9 hup hne
  by_cases hlt:k<m2
  ·obtain⟨b,off,x0,x1,x2,x3,rfl,hv,hb,g0,g1,g2,g3⟩:=visit_at (HS2.out.ext HM.out.ext) hlt
   have hst:=Lib.hid (freeAt_succ (p:=P) (T0:=T.eraseIdx i) hv)
   have HNEV:=Lib.hid (HNE.out _ hv)
   clear hv
   have i1:(0:Int)≤(k:Int):=by omega
   have i2:(k:Int)<(m2:Int):=by omega
   have lt20_3:a<wr.heap.size:=(HM.out.lt (i:=3) rfl rfl).2
   have lt20_4:w.heap.size+1<wr.heap.size:=(HM.out.lt (i:=4) rfl rfl).2
   have lt20_5:w.heap.size<wr.heap.size:=(HM.out.lt (i:=5) rfl rfl).2
   obtain⟨ca0,ca1,ca2⟩:=(HM.out.blk (i:=3) rfl).tri
   have HFI:=Lib.hid (fun w' (hs:Sl w' q7 l7 c7 4 ((freeAt P (T.eraseIdx i) R k).1.flatMap visitCells))=>canTake_any P q7 l7 c7 q8 l8 c8 (freeAt P (T.eraseIdx i) R k).1 x0 x1 x2 x3 w' (by omega) hs HUP.out HNEV.out)
   cases hft:deskFits P (freeAt P (T.eraseIdx i) R k).1 (x0,x1,x2,x3)with
   |true=>
    rw[hft]at HFI
    have hs2:Hid ((freeAt P (T.eraseIdx i) R (k+1))=freeStep P (freeAt P (T.eraseIdx i) R k) (x0,x1,x2,x3)):=hst.out
    have hs3:Hid ((freeAt P (T.eraseIdx i) R (k+1))=(putBook (freeAt P (T.eraseIdx i) R k).1 (x0,x1,x2,x3),(freeAt P (T.eraseIdx i) R k).2.1,(freeAt P (T.eraseIdx i) R k).2.2++ [x0])):=by show _=_;rw[hs2.out];unfold freeStep;simp[hft]
    clear hft hs2 hst
    go_wp2_with fail
    clear ca0 ca1 ca2 g0 g1 g2 g3 hb
    refine(HFI.out _ ((((HM.out).blkNew TBk #[.int .i64 x0,.int .i64 x1,.int .i64 x2,.int .i64 x3] (wr.heap.size) (by simp))).sl (i:=2) rfl)).mono ?_
    rintro e w21 ⟨rfl,hx21⟩
    have M21:=Lib.hid ((((HM.out).blkNew TBk #[.int .i64 x0,.int .i64 x1,.int .i64 x2,.int .i64 x3] (wr.heap.size) (by simp))).adv hx21)
    clear HM
    clear lt20_3 lt20_4 lt20_5
    have lt21_0:wr.heap.size<w21.heap.size:=(M21.out.lt (i:=0) rfl rfl).2
    have lt21_4:a<w21.heap.size:=(M21.out.lt (i:=4) rfl rfl).2
    have lt21_5:w.heap.size+1<w21.heap.size:=(M21.out.lt (i:=5) rfl rfl).2
    have lt21_6:w.heap.size<w21.heap.size:=(M21.out.lt (i:=6) rfl rfl).2
    clear hx21
    clear HFI
    have ca1:w21.cell? ⟨a,1,none⟩=some (.slice q7 l7 c7):=(M21.out.blk (i:=4) rfl).cell 1
    have cb0:w21.cell? ⟨wr.heap.size,0,none⟩=some (.int .i64 x0):=(M21.out.blk (i:=0) rfl).cell 0
    have cb1:w21.cell? ⟨wr.heap.size,1,none⟩=some (.int .i64 x1):=(M21.out.blk (i:=0) rfl).cell 1
    have cb2:w21.cell? ⟨wr.heap.size,2,none⟩=some (.int .i64 x2):=(M21.out.blk (i:=0) rfl).cell 2
    have cb3:w21.cell? ⟨wr.heap.size,3,none⟩=some (.int .i64 x3):=(M21.out.blk (i:=0) rfl).cell 3
    have HWB:=Lib.hid (fun w' (hs:Sl w' q7 l7 c7 4 ((freeAt P (T.eraseIdx i) R k).1.flatMap visitCells))=>withBook_any q7 l7 c7 (freeAt P (T.eraseIdx i) R k).1 x0 x1 x2 x3 w' (by omega) hs HUP.out HNEV.out)
    have hpl:(putBook (freeAt P (T.eraseIdx i) R k).1 (x0,x1,x2,x3)).length=l7+1:=by rw[putBook_len,←HL7.out]
    have HPL:=Lib.hid hpl
    clear hpl
    go_wp2_with fail
    clear ca1 cb0 cb1 cb2 cb3
    refine(HWB.out _ ((M21.out).sl (i:=2) rfl)).mono ?_
    rintro e w22 ⟨q3,c3,rfl,ho22,hx22⟩
    rw[HPL.out]at ho22⊢
    have M22:=Lib.hid ((M21.out).call hx22 ho22)
    clear M21
    clear lt21_0 lt21_4 lt21_5 lt21_6
    have lt22_1:wr.heap.size<w22.heap.size:=(M22.out.lt (i:=1) rfl rfl).2
    have lt22_5:a<w22.heap.size:=(M22.out.lt (i:=5) rfl rfl).2
    have lt22_6:w.heap.size+1<w22.heap.size:=(M22.out.lt (i:=6) rfl rfl).2
    have lt22_7:w.heap.size<w22.heap.size:=(M22.out.lt (i:=7) rfl rfl).2
    clear hx22 ho22 HWB
    have ca1:w22.cell? ⟨a,1,none⟩=some (.slice q7 l7 c7):=(M22.out.blk (i:=5) rfl).cell 1
    have caf1:w22.frozen? ⟨a,1,none⟩=false:=(M22.out.blk (i:=5) rfl).frozen 1
    have cb0:w22.cell? ⟨wr.heap.size,0,none⟩=some (.int .i64 x0):=(M22.out.blk (i:=1) rfl).cell 0
    have ne0_1a: ¬(wr.heap.size=a):=M22.out.ne (i:=1) (j:=5) (by omega) rfl rfl rfl rfl
    have ne0_1b: ¬(a=wr.heap.size):=fun h=>ne0_1a h.symm
    have M23:=Lib.hid (show Mem w (w22.setCell ⟨a,1,none⟩ (.slice q3 (l7+1) c3)) [ownI w.heap.size TBk 4 (q3) (l7+1) (c3) ((putBook (freeAt P (T.eraseIdx i) R k).1 (x0,x1,x2,x3)).flatMap visitCells),blkI w.heap.size (wr.heap.size) TBk #[.int .i64 x0,.int .i64 x1,.int .i64 x2,.int .i64 x3],ownI w.heap.size TI 1 (q9) (l9) (c9) (ivs ((freeAt P (T.eraseIdx i) R k).2.2)),ownI w.heap.size TBk 4 (q7) (l7) (c7) ((freeAt P (T.eraseIdx i) R k).1.flatMap visitCells),ownI w.heap.size TBk 4 (q8) (l8) (c8) ((freeAt P (T.eraseIdx i) R k).2.1.flatMap visitCells),blkI w.heap.size (a) TDk #[.int .i64 P,.slice q3 (l7+1) c3,.slice q8 l8 c8],blkI w.heap.size (w.heap.size+1) TDk #[.int .i64 0,.slice none 0 0,.slice none 0 0],blkI w.heap.size (w.heap.size) TDk #[.int .i64 P,.slice q m c2,.slice (some ⟨b,off,none⟩) m2 d2]]from((M22.out).store (i:=5) rfl 1 (.slice q3 (l7+1) c3)))
    go_wp2_with (at_builtin;go_loud (refine wpList_appM elInt rfl _ _ rfl (M23.out.adv ((Ext.refl _).alloc (.cells #[.int .i64 x0] TI))) 2 rfl rfl [.int .i64 x0] rfl (sl_lit _ _ _ 1 1 _ (by simp) (by simp) (by simp[maxLen])) (iv_one _) (by omega) ?_;intro q4 c4 w9 M9a))
    have M9b:=Lib.hid (show Mem w w9 [ownI w.heap.size TBk 4 (q3) (l7+1) (c3) ((putBook (freeAt P (T.eraseIdx i) R k).1 (x0,x1,x2,x3)).flatMap visitCells),blkI w.heap.size (wr.heap.size) TBk #[.int .i64 x0,.int .i64 x1,.int .i64 x2,.int .i64 x3],ownI w.heap.size TI 1 (q4) (l9+1) (c4) (ivs ((freeAt P (T.eraseIdx i) R k).2.2++ [x0])),ownI w.heap.size TBk 4 (q7) (l7) (c7) ((freeAt P (T.eraseIdx i) R k).1.flatMap visitCells),ownI w.heap.size TBk 4 (q8) (l8) (c8) ((freeAt P (T.eraseIdx i) R k).2.1.flatMap visitCells),blkI w.heap.size (a) TDk #[.int .i64 P,.slice q3 (l7+1) c3,.slice q8 l8 c8],blkI w.heap.size (w.heap.size+1) TDk #[.int .i64 0,.slice none 0 0,.slice none 0 0],blkI w.heap.size (w.heap.size) TDk #[.int .i64 P,.slice q m c2,.slice (some ⟨b,off,none⟩) m2 d2]]from by simpa[ivs,iv]using M9a)
    have M9:=Lib.hid (show Mem w w9 [ownI w.heap.size TI 1 (q4) (l9+1) (c4) (ivs ((freeAt P (T.eraseIdx i) R (k+1)).2.2)),ownI w.heap.size TBk 4 (q3) (l7+1) (c3) ((freeAt P (T.eraseIdx i) R (k+1)).1.flatMap visitCells),ownI w.heap.size TBk 4 (q8) (l8) (c8) ((freeAt P (T.eraseIdx i) R (k+1)).2.1.flatMap visitCells),blkI w.heap.size (a) TDk #[.int .i64 P,.slice q3 (l7+1) c3,.slice q8 l8 c8],blkI w.heap.size (w.heap.size+1) TDk #[.int .i64 0,.slice none 0 0,.slice none 0 0],blkI w.heap.size (w.heap.size) TDk #[.int .i64 P,.slice q m c2,.slice (some ⟨b,off,none⟩) m2 d2]]from by rw[hs3.out];exact M9b.out.pick [2,0,4,5,6,7] (by decide) rfl)
    have h7:Hid (l7+1=(freeAt P (T.eraseIdx i) R (k+1)).1.length):=by show _=_;rw[hs3.out];exact HPL.out.symm
    have h8:Hid (l8=(freeAt P (T.eraseIdx i) R (k+1)).2.1.length):=by show _=_;rw[hs3.out];exact HL8.out
    have h9:Hid (l9+1=(freeAt P (T.eraseIdx i) R (k+1)).2.2.length):=by show _=_;rw[hs3.out];simp[←HL9.out]
    clear M9a M9b ca1 caf1 cb0 ne0_1a ne0_1b lt22_1 lt22_5 lt22_6 lt22_7 M22 M23
    go_wp2
    go_roundw
    case rel=>exact⟨k+1,q3,l7+1,c3,q8,l8,c8,q4,l9+1,c4,by omega,by go_num,rfl,h7.out,h8.out,h9.out,M9.out⟩
    case measure=>simp[intOf];omega
   |false=>
    rw[hft]at HFI
    have hs2:Hid ((freeAt P (T.eraseIdx i) R (k+1))=freeStep P (freeAt P (T.eraseIdx i) R k) (x0,x1,x2,x3)):=hst.out
    have hs3:Hid ((freeAt P (T.eraseIdx i) R (k+1))=((freeAt P (T.eraseIdx i) R k).1,(freeAt P (T.eraseIdx i) R k).2.1++ [(x0,x1,x2,x3)],(freeAt P (T.eraseIdx i) R k).2.2)):=by show _=_;rw[hs2.out];unfold freeStep;simp[hft]
    clear hft hs2 hst
    go_wp2_with fail
    clear ca0 ca1 ca2 g0 g1 g2 g3 hb
    refine(HFI.out _ ((((HM.out).blkNew TBk #[.int .i64 x0,.int .i64 x1,.int .i64 x2,.int .i64 x3] (wr.heap.size) (by simp))).sl (i:=2) rfl)).mono ?_
    rintro e w21 ⟨rfl,hx21⟩
    have M21:=Lib.hid ((((HM.out).blkNew TBk #[.int .i64 x0,.int .i64 x1,.int .i64 x2,.int .i64 x3] (wr.heap.size) (by simp))).adv hx21)
    clear HM
    clear lt20_3 lt20_4 lt20_5
    have lt21_0:wr.heap.size<w21.heap.size:=(M21.out.lt (i:=0) rfl rfl).2
    have lt21_4:a<w21.heap.size:=(M21.out.lt (i:=4) rfl rfl).2
    have lt21_5:w.heap.size+1<w21.heap.size:=(M21.out.lt (i:=5) rfl rfl).2
    have lt21_6:w.heap.size<w21.heap.size:=(M21.out.lt (i:=6) rfl rfl).2
    clear hx21
    clear HFI
    have ca2:w21.cell? ⟨a,2,none⟩=some (.slice q8 l8 c8):=(M21.out.blk (i:=4) rfl).cell 2
    have cb0:w21.cell? ⟨wr.heap.size,0,none⟩=some (.int .i64 x0):=(M21.out.blk (i:=0) rfl).cell 0
    have cb1:w21.cell? ⟨wr.heap.size,1,none⟩=some (.int .i64 x1):=(M21.out.blk (i:=0) rfl).cell 1
    have cb2:w21.cell? ⟨wr.heap.size,2,none⟩=some (.int .i64 x2):=(M21.out.blk (i:=0) rfl).cell 2
    have cb3:w21.cell? ⟨wr.heap.size,3,none⟩=some (.int .i64 x3):=(M21.out.blk (i:=0) rfl).cell 3
    go_wp2_with (at_builtin;go_loud (refine wpList_appM elBk rfl _ _ rfl ((M21.out).adv ((Ext.refl _).alloc (.cells #[.int .i64 x0,.int .i64 x1,.int .i64 x2,.int .i64 x3] TBk))) 3 rfl rfl (visitCells (x0,x1,x2,x3)) rfl (sl_lit _ _ _ 1 4 _ (by simp) (by simp) (by simp[maxLen])) (book_one _) (by omega) ?_;intro q4 c4 w9 M9a;have M9:=Lib.hid (show Mem w w9 [blkI w.heap.size (wr.heap.size) TBk #[.int .i64 x0,.int .i64 x1,.int .i64 x2,.int .i64 x3],ownI w.heap.size TI 1 (q9) (l9) (c9) (ivs ((freeAt P (T.eraseIdx i) R k).2.2)),ownI w.heap.size TBk 4 (q7) (l7) (c7) ((freeAt P (T.eraseIdx i) R k).1.flatMap visitCells),ownI w.heap.size TBk 4 (q4) (l8+1) (c4) ((freeAt P (T.eraseIdx i) R k).2.1.flatMap visitCells++visitCells (x0,x1,x2,x3)),blkI w.heap.size (a) TDk #[.int .i64 P,.slice q7 l7 c7,.slice q8 l8 c8],blkI w.heap.size (w.heap.size+1) TDk #[.int .i64 0,.slice none 0 0,.slice none 0 0],blkI w.heap.size (w.heap.size) TDk #[.int .i64 P,.slice q m c2,.slice (some ⟨b,off,none⟩) m2 d2]]from M9a);clear M9a ca2 cb0 cb1 cb2 cb3 lt21_0 lt21_4 lt21_5 lt21_6 M21;(have lt50_0:wr.heap.size<w9.heap.size:=(M9.out.lt (i:=0) rfl rfl).2);(have lt50_4:a<w9.heap.size:=(M9.out.lt (i:=4) rfl rfl).2);(have lt50_5:w.heap.size+1<w9.heap.size:=(M9.out.lt (i:=5) rfl rfl).2);(have lt50_6:w.heap.size<w9.heap.size:=(M9.out.lt (i:=6) rfl rfl).2);(have cx2:w9.cell? ⟨a,2,none⟩=some (.slice q8 l8 c8):=(M9.out.blk (i:=4) rfl).cell 2);(have cxf2:w9.frozen? ⟨a,2,none⟩=false:=(M9.out.blk (i:=4) rfl).frozen 2)))
    have MT:=Lib.hid (show Mem w (w9.setCell ⟨a,2,none⟩ (.slice q4 (l8+1) c4)) [blkI w.heap.size (wr.heap.size) TBk #[.int .i64 x0,.int .i64 x1,.int .i64 x2,.int .i64 x3],ownI w.heap.size TI 1 (q9) (l9) (c9) (ivs ((freeAt P (T.eraseIdx i) R k).2.2)),ownI w.heap.size TBk 4 (q7) (l7) (c7) ((freeAt P (T.eraseIdx i) R k).1.flatMap visitCells),ownI w.heap.size TBk 4 (q4) (l8+1) (c4) ((freeAt P (T.eraseIdx i) R k).2.1.flatMap visitCells++visitCells (x0,x1,x2,x3)),blkI w.heap.size (a) TDk #[.int .i64 P,.slice q7 l7 c7,.slice q4 (l8+1) c4],blkI w.heap.size (w.heap.size+1) TDk #[.int .i64 0,.slice none 0 0,.slice none 0 0],blkI w.heap.size (w.heap.size) TDk #[.int .i64 P,.slice q m c2,.slice (some ⟨b,off,none⟩) m2 d2]]from M9.out.store (i:=4) rfl 2 (.slice q4 (l8+1) c4))
    have MZ:=Lib.hid (show Mem w (w9.setCell ⟨a,2,none⟩ (.slice q4 (l8+1) c4)) [ownI w.heap.size TI 1 (q9) (l9) (c9) (ivs ((freeAt P (T.eraseIdx i) R (k+1)).2.2)),ownI w.heap.size TBk 4 (q7) (l7) (c7) ((freeAt P (T.eraseIdx i) R (k+1)).1.flatMap visitCells),ownI w.heap.size TBk 4 (q4) (l8+1) (c4) ((freeAt P (T.eraseIdx i) R (k+1)).2.1.flatMap visitCells),blkI w.heap.size (a) TDk #[.int .i64 P,.slice q7 l7 c7,.slice q4 (l8+1) c4],blkI w.heap.size (w.heap.size+1) TDk #[.int .i64 0,.slice none 0 0,.slice none 0 0],blkI w.heap.size (w.heap.size) TDk #[.int .i64 P,.slice q m c2,.slice (some ⟨b,off,none⟩) m2 d2]]from by rw[hs3.out];have h:=MT.out.pick [1,2,3,4,5,6] (L':= [ownI w.heap.size TI 1 (q9) (l9) (c9) (ivs ((freeAt P (T.eraseIdx i) R k).2.2)),ownI w.heap.size TBk 4 (q7) (l7) (c7) ((freeAt P (T.eraseIdx i) R k).1.flatMap visitCells),ownI w.heap.size TBk 4 (q4) (l8+1) (c4) ((freeAt P (T.eraseIdx i) R k).2.1.flatMap visitCells++visitCells (x0,x1,x2,x3)),blkI w.heap.size (a) TDk #[.int .i64 P,.slice q7 l7 c7,.slice q4 (l8+1) c4],blkI w.heap.size (w.heap.size+1) TDk #[.int .i64 0,.slice none 0 0,.slice none 0 0],blkI w.heap.size (w.heap.size) TDk #[.int .i64 P,.slice q m c2,.slice (some ⟨b,off,none⟩) m2 d2]]) (by decide) rfl;simpa using h)
    have h7:Hid (l7=(freeAt P (T.eraseIdx i) R (k+1)).1.length):=by show _=_;rw[hs3.out];exact HL7.out
    have h8:Hid (l8+1=(freeAt P (T.eraseIdx i) R (k+1)).2.1.length):=by show _=_;rw[hs3.out];simp[←HL8.out]
    have h9:Hid (l9=(freeAt P (T.eraseIdx i) R (k+1)).2.2.length):=by show _=_;rw[hs3.out];exact HL9.out
    go_roundw
    case rel=>exact⟨k+1,q7,l7,c7,q4,l8+1,c4,q9,l9,c9,by omega,by go_num,rfl,h7.out,h8.out,h9.out,MZ.out⟩
    case measure=>simp[intOf];omega
  ·obtain rfl:k=m2:=by omega
   have lt20_3:a<wr.heap.size:=(HM.out.lt (i:=3) rfl rfl).2
   have lt20_4:w.heap.size+1<wr.heap.size:=(HM.out.lt (i:=4) rfl rfl).2
   have lt20_5:w.heap.size<wr.heap.size:=(HM.out.lt (i:=5) rfl rfl).2
   obtain⟨ca0,ca1,ca2⟩:=(HM.out.blk (i:=3) rfl).tri
   obtain⟨cz0,czf0,cz1,czf1,cz2,czf2⟩:=(HM.out.blk (i:=4) rfl).trif
   have ne0_1a: ¬(a=w.heap.size+1):=HM.out.ne (i:=3) (j:=4) (by omega) rfl rfl rfl rfl
   have ne0_1b: ¬(w.heap.size+1=a):=fun h=>ne0_1a h.symm
   have hfin:=Lib.hid (freeAt_end P (T.eraseIdx i) R (k:=k) (by rw[hl2.out];exact Nat.le_refl _))
   go_wp2
   clear ca0 ca1 ca2 cz0 czf0 cz1 czf1 cz2 czf2 ne0_1a ne0_1b lt20_3 lt20_4 lt20_5
   have M21:=Lib.hid (((HM.out).put3 (i:=4) rfl (.int .i64 P) (.slice q7 l7 c7) (.slice q8 l8 c8)))
   generalize hwz:World.setCell _ _ _=wz
   rw[hwz]at M21
   clear hwz HM
   obtain⟨y0,y1,y2⟩:=(M21.out.blk (i:=4) rfl).tri
   exact bodyPost_ret (v:= .tuple #[.agg #[.int .i64 P,.slice q7 l7 c7,.slice q8 l8 c8],.slice q9 l9 c9]) (by simp[results,Tryd.results20,go_sem, *]) rfl (by rw[←hfin.out];exact⟨q7,l7,c7,q8,l8,c8,q9,l9,c9,rfl,HL7.out,HL8.out,HL9.out,show Mem w wz [ownI w.heap.size TBk 4 (q7) (l7) (c7) ((freeAt P (T.eraseIdx i) R k).1.flatMap visitCells),ownI w.heap.size TBk 4 (q8) (l8) (c8) ((freeAt P (T.eraseIdx i) R k).2.1.flatMap visitCells),ownI w.heap.size TI 1 (q9) (l9) (c9) (ivs ((freeAt P (T.eraseIdx i) R k).2.2))]from(M21.out.pick [1,2,0] (by decide) rfl)⟩)
end Go.Proofs.YtndcnflchkfaeaaDoor

