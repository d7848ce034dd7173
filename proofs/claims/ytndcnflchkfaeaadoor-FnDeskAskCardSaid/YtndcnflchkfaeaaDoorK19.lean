/-
  Texts of this proof, packed (@packed).
-/
import Derived.Test.YtndcnflchkfaeaaDoorK10
import Derived.Test.YtndcnflchkfaeaaDoorK18
namespace Go.Proofs.YtndcnflchkfaeaaDoor
open Go.RowKit
set_option linter.unusedVariables false
set_option linter.unusedSimpArgs false
theorem sl_none4 (w:World)(p:Option Addr):Sl w p 0 0 4 []:=⟨rfl,Nat.le_refl _,by simp[maxLen],fun h=>absurd h (by omega)⟩
set_option maxRecDepth 100000 in
set_option maxHeartbeats 8000000 in
theorem specDf_bad (P:Int)(q:Option Addr)(m c2:Nat)(q2:Option Addr)(m2 d2:Nat)(id:Int)(T R:List Visit4)(w:World)(HV:Hid (∀w',Ext w w'→Calls Tryd.prog 11 #[.agg #[.int .i64 P,.slice q m c2,.slice q2 m2 d2]] w' fun e w''=>e= .returned (.bool false)∧Ext w' w'')):
  Calls Tryd.prog 21 #[.agg #[.int .i64 P,.slice q m c2,.slice q2 m2 d2],.int .i64 id] w fun e w'=> ∃qc cc,e= .returned (.tuple #[.agg #[.int .i64 0,.slice none 0 0,.slice none 0 0],.slice qc 0 cc])∧Mem w w' [ownI w.heap.size TI 1 (qc) (0) (cc) (ivs ([]))]:=by
 go_enter Tryd.func21,Tryd.ntmps21
 go_wp2_with fail
 refine(HV.out _ (((((((Mem.start w).blkNew TDk #[.int .i64 P,.slice q m c2,.slice q2 m2 d2] (w.heap.size) (by simp))).blkNew TDk #[.int .i64 0,.slice none 0 0,.slice none 0 0] (w.heap.size+1) (by simp))).made0 TI 1 (w.heap.size+1+1) (by simp))).ext).mono ?_
 rintro e w1 ⟨rfl,hx1⟩
 have M1:=Lib.hid ((((((((Mem.start w).blkNew TDk #[.int .i64 P,.slice q m c2,.slice q2 m2 d2] (w.heap.size) (by simp))).blkNew TDk #[.int .i64 0,.slice none 0 0,.slice none 0 0] (w.heap.size+1) (by simp))).made0 TI 1 (w.heap.size+1+1) (by simp))).adv hx1)
 have lt1_1:w.heap.size+1<w1.heap.size:=(M1.out.lt (i:=1) rfl rfl).2
 have lt1_2:w.heap.size<w1.heap.size:=(M1.out.lt (i:=2) rfl rfl).2
 clear hx1
 clear HV
 obtain⟨cz0,czf0,cz1,czf1,cz2,czf2⟩:=(M1.out.blk (i:=1) rfl).trif
 go_wp2
 clear cz0 czf0 cz1 czf1 cz2 czf2 lt1_1 lt1_2
 have M2:=Lib.hid (((M1.out).put3 (i:=1) rfl (.int .i64 0) (.slice none 0 0) (.slice none 0 0)))
 generalize hwz:World.setCell _ _ _=wz
 rw[hwz]at M2
 clear hwz M1
 obtain⟨y0,y1,y2⟩:=(M2.out.blk (i:=1) rfl).tri
 exact bodyPost_ret (v:= .tuple #[.agg #[.int .i64 0,.slice none 0 0,.slice none 0 0],.slice (some ⟨w.heap.size+1+1,0,none⟩) 0 0]) (by simp[results,Tryd.results21,go_sem, *]) rfl ⟨some ⟨w.heap.size+1+1,0,none⟩,0,rfl,show Mem w wz [ownI w.heap.size TI 1 (some ⟨w.heap.size+1+1,0,none⟩) (0) (0) (ivs ([]))]from(M2.out.pick [0] (by decide) rfl)⟩
set_option maxRecDepth 100000 in
set_option maxHeartbeats 8000000 in
theorem specDf_no (P:Int)(q:Option Addr)(m c2:Nat)(q2:Option Addr)(m2 d2:Nat)(id:Int)(T R:List Visit4)(w:World)(HV:Hid (∀w',Ext w w'→Calls Tryd.prog 11 #[.agg #[.int .i64 P,.slice q m c2,.slice q2 m2 d2]] w' fun e w''=>e= .returned (.bool true)∧Ext w' w''))
  (HC:Hid (∀w',Ext w w'→Calls Tryd.prog 55 #[.agg #[.int .i64 P,.slice q m c2,.slice q2 m2 d2]] w' fun e w''=> ∃q5 c5 q6 c6,e= .returned (.agg #[.int .i64 P,.slice q5 m c5,.slice q6 m2 c6])∧Mem w' w'' [ownI w'.heap.size TBk 4 (q5) (m) (c5) (T.flatMap visitCells),ownI w'.heap.size TBk 4 (q6) (m2) (c6) (R.flatMap visitCells)]))
  (HF2:Hid (∀w',Ext w w'→Calls Tryd.prog 47 #[.slice q2 m2 d2,.int .i64 id] w' fun e w''=>e= .returned (.int .i64 (-1))∧Ext w' w''))
  (HF1:Hid (∀w',Ext w w'→Calls Tryd.prog 47 #[.slice q m c2,.int .i64 id] w' fun e w''=>e= .returned (.int .i64 (-1))∧Ext w' w'')):
  Calls Tryd.prog 21 #[.agg #[.int .i64 P,.slice q m c2,.slice q2 m2 d2],.int .i64 id] w fun e w'=> ∃qa ca qb cb qc cc,e= .returned (.tuple #[.agg #[.int .i64 P,.slice qa m ca,.slice qb m2 cb],.slice qc 0 cc])∧Mem w w' [ownI w.heap.size TBk 4 (qa) (m) (ca) (T.flatMap visitCells),ownI w.heap.size TBk 4 (qb) (m2) (cb) (R.flatMap visitCells),ownI w.heap.size TI 1 (qc) (0) (cc) (ivs ([]))]:=by
 go_enter Tryd.func21,Tryd.ntmps21
 go_wp2_with fail
 refine(HV.out _ (((((((Mem.start w).blkNew TDk #[.int .i64 P,.slice q m c2,.slice q2 m2 d2] (w.heap.size) (by simp))).blkNew TDk #[.int .i64 0,.slice none 0 0,.slice none 0 0] (w.heap.size+1) (by simp))).made0 TI 1 (w.heap.size+1+1) (by simp))).ext).mono ?_
 rintro e w1 ⟨rfl,hx1⟩
 have M1:=Lib.hid ((((((((Mem.start w).blkNew TDk #[.int .i64 P,.slice q m c2,.slice q2 m2 d2] (w.heap.size) (by simp))).blkNew TDk #[.int .i64 0,.slice none 0 0,.slice none 0 0] (w.heap.size+1) (by simp))).made0 TI 1 (w.heap.size+1+1) (by simp))).adv hx1)
 have lt1_1:w.heap.size+1<w1.heap.size:=(M1.out.lt (i:=1) rfl rfl).2
 have lt1_2:w.heap.size<w1.heap.size:=(M1.out.lt (i:=2) rfl rfl).2
 clear hx1
 clear HV
 obtain⟨ca0,ca1,ca2⟩:=(M1.out.blk (i:=2) rfl).tri
 go_wp2_with fail
 clear ca0 ca1 ca2
 refine(HC.out _ (M1.out).ext).mono ?_
 rintro e w2 ⟨q5,c5,q6,c6,rfl,hm2⟩
 have M2:=Lib.hid ((M1.out).call2 hm2)
 clear M1
 clear lt1_1 lt1_2
 have lt2_3:w.heap.size+1<w2.heap.size:=(M2.out.lt (i:=3) rfl rfl).2
 have lt2_4:w.heap.size<w2.heap.size:=(M2.out.lt (i:=4) rfl rfl).2
 clear hm2
 clear HC
 have ca2:w2.cell? ⟨w.heap.size,2,none⟩=some (.slice q2 m2 d2):=(M2.out.blk (i:=4) rfl).cell 2
 go_wp2_with fail
 clear ca2
 refine(HF2.out _ (((M2.out).blkNew TDk #[.int .i64 P,.slice q5 m c5,.slice q6 m2 c6] (w2.heap.size) (by simp))).ext).mono ?_
 rintro e w3 ⟨rfl,hx3⟩
 have M3:=Lib.hid ((((M2.out).blkNew TDk #[.int .i64 P,.slice q5 m c5,.slice q6 m2 c6] (w2.heap.size) (by simp))).adv hx3)
 clear M2
 clear lt2_3 lt2_4
 have lt3_0:w2.heap.size<w3.heap.size:=(M3.out.lt (i:=0) rfl rfl).2
 have lt3_4:w.heap.size+1<w3.heap.size:=(M3.out.lt (i:=4) rfl rfl).2
 have lt3_5:w.heap.size<w3.heap.size:=(M3.out.lt (i:=5) rfl rfl).2
 clear hx3
 have ca1:w3.cell? ⟨w.heap.size,1,none⟩=some (.slice q m c2):=(M3.out.blk (i:=5) rfl).cell 1
 go_wp2_with fail
 clear ca1
 refine(HF1.out _ (M3.out).ext).mono ?_
 rintro e w4 ⟨rfl,hx4⟩
 have M4:=Lib.hid ((M3.out).adv hx4)
 clear M3
 clear lt3_0 lt3_4 lt3_5
 have lt4_0:w2.heap.size<w4.heap.size:=(M4.out.lt (i:=0) rfl rfl).2
 have lt4_4:w.heap.size+1<w4.heap.size:=(M4.out.lt (i:=4) rfl rfl).2
 have lt4_5:w.heap.size<w4.heap.size:=(M4.out.lt (i:=5) rfl rfl).2
 clear hx4
 obtain⟨ca0,ca1,ca2⟩:=(M4.out.blk (i:=0) rfl).tri
 obtain⟨cz0,czf0,cz1,czf1,cz2,czf2⟩:=(M4.out.blk (i:=4) rfl).trif
 have ne0_1a: ¬(w2.heap.size=w.heap.size+1):=M4.out.ne (i:=0) (j:=4) (by omega) rfl rfl rfl rfl
 have ne0_1b: ¬(w.heap.size+1=w2.heap.size):=fun h=>ne0_1a h.symm
 go_wp2
 clear ca0 ca1 ca2 cz0 czf0 cz1 czf1 cz2 czf2 ne0_1a ne0_1b lt4_0 lt4_4 lt4_5
 have M5:=Lib.hid (((M4.out).put3 (i:=4) rfl (.int .i64 P) (.slice q5 m c5) (.slice q6 m2 c6)))
 generalize hwz:World.setCell _ _ _=wz
 rw[hwz]at M5
 clear hwz M4
 obtain⟨y0,y1,y2⟩:=(M5.out.blk (i:=4) rfl).tri
 exact bodyPost_ret (v:= .tuple #[.agg #[.int .i64 P,.slice q5 m c5,.slice q6 m2 c6],.slice (some ⟨w.heap.size+1+1,0,none⟩) 0 0]) (by simp[results,Tryd.results21,go_sem, *]) rfl ⟨q5,c5,q6,c6,some ⟨w.heap.size+1+1,0,none⟩,0,rfl,show Mem w wz [ownI w.heap.size TBk 4 (q5) (m) (c5) (T.flatMap visitCells),ownI w.heap.size TBk 4 (q6) (m2) (c6) (R.flatMap visitCells),ownI w.heap.size TI 1 (some ⟨w.heap.size+1+1,0,none⟩) (0) (0) (ivs ([]))]from(M5.out.pick [1,2,3] (by decide) rfl)⟩
set_option maxRecDepth 100000 in
set_option maxHeartbeats 8000000 in
theorem specDf_row (P:Int)(q:Option Addr)(m c2:Nat)(b off:Nat)(m2 d2:Nat)(id:Int)(T R:List Visit4)(w:World)(i:Nat)(hi:i<m2)(hm2:m2≤5)(hcd:i+1<d2)(hlc:m2≤d2)(hd2:d2≤maxLen)(hl2:Hid (R.length=m2))(HS2:Hid (Sl w (some ⟨b,off,none⟩) m2 d2 4 (R.flatMap visitCells)))
  (HV:Hid (∀w',Ext w w'→Calls Tryd.prog 11 #[.agg #[.int .i64 P,.slice q m c2,.slice (some ⟨b,off,none⟩) m2 d2]] w' fun e w''=>e= .returned (.bool true)∧Ext w' w''))
  (HC:Hid (∀w',Ext w w'→Calls Tryd.prog 55 #[.agg #[.int .i64 P,.slice q m c2,.slice (some ⟨b,off,none⟩) m2 d2]] w' fun e w''=> ∃q5 c5 q6 c6,e= .returned (.agg #[.int .i64 P,.slice q5 m c5,.slice q6 m2 c6])∧Mem w' w'' [ownI w'.heap.size TBk 4 (q5) (m) (c5) (T.flatMap visitCells),ownI w'.heap.size TBk 4 (q6) (m2) (c6) (R.flatMap visitCells)]))
  (HF2:Hid (∀w',Ext w w'→Calls Tryd.prog 47 #[.slice (some ⟨b,off,none⟩) m2 d2,.int .i64 id] w' fun e w''=>e= .returned (.int .i64 (i:Int))∧Ext w' w'')):
  Calls Tryd.prog 21 #[.agg #[.int .i64 P,.slice q m c2,.slice (some ⟨b,off,none⟩) m2 d2],.int .i64 id] w fun e w'=> ∃qa ca qb cb qc cc,e= .returned (.tuple #[.agg #[.int .i64 P,.slice qa m ca,.slice qb (m2-1) cb],.slice qc 0 cc])∧Mem w w' [ownI w.heap.size TBk 4 (qa) (m) (ca) (T.flatMap visitCells),ownI w.heap.size TBk 4 (qb) (m2-1) (cb) ((R.eraseIdx i).flatMap visitCells),ownI w.heap.size TI 1 (qc) (0) (cc) (ivs ([]))]:=by
 go_enter Tryd.func21,Tryd.ntmps21
 go_wp2_with fail
 refine(HV.out _ (((((((Mem.start w).blkNew TDk #[.int .i64 P,.slice q m c2,.slice (some ⟨b,off,none⟩) m2 d2] (w.heap.size) (by simp))).blkNew TDk #[.int .i64 0,.slice none 0 0,.slice none 0 0] (w.heap.size+1) (by simp))).made0 TI 1 (w.heap.size+1+1) (by simp))).ext).mono ?_
 rintro e w1 ⟨rfl,hx1⟩
 have M1:=Lib.hid ((((((((Mem.start w).blkNew TDk #[.int .i64 P,.slice q m c2,.slice (some ⟨b,off,none⟩) m2 d2] (w.heap.size) (by simp))).blkNew TDk #[.int .i64 0,.slice none 0 0,.slice none 0 0] (w.heap.size+1) (by simp))).made0 TI 1 (w.heap.size+1+1) (by simp))).adv hx1)
 have lt1_1:w.heap.size+1<w1.heap.size:=(M1.out.lt (i:=1) rfl rfl).2
 have lt1_2:w.heap.size<w1.heap.size:=(M1.out.lt (i:=2) rfl rfl).2
 clear hx1
 clear HV
 obtain⟨ca0,ca1,ca2⟩:=(M1.out.blk (i:=2) rfl).tri
 go_wp2_with fail
 clear ca0 ca1 ca2
 refine(HC.out _ (M1.out).ext).mono ?_
 rintro e w2 ⟨q5,c5,q6,c6,rfl,hm2⟩
 have M2:=Lib.hid ((M1.out).call2 hm2)
 clear M1
 clear lt1_1 lt1_2
 have lt2_3:w.heap.size+1<w2.heap.size:=(M2.out.lt (i:=3) rfl rfl).2
 have lt2_4:w.heap.size<w2.heap.size:=(M2.out.lt (i:=4) rfl rfl).2
 clear hm2
 clear HC
 have ca2:w2.cell? ⟨w.heap.size,2,none⟩=some (.slice (some ⟨b,off,none⟩) m2 d2):=(M2.out.blk (i:=4) rfl).cell 2
 go_wp2_with fail
 clear ca2
 refine(HF2.out _ (((M2.out).blkNew TDk #[.int .i64 P,.slice q5 m c5,.slice q6 m2 c6] (w2.heap.size) (by simp))).ext).mono ?_
 rintro e w3 ⟨rfl,hx3⟩
 have M3:=Lib.hid ((((M2.out).blkNew TDk #[.int .i64 P,.slice q5 m c5,.slice q6 m2 c6] (w2.heap.size) (by simp))).adv hx3)
 clear M2
 clear lt2_3 lt2_4
 have lt3_0:w2.heap.size<w3.heap.size:=(M3.out.lt (i:=0) rfl rfl).2
 have lt3_4:w.heap.size+1<w3.heap.size:=(M3.out.lt (i:=4) rfl rfl).2
 have lt3_5:w.heap.size<w3.heap.size:=(M3.out.lt (i:=5) rfl rfl).2
 clear hx3
 have hwi:IntKind.i64.wrap ((i:Int)+1)=(i:Int)+1:=IntWalk.i64_in _ (by omega)
 have j1:(0:Int)≤(i:Int):=by omega
 have j2:(i:Int)≤(m2:Int):=by omega
 have j3:(0:Int)≤(i:Int)+1:=by omega
 have j4:(i:Int)+1≤(m2:Int):=by omega
 have j5:(i:Int)≤(d2:Int):=by omega
 have hck: ¬d2=i+1:=by omega
 have hsu:((i:Int)+1).toNat=i+1:=by omega
 obtain⟨ca0,ca1,ca2⟩:=(M3.out.blk (i:=5) rfl).tri
 have nq0_1a: ¬(w2.heap.size=w.heap.size):=M3.out.ne (i:=0) (j:=5) (by omega) rfl rfl rfl rfl
 have nq0_1b: ¬(w.heap.size=w2.heap.size):=fun h=>nq0_1a h.symm
 go_wp2
 go_region_held3 (fun w'=>w'.cell? ⟨w.heap.size,0,none⟩=some (.int .i64 P)∧w'.cell? ⟨w.heap.size,1,none⟩=some (.slice q m c2)∧w'.cell? ⟨w.heap.size,2,none⟩=some (.slice (some ⟨b,off,none⟩) m2 d2)) (first|(refine⟨?_,?_,?_⟩<;>assumption)|go_keep) (first
  |(refine step_appM elBk (by rfl) _ _ (by rfl) (by first|exact(M3.out.made0 TBk 4 (w3.heap.size) rfl)|exact(M3.out.made0 TBk 4 (w3.heap.size) rfl).adv (Ext.drew (Ext.refl _))) 0 (by rfl) (by rfl) ((R.take i).flatMap visitCells) (by rfl) (bk_take (HS2.out.ext (M3.out.ext.trans (by(repeat' (first|exact Ext.refl _|(with_reducible assumption)|(with_reducible refine Ext.alloc ?_ _)|(with_reducible refine Ext.setCell ?_ (by first|exact Nat.le_refl _|(dsimp only;omega)|(simp;done)|(simp;omega)) _)|(with_reducible refine Ext.drew ?_)|(with_reducible refine Ext.drewN ?_ _)|(refine Ext.trans ?_ (by with_reducible assumption))))))) (by omega)) (books_one _) (by omega) ?_
    intro q7 c7 w8 M8
    rw[show 0+i=i from Nat.zero_add i]at M8⊢
    have MA:=Lib.hid (show Mem w w8 [ownI w.heap.size TBk 4 (q7) (i) (c7) ((R.take i).flatMap visitCells),blkI w.heap.size (w2.heap.size) TDk #[.int .i64 P,.slice q5 m c5,.slice q6 m2 c6],ownI w.heap.size TBk 4 (q5) (m) (c5) (T.flatMap visitCells),ownI w.heap.size TBk 4 (q6) (m2) (c6) (R.flatMap visitCells),ownI w.heap.size TI 1 (some ⟨w.heap.size+1+1,0,none⟩) (0) (0) ([]),blkI w.heap.size (w.heap.size+1) TDk #[.int .i64 0,.slice none 0 0,.slice none 0 0],blkI w.heap.size (w.heap.size) TDk #[.int .i64 P,.slice q m c2,.slice (some ⟨b,off,none⟩) m2 d2]]from by simpa only[Nat.zero_add,List.nil_append,List.set_cons_zero,List.set_cons_succ]using M8)
    clear M8
    obtain⟨cb0,cb1,cb2⟩:=(MA.out.blk (i:=6) rfl).tri
    have lt8:w.heap.size<w8.heap.size:=(MA.out.lt (i:=6) rfl rfl).2)
  |(refine step_appM elBk (by rfl) _ _ (by rfl) (by first|exact MA.out|exact MA.out.adv (Ext.drew (Ext.refl _))) 0 (by rfl) (by rfl) ((R.drop (i+1)).flatMap visitCells) (by rfl) (drop_books (i+1) R▸sl_dropZ (HS2.out.ext (MA.out.ext.trans (by(repeat' (first|exact Ext.refl _|(with_reducible assumption)|(with_reducible refine Ext.alloc ?_ _)|(with_reducible refine Ext.setCell ?_ (by first|exact Nat.le_refl _|(dsimp only;omega)|(simp;done)|(simp;omega)) _)|(with_reducible refine Ext.drew ?_)|(with_reducible refine Ext.drewN ?_ _)|(refine Ext.trans ?_ (by with_reducible assumption))))))) (by omega)) (books_one _) (by omega) ?_
    intro q8 c8 w9 M9
    have e8:i+(m2-(i+1))=m2-1:=by omega
    rw[e8]at M9⊢
    clear e8
    have MB:=Lib.hid (show Mem w w9 [ownI w.heap.size TBk 4 (q8) ((m2-1)) (c8) ((R.eraseIdx i).flatMap visitCells),blkI w.heap.size (w2.heap.size) TDk #[.int .i64 P,.slice q5 m c5,.slice q6 m2 c6],ownI w.heap.size TBk 4 (q5) (m) (c5) (T.flatMap visitCells),ownI w.heap.size TBk 4 (q6) (m2) (c6) (R.flatMap visitCells),ownI w.heap.size TI 1 (some ⟨w.heap.size+1+1,0,none⟩) (0) (0) ([]),blkI w.heap.size (w.heap.size+1) TDk #[.int .i64 0,.slice none 0 0,.slice none 0 0],blkI w.heap.size (w.heap.size) TDk #[.int .i64 P,.slice q m c2,.slice (some ⟨b,off,none⟩) m2 d2]]from by rw[List.eraseIdx_eq_take_drop_succ,List.flatMap_append];simpa only[Nat.zero_add,List.nil_append,List.set_cons_zero,List.set_cons_succ]using M9)
    clear M9
    obtain⟨cb0,cb1,cb2⟩:=(MB.out.blk (i:=6) rfl).tri
    obtain⟨y0,yf0,y1,yf1,y2,yf2⟩:=(MB.out.blk (i:=1) rfl).trif
    have lt9:w.heap.size<w9.heap.size:=(MB.out.lt (i:=6) rfl rfl).2))
 all_goals (
  clear ca0 ca1 ca2 cb0 cb1 cb2 y0 yf0 y1 yf1 y2 yf2
  have lt30_1:w2.heap.size<w9.heap.size:=(MB.out.lt (i:=1) rfl rfl).2
  have lt30_5:w.heap.size+1<w9.heap.size:=(MB.out.lt (i:=5) rfl rfl).2
  have lt30_6:w.heap.size<w9.heap.size:=(MB.out.lt (i:=6) rfl rfl).2
  have MC:=Lib.hid (show Mem w (w9.setCell ⟨w2.heap.size,2,none⟩ (.slice q8 (m2-1) c8)) [ownI w.heap.size TBk 4 (q8) ((m2-1)) (c8) ((R.eraseIdx i).flatMap visitCells),blkI w.heap.size (w2.heap.size) TDk #[.int .i64 P,.slice q5 m c5,.slice q8 (m2-1) c8],ownI w.heap.size TBk 4 (q5) (m) (c5) (T.flatMap visitCells),ownI w.heap.size TBk 4 (q6) (m2) (c6) (R.flatMap visitCells),ownI w.heap.size TI 1 (some ⟨w.heap.size+1+1,0,none⟩) (0) (0) ([]),blkI w.heap.size (w.heap.size+1) TDk #[.int .i64 0,.slice none 0 0,.slice none 0 0],blkI w.heap.size (w.heap.size) TDk #[.int .i64 P,.slice q m c2,.slice (some ⟨b,off,none⟩) m2 d2]]from MB.out.store (i:=1) rfl 2 (.slice q8 (m2-1) c8))
  generalize hwz0:World.setCell _ _ _=wy
  rw[hwz0]at MC
  clear hwz0 MB lt30_1 lt30_5 lt30_6
  have lt30_1:w2.heap.size<wy.heap.size:=(MC.out.lt (i:=1) rfl rfl).2
  have lt30_5:w.heap.size+1<wy.heap.size:=(MC.out.lt (i:=5) rfl rfl).2
  have lt30_6:w.heap.size<wy.heap.size:=(MC.out.lt (i:=6) rfl rfl).2
  obtain⟨ca0,ca1,ca2⟩:=(MC.out.blk (i:=1) rfl).tri
  obtain⟨cz0,czf0,cz1,czf1,cz2,czf2⟩:=(MC.out.blk (i:=5) rfl).trif
  have ne0_1a: ¬(w2.heap.size=w.heap.size+1):=MC.out.ne (i:=1) (j:=5) (by omega) rfl rfl rfl rfl
  have ne0_1b: ¬(w.heap.size+1=w2.heap.size):=fun h=>ne0_1a h.symm
  go_wp2
  clear ca0 ca1 ca2 cz0 czf0 cz1 czf1 cz2 czf2 ne0_1a ne0_1b lt30_1 lt30_5 lt30_6
  have M31:=Lib.hid (((MC.out).put3 (i:=5) rfl (.int .i64 P) (.slice q5 m c5) (.slice q8 (m2-1) c8)))
  generalize hwz:World.setCell _ _ _=wz
  rw[hwz]at M31
  clear hwz MC
  obtain⟨y0,y1,y2⟩:=(M31.out.blk (i:=5) rfl).tri
  exact bodyPost_ret (v:= .tuple #[.agg #[.int .i64 P,.slice q5 m c5,.slice q8 (m2-1) c8],.slice (some ⟨w.heap.size+1+1,0,none⟩) 0 0]) (by simp[results,Tryd.results21,go_sem, *]) rfl ⟨q5,c5,q8,c8,some ⟨w.heap.size+1+1,0,none⟩,0,rfl,show Mem w wz [ownI w.heap.size TBk 4 (q5) (m) (c5) (T.flatMap visitCells),ownI w.heap.size TBk 4 (q8) ((m2-1)) (c8) ((R.eraseIdx i).flatMap visitCells),ownI w.heap.size TI 1 (some ⟨w.heap.size+1+1,0,none⟩) (0) (0) (ivs ([]))]from(M31.out.pick [2,0,4] (by decide) rfl)⟩)
set_option maxRecDepth 100000 in
set_option maxHeartbeats 8000000 in
theorem specDf_taken (P:Int)(bq oq:Nat)(m c2:Nat)(q2:Option Addr)(m2 d2:Nat)(id:Int)(T R:List Visit4)(w:World)(i:Nat)(hi:i<m)(hm:m≤7)(hm2:m2≤5)(hcd:i+1<c2)(hlc:m≤c2)(hc2:c2≤maxLen)(hl:Hid (T.length=m))(hl2:Hid (R.length=m2))(HS:Hid (Sl w (some ⟨bq,oq,none⟩) m c2 4 (T.flatMap visitCells)))(HS2:Hid (Sl w q2 m2 d2 4 (R.flatMap visitCells)))(hinv:Hid (∀k,FAt P T R i k (freeAt P (T.eraseIdx i) R k)))
  (HV:Hid (∀w',Ext w w'→Calls Tryd.prog 11 #[.agg #[.int .i64 P,.slice (some ⟨bq,oq,none⟩) m c2,.slice q2 m2 d2]] w' fun e w''=>e= .returned (.bool true)∧Ext w' w''))
  (HC:Hid (∀w',Ext w w'→Calls Tryd.prog 55 #[.agg #[.int .i64 P,.slice (some ⟨bq,oq,none⟩) m c2,.slice q2 m2 d2]] w' fun e w''=> ∃q5 c5 q6 c6,e= .returned (.agg #[.int .i64 P,.slice q5 m c5,.slice q6 m2 c6])∧Mem w' w'' [ownI w'.heap.size TBk 4 (q5) (m) (c5) (T.flatMap visitCells),ownI w'.heap.size TBk 4 (q6) (m2) (c6) (R.flatMap visitCells)]))
  (HF2:Hid (∀w',Ext w w'→Calls Tryd.prog 47 #[.slice q2 m2 d2,.int .i64 id] w' fun e w''=>e= .returned (.int .i64 (-1))∧Ext w' w''))
  (HF1:Hid (∀w',Ext w w'→Calls Tryd.prog 47 #[.slice (some ⟨bq,oq,none⟩) m c2,.int .i64 id] w' fun e w''=>e= .returned (.int .i64 (i:Int))∧Ext w' w'')):
  Calls Tryd.prog 21 #[.agg #[.int .i64 P,.slice (some ⟨bq,oq,none⟩) m c2,.slice q2 m2 d2],.int .i64 id] w fun e w'=> ∃qa na ca qb nb cb qc nc cc,e= .returned (.tuple #[.agg #[.int .i64 P,.slice qa na ca,.slice qb nb cb],.slice qc nc cc])∧na=(freeRun P (T.eraseIdx i) R).1.length∧nb=(freeRun P (T.eraseIdx i) R).2.1.length∧nc=(freeRun P (T.eraseIdx i) R).2.2.length∧Mem w w' [ownI w.heap.size TBk 4 (qa) (na) (ca) ((freeRun P (T.eraseIdx i) R).1.flatMap visitCells),ownI w.heap.size TBk 4 (qb) (nb) (cb) ((freeRun P (T.eraseIdx i) R).2.1.flatMap visitCells),ownI w.heap.size TI 1 (qc) (nc) (cc) (ivs ((freeRun P (T.eraseIdx i) R).2.2))]:=by
 go_enter Tryd.func21,Tryd.ntmps21
 go_wp2_with fail
 refine(HV.out _ (((((((Mem.start w).blkNew TDk #[.int .i64 P,.slice (some ⟨bq,oq,none⟩) m c2,.slice q2 m2 d2] (w.heap.size) (by simp))).blkNew TDk #[.int .i64 0,.slice none 0 0,.slice none 0 0] (w.heap.size+1) (by simp))).made0 TI 1 (w.heap.size+1+1) (by simp))).ext).mono ?_
 rintro e w1 ⟨rfl,hx1⟩
 have M1:=Lib.hid ((((((((Mem.start w).blkNew TDk #[.int .i64 P,.slice (some ⟨bq,oq,none⟩) m c2,.slice q2 m2 d2] (w.heap.size) (by simp))).blkNew TDk #[.int .i64 0,.slice none 0 0,.slice none 0 0] (w.heap.size+1) (by simp))).made0 TI 1 (w.heap.size+1+1) (by simp))).adv hx1)
 have lt1_1:w.heap.size+1<w1.heap.size:=(M1.out.lt (i:=1) rfl rfl).2
 have lt1_2:w.heap.size<w1.heap.size:=(M1.out.lt (i:=2) rfl rfl).2
 clear hx1
 clear HV
 obtain⟨ca0,ca1,ca2⟩:=(M1.out.blk (i:=2) rfl).tri
 go_wp2_with fail
 clear ca0 ca1 ca2
 refine(HC.out _ (M1.out).ext).mono ?_
 rintro e w2 ⟨q5,c5,q6,c6,rfl,hm2⟩
 have M2:=Lib.hid ((M1.out).call2 hm2)
 clear M1
 clear lt1_1 lt1_2
 have lt2_3:w.heap.size+1<w2.heap.size:=(M2.out.lt (i:=3) rfl rfl).2
 have lt2_4:w.heap.size<w2.heap.size:=(M2.out.lt (i:=4) rfl rfl).2
 clear hm2
 clear HC
 have ca2:w2.cell? ⟨w.heap.size,2,none⟩=some (.slice q2 m2 d2):=(M2.out.blk (i:=4) rfl).cell 2
 go_wp2_with fail
 clear ca2
 refine(HF2.out _ (((M2.out).blkNew TDk #[.int .i64 P,.slice q5 m c5,.slice q6 m2 c6] (w2.heap.size) (by simp))).ext).mono ?_
 rintro e w3 ⟨rfl,hx3⟩
 have M3:=Lib.hid ((((M2.out).blkNew TDk #[.int .i64 P,.slice q5 m c5,.slice q6 m2 c6] (w2.heap.size) (by simp))).adv hx3)
 clear M2
 clear lt2_3 lt2_4
 have lt3_0:w2.heap.size<w3.heap.size:=(M3.out.lt (i:=0) rfl rfl).2
 have lt3_4:w.heap.size+1<w3.heap.size:=(M3.out.lt (i:=4) rfl rfl).2
 have lt3_5:w.heap.size<w3.heap.size:=(M3.out.lt (i:=5) rfl rfl).2
 clear hx3
 have ca1:w3.cell? ⟨w.heap.size,1,none⟩=some (.slice (some ⟨bq,oq,none⟩) m c2):=(M3.out.blk (i:=5) rfl).cell 1
 go_wp2_with fail
 clear ca1
 refine(HF1.out _ (M3.out).ext).mono ?_
 rintro e w4 ⟨rfl,hx4⟩
 have M4:=Lib.hid ((M3.out).adv hx4)
 clear M3
 clear lt3_0 lt3_4 lt3_5
 have lt4_0:w2.heap.size<w4.heap.size:=(M4.out.lt (i:=0) rfl rfl).2
 have lt4_4:w.heap.size+1<w4.heap.size:=(M4.out.lt (i:=4) rfl rfl).2
 have lt4_5:w.heap.size<w4.heap.size:=(M4.out.lt (i:=5) rfl rfl).2
 clear hx4
 have hwi:IntKind.i64.wrap ((i:Int)+1)=(i:Int)+1:=IntWalk.i64_in _ (by omega)
 have j1:(0:Int)≤(i:Int):=by omega
 have j2:(i:Int)≤(m:Int):=by omega
 have j3:(0:Int)≤(i:Int)+1:=by omega
 have j4:(i:Int)+1≤(m:Int):=by omega
 have j5:(i:Int)≤(c2:Int):=by omega
 have hck: ¬c2=i+1:=by omega
 have hsu:((i:Int)+1).toNat=i+1:=by omega
 obtain⟨ca0,ca1,ca2⟩:=(M4.out.blk (i:=5) rfl).tri
 have nq0_1a: ¬(w2.heap.size=w.heap.size):=M4.out.ne (i:=0) (j:=5) (by omega) rfl rfl rfl rfl
 have nq0_1b: ¬(w.heap.size=w2.heap.size):=fun h=>nq0_1a h.symm
 go_wp2
 go_region_held3 (fun w'=>w'.cell? ⟨w.heap.size,0,none⟩=some (.int .i64 P)∧w'.cell? ⟨w.heap.size,1,none⟩=some (.slice (some ⟨bq,oq,none⟩) m c2)∧w'.cell? ⟨w.heap.size,2,none⟩=some (.slice q2 m2 d2)) (first|(refine⟨?_,?_,?_⟩<;>assumption)|go_keep) (first
  |(refine step_appM elBk (by rfl) _ _ (by rfl) (by first|exact(M4.out.made0 TBk 4 (w4.heap.size) rfl)|exact(M4.out.made0 TBk 4 (w4.heap.size) rfl).adv (Ext.drew (Ext.refl _))) 0 (by rfl) (by rfl) ((T.take i).flatMap visitCells) (by rfl) (bk_take (HS.out.ext (M4.out.ext.trans (by(repeat' (first|exact Ext.refl _|(with_reducible assumption)|(with_reducible refine Ext.alloc ?_ _)|(with_reducible refine Ext.setCell ?_ (by first|exact Nat.le_refl _|(dsimp only;omega)|(simp;done)|(simp;omega)) _)|(with_reducible refine Ext.drew ?_)|(with_reducible refine Ext.drewN ?_ _)|(refine Ext.trans ?_ (by with_reducible assumption))))))) (by omega)) (books_one _) (by omega) ?_
    intro q7 c7 w8 M8
    rw[show 0+i=i from Nat.zero_add i]at M8⊢
    have MA:=Lib.hid (show Mem w w8 [ownI w.heap.size TBk 4 (q7) (i) (c7) ((T.take i).flatMap visitCells),blkI w.heap.size (w2.heap.size) TDk #[.int .i64 P,.slice q5 m c5,.slice q6 m2 c6],ownI w.heap.size TBk 4 (q5) (m) (c5) (T.flatMap visitCells),ownI w.heap.size TBk 4 (q6) (m2) (c6) (R.flatMap visitCells),ownI w.heap.size TI 1 (some ⟨w.heap.size+1+1,0,none⟩) (0) (0) ([]),blkI w.heap.size (w.heap.size+1) TDk #[.int .i64 0,.slice none 0 0,.slice none 0 0],blkI w.heap.size (w.heap.size) TDk #[.int .i64 P,.slice (some ⟨bq,oq,none⟩) m c2,.slice q2 m2 d2]]from by simpa only[Nat.zero_add,List.nil_append,List.set_cons_zero,List.set_cons_succ]using M8)
    clear M8
    obtain⟨cb0,cb1,cb2⟩:=(MA.out.blk (i:=6) rfl).tri
    have lt8:w.heap.size<w8.heap.size:=(MA.out.lt (i:=6) rfl rfl).2)
  |(refine step_appM elBk (by rfl) _ _ (by rfl) (by first|exact MA.out|exact MA.out.adv (Ext.drew (Ext.refl _))) 0 (by rfl) (by rfl) ((T.drop (i+1)).flatMap visitCells) (by rfl) (drop_books (i+1) T▸sl_dropZ (HS.out.ext (MA.out.ext.trans (by(repeat' (first|exact Ext.refl _|(with_reducible assumption)|(with_reducible refine Ext.alloc ?_ _)|(with_reducible refine Ext.setCell ?_ (by first|exact Nat.le_refl _|(dsimp only;omega)|(simp;done)|(simp;omega)) _)|(with_reducible refine Ext.drew ?_)|(with_reducible refine Ext.drewN ?_ _)|(refine Ext.trans ?_ (by with_reducible assumption))))))) (by omega)) (books_one _) (by omega) ?_
    intro q8 c8 w9 M9
    have e8:i+(m-(i+1))=m-1:=by omega
    rw[e8]at M9⊢
    clear e8
    have MB:=Lib.hid (show Mem w w9 [ownI w.heap.size TBk 4 (q8) ((m-1)) (c8) ((T.eraseIdx i).flatMap visitCells),blkI w.heap.size (w2.heap.size) TDk #[.int .i64 P,.slice q5 m c5,.slice q6 m2 c6],ownI w.heap.size TBk 4 (q5) (m) (c5) (T.flatMap visitCells),ownI w.heap.size TBk 4 (q6) (m2) (c6) (R.flatMap visitCells),ownI w.heap.size TI 1 (some ⟨w.heap.size+1+1,0,none⟩) (0) (0) ([]),blkI w.heap.size (w.heap.size+1) TDk #[.int .i64 0,.slice none 0 0,.slice none 0 0],blkI w.heap.size (w.heap.size) TDk #[.int .i64 P,.slice (some ⟨bq,oq,none⟩) m c2,.slice q2 m2 d2]]from by rw[List.eraseIdx_eq_take_drop_succ,List.flatMap_append];simpa only[Nat.zero_add,List.nil_append,List.set_cons_zero,List.set_cons_succ]using M9)
    clear M9
    obtain⟨cb0,cb1,cb2⟩:=(MB.out.blk (i:=6) rfl).tri
    obtain⟨y0,yf0,y1,yf1,y2,yf2⟩:=(MB.out.blk (i:=1) rfl).trif
    have lt9:w.heap.size<w9.heap.size:=(MB.out.lt (i:=6) rfl rfl).2))
 all_goals (
  clear ca0 ca1 ca2 cb0 cb1 cb2 y0 yf0 y1 yf1 y2 yf2
  have lt30_1:w2.heap.size<w9.heap.size:=(MB.out.lt (i:=1) rfl rfl).2
  have lt30_5:w.heap.size+1<w9.heap.size:=(MB.out.lt (i:=5) rfl rfl).2
  have lt30_6:w.heap.size<w9.heap.size:=(MB.out.lt (i:=6) rfl rfl).2
  have MC:=Lib.hid (show Mem w (w9.setCell ⟨w2.heap.size,1,none⟩ (.slice q8 (m-1) c8)) [ownI w.heap.size TBk 4 (q8) ((m-1)) (c8) ((T.eraseIdx i).flatMap visitCells),blkI w.heap.size (w2.heap.size) TDk #[.int .i64 P,.slice q8 (m-1) c8,.slice q6 m2 c6],ownI w.heap.size TBk 4 (q5) (m) (c5) (T.flatMap visitCells),ownI w.heap.size TBk 4 (q6) (m2) (c6) (R.flatMap visitCells),ownI w.heap.size TI 1 (some ⟨w.heap.size+1+1,0,none⟩) (0) (0) ([]),blkI w.heap.size (w.heap.size+1) TDk #[.int .i64 0,.slice none 0 0,.slice none 0 0],blkI w.heap.size (w.heap.size) TDk #[.int .i64 P,.slice (some ⟨bq,oq,none⟩) m c2,.slice q2 m2 d2]]from MB.out.store (i:=1) rfl 1 (.slice q8 (m-1) c8))
  generalize hwz0:World.setCell _ _ _=wy
  rw[hwz0]at MC
  clear hwz0 MB lt30_1 lt30_5 lt30_6
  have lt30_1:w2.heap.size<wy.heap.size:=(MC.out.lt (i:=1) rfl rfl).2
  have lt30_5:w.heap.size+1<wy.heap.size:=(MC.out.lt (i:=5) rfl rfl).2
  have lt30_6:w.heap.size<wy.heap.size:=(MC.out.lt (i:=6) rfl rfl).2
  obtain⟨ca0,ca1,ca2⟩:=(MC.out.blk (i:=1) rfl).tri
  have cq2:wy.cell? ⟨w2.heap.size,2,none⟩=some (.slice q6 m2 c6):=(MC.out.blk (i:=1) rfl).cell 2
  have cqf2:wy.frozen? ⟨w2.heap.size,2,none⟩=false:=(MC.out.blk (i:=1) rfl).frozen 2
  go_wp2
  clear ca0 ca1 ca2 cq2 cqf2 lt30_1 lt30_5 lt30_6
  have MW:=Lib.hid (show Mem w (((wy.setCell ⟨w2.heap.size,2,none⟩ (.slice (some ⟨wy.heap.size,0,none⟩) 0 0))).alloc (.cells #[] TBk)) [ownI w.heap.size TBk 4 (some ⟨wy.heap.size,0,none⟩) (0) (0) ([]),ownI w.heap.size TBk 4 (q8) ((m-1)) (c8) ((T.eraseIdx i).flatMap visitCells),blkI w.heap.size (w2.heap.size) TDk #[.int .i64 P,.slice q8 (m-1) c8,.slice (some ⟨wy.heap.size,0,none⟩) 0 0],ownI w.heap.size TBk 4 (q5) (m) (c5) (T.flatMap visitCells),ownI w.heap.size TBk 4 (q6) (m2) (c6) (R.flatMap visitCells),ownI w.heap.size TI 1 (some ⟨w.heap.size+1+1,0,none⟩) (0) (0) ([]),blkI w.heap.size (w.heap.size+1) TDk #[.int .i64 0,.slice none 0 0,.slice none 0 0],blkI w.heap.size (w.heap.size) TDk #[.int .i64 P,.slice (some ⟨bq,oq,none⟩) m c2,.slice q2 m2 d2]]from((((MC.out).store (i:=1) rfl 2 (.slice (some ⟨wy.heap.size,0,none⟩) 0 0))).made0 TBk 4 (wy.heap.size) (by simp)))
  generalize hwz:World.alloc (World.setCell _ _ _) _=wz
  rw[hwz]at MW
  clear hwz MC
  have MS:=Lib.hid (show Mem w wz [ownI w.heap.size TI 1 (some ⟨w.heap.size+1+1,0,none⟩) (0) (0) (ivs ((freeAt P (T.eraseIdx i) R 0).2.2)),ownI w.heap.size TBk 4 (q8) (m-1) (c8) ((freeAt P (T.eraseIdx i) R 0).1.flatMap visitCells),ownI w.heap.size TBk 4 (some ⟨wy.heap.size,0,none⟩) (0) (0) ((freeAt P (T.eraseIdx i) R 0).2.1.flatMap visitCells),blkI w.heap.size (w2.heap.size) TDk #[.int .i64 P,.slice q8 (m-1) c8,.slice (some ⟨wy.heap.size,0,none⟩) 0 0],blkI w.heap.size (w.heap.size+1) TDk #[.int .i64 0,.slice none 0 0,.slice none 0 0],blkI w.heap.size (w.heap.size) TDk #[.int .i64 P,.slice (some ⟨bq,oq,none⟩) m c2,.slice q2 m2 d2]]from by
   rw[freeAt_zero]
   exact MW.out.pick [5,1,0,2,6,7] (by decide) rfl)
  clear MW
  generalize w2.heap.size=a at MS
  go_loopw [6,9] (fun v x wr=> ∃(k:Nat) (q7:Option Addr) (l7 c7:Nat) (q8:Option Addr) (l8 c8:Nat) (q9:Option Addr) (l9 c9:Nat),k≤m2∧x= .int .i64 (k:Int)∧v= .slice q9 l9 c9∧l7=(freeAt P (T.eraseIdx i) R k).1.length∧l8=(freeAt P (T.eraseIdx i) R k).2.1.length∧l9=(freeAt P (T.eraseIdx i) R k).2.2.length∧Mem w wr [ownI w.heap.size TI 1 (q9) (l9) (c9) (ivs ((freeAt P (T.eraseIdx i) R k).2.2)),ownI w.heap.size TBk 4 (q7) (l7) (c7) ((freeAt P (T.eraseIdx i) R k).1.flatMap visitCells),ownI w.heap.size TBk 4 (q8) (l8) (c8) ((freeAt P (T.eraseIdx i) R k).2.1.flatMap visitCells),blkI w.heap.size (a) TDk #[.int .i64 P,.slice q7 l7 c7,.slice q8 l8 c8],blkI w.heap.size (w.heap.size+1) TDk #[.int .i64 0,.slice none 0 0,.slice none 0 0],blkI w.heap.size (w.heap.size) TDk #[.int .i64 P,.slice (some ⟨bq,oq,none⟩) m c2,.slice q2 m2 d2]]) (fun _ x _=>m2-(intOf x).toNat)
  case atStart=>exact⟨0,q8,m-1,c8,some ⟨wy.heap.size,0,none⟩,0,0,some ⟨w.heap.size+1+1,0,none⟩,0,0,Nat.zero_le _,rfl,rfl,by rw[freeAt_zero];show _=(T.eraseIdx i).length;have e:=List.length_eraseIdx_of_lt (l:=T) (i:=i) (by rw[hl.out];exact hi);have e2:=hl.out;omega,by rw[freeAt_zero];rfl,by rw[freeAt_zero];rfl,MS.out⟩
  case round=>
   clear MS
   obtain⟨k,qt,lt,ct,qr,lr,cr,qf,lf,cf,hk,rfl,rfl,hl7,hl8,hl9,hM⟩:=hrel
   have HM:=Lib.hid hM
   have HL7:=Lib.hid hl7
   have HL8:=Lib.hid hl8
   have HL9:=Lib.hid hl9
   obtain⟨hb7,hb8,hb9,hup,hne⟩:=hinv.out k
   rw[←hl7]at hb7
   rw[←hl8]at hb8
   rw[←hl9]at hb9
   have HUP:=Lib.hid hup
   have HNE:=Lib.hid hne
   clear hM hl7 hl8 hl9 hup hne
   by_cases hlt:k<m2
   ·obtain⟨b,off,x0,x1,x2,x3,rfl,hv,hb,g0,g1,g2,g3⟩:=visit_at HS2.out hlt
    have hst:=Lib.hid (freeAt_succ (p:=P) (T0:=T.eraseIdx i) hv)
    have HNEV:=Lib.hid (HNE.out _ hv)
    clear hv
    have i1:(0:Int)≤(k:Int):=by omega
    have i2:(k:Int)<(m2:Int):=by omega
    have lt20_3:a<wr.heap.size:=(HM.out.lt (i:=3) rfl rfl).2
    have lt20_4:w.heap.size+1<wr.heap.size:=(HM.out.lt (i:=4) rfl rfl).2
    have lt20_5:w.heap.size<wr.heap.size:=(HM.out.lt (i:=5) rfl rfl).2
    obtain⟨ca0,ca1,ca2⟩:=(HM.out.blk (i:=3) rfl).tri
    have cd2:wr.cell? ⟨w.heap.size,2,none⟩=some (.slice (some ⟨b,off,none⟩) m2 d2):=(HM.out.blk (i:=5) rfl).cell 2
    have e0:=(HM.out.ext.cells.1 _ _ hb).trans g0
    have e1:=(HM.out.ext.cells.1 _ _ hb).trans g1
    have e2:=(HM.out.ext.cells.1 _ _ hb).trans g2
    have e3:=(HM.out.ext.cells.1 _ _ hb).trans g3
    have hb2:=Nat.lt_of_lt_of_le hb HM.out.ext.sz
    have HFI:=Lib.hid (fun w' (hs:Sl w' qt lt ct 4 ((freeAt P (T.eraseIdx i) R k).1.flatMap visitCells))=>l6Fits_any P qt lt ct qr lr cr (freeAt P (T.eraseIdx i) R k).1 x0 x1 x2 x3 w' (by omega) hs)
    have HPU:=Lib.hid (fun w' (hs:Sl w' qt lt ct 4 ((freeAt P (T.eraseIdx i) R k).1.flatMap visitCells))=>l6Put_any x0 x1 x2 x3 qt lt ct (freeAt P (T.eraseIdx i) R k).1 w' (by omega) hs)
    obtain⟨ft,hft⟩: ∃ft,ft=deskFits P (freeAt P (T.eraseIdx i) R k).1 (x0,x1,x2,x3):=⟨_,rfl⟩
    rw[←hft]at HFI
    have HFT:=Lib.hid hft
    clear hft
    go_wp2
    go_region_held3 (fun w'=>w'.cell? ⟨a,0,none⟩=some (.int .i64 P)∧w'.cell? ⟨a,1,none⟩=some (.slice qt lt ct)∧w'.cell? ⟨a,2,none⟩=some (.slice qr lr cr)∧w'.cell? ⟨w.heap.size,2,none⟩=some (.slice (some ⟨b,off,none⟩) m2 d2)∧w'.cell? ⟨b,off+k*4,none⟩=some (.int .i64 x0)∧w'.cell? ⟨b,off+k*4+1,none⟩=some (.int .i64 x1)∧w'.cell? ⟨b,off+k*4+2,none⟩=some (.int .i64 x2)∧w'.cell? ⟨b,off+k*4+3,none⟩=some (.int .i64 x3)) (first|(refine⟨?_,?_,?_,?_,?_,?_,?_,?_⟩<;>assumption)|go_keep) (first
     |(go_simp;go_at_call 48
       (with_reducible refine(HFI.out _ ((HM.out.sl (i:=1) rfl).ext (by(repeat' (first|exact Ext.refl _|(with_reducible assumption)|(with_reducible refine Ext.alloc ?_ _)|(with_reducible refine Ext.setCell ?_ (by first|exact Nat.le_refl _|(dsimp only;omega)|(simp;done)|(simp;omega)) _)|(with_reducible refine Ext.drew ?_)|(with_reducible refine Ext.drewN ?_ _)|(refine Ext.trans ?_ (by with_reducible assumption))))))).mono ?_)
       rintro e w21 ⟨rfl,hx21⟩
       (try replace hx21:=hx21.of_drew)
       have M21:=Lib.hid (HM.out.adv hx21)
       have lt60_3:a<w21.heap.size:=(M21.out.lt (i:=3) rfl rfl).2
       have lt60_4:w.heap.size+1<w21.heap.size:=(M21.out.lt (i:=4) rfl rfl).2
       have lt60_5:w.heap.size<w21.heap.size:=(M21.out.lt (i:=5) rfl rfl).2
       obtain⟨cb0,cb1,cb2⟩:=(M21.out.blk (i:=3) rfl).tri
       have ce2:w21.cell? ⟨w.heap.size,2,none⟩=some (.slice (some ⟨b,off,none⟩) m2 d2):=(M21.out.blk (i:=5) rfl).cell 2
       have f0:=(M21.out.ext.cells.1 _ _ hb).trans g0
       have f1:=(M21.out.ext.cells.1 _ _ hb).trans g1
       have f2:=(M21.out.ext.cells.1 _ _ hb).trans g2
       have f3:=(M21.out.ext.cells.1 _ _ hb).trans g3
       have hb3:=Nat.lt_of_lt_of_le hb M21.out.ext.sz))
    all_goals (
     clear ca0 ca1 ca2 cd2 e0 e1 e2 e3 hb2 lt20_3 lt20_4 lt20_5 HM HFI
     cases ft with
     |true=>
      have hs2:Hid ((freeAt P (T.eraseIdx i) R (k+1))=freeStep P (freeAt P (T.eraseIdx i) R k) (x0,x1,x2,x3)):=hst.out
      have hs3:Hid ((freeAt P (T.eraseIdx i) R (k+1))=(putBook (freeAt P (T.eraseIdx i) R k).1 (x0,x1,x2,x3),(freeAt P (T.eraseIdx i) R k).2.1,(freeAt P (T.eraseIdx i) R k).2.2++ [x0])):=by show _=_;rw[hs2.out];unfold freeStep;simp[←HFT.out]
      clear HFT hs2 hst
      go_wp2
      refine region_lin (gl [gEq (.pointer (some ⟨a,1,none⟩)),gEq (.slice qt lt ct),gEq (.pointer (some ⟨w.heap.size,2,none⟩)),gEq (.slice (some ⟨b,off,none⟩) m2 d2),gEq (.int .i64 (k:Int)),gEq (.pointer (some ⟨b,off+k*4,none⟩)),gEq (.agg #[.int .i64 x0,.int .i64 x1,.int .i64 x2,.int .i64 x3]),(fun v w'=> ∃q c,v= .slice q (lt+1) c∧w'.ownsRow (w21.heap.size) TBk 4 (.slice q (lt+1) c) (lt+1) ((putB (x0,x1,x2,x3) (freeAt P (T.eraseIdx i) R k).1).flatMap visitCells)),gEq (.pointer (some ⟨a,1,none⟩))]) 9 (by kernel_rfl) rfl (by kernel_rfl) (by kernel_rfl) (by kernel_rfl) (gl_mono (gl_cons (gEq_mono _) (gl_cons (gEq_mono _) (gl_cons (gEq_mono _) (gl_cons (gEq_mono _) (gl_cons (gEq_mono _) (gl_cons (gEq_mono _) (gl_cons (gEq_mono _) (gl_cons (fun v w w' ⟨q,c,he,ho⟩ hx=>⟨q,c,he,own_ext ho hx⟩) (gl_cons (gEq_mono _) (gl_nil))))))))))) (k:=10) (by kernel_rfl) (by decide) (ls:= [(0,some 76),(1,some 77),(2,some 78),(3,some 79),(4,some 80),(5,some 81),(6,some 82),(7,some 83),(8,some 84)]) (by kernel_rfl) (ir:= [0,1,2,3,4,5,6,7,8]) (by kernel_rfl) ?steps (tl:=#[true,true,true,true,true,true,true,true,true,false]) (by kernel_rfl) ?fin
      case steps=>
       refine StepsL.cons (ps:= []) rfl (by kernel_rfl) (fun wi hx=> ?_) ?_
       ·intro K hK
        go_simp
        exact hK _ _ ⟨.pointer (some ⟨a,1,none⟩),rfl,rfl,Ext.refl _⟩
       refine StepsL.cons (ps:= [(0,some 76)]) rfl (by kernel_rfl) (fun wi hx=> ?_) ?_
       ·intro v0 h0 K hK
        obtain rfl:=h0
        have hX:Ext w21 wi:=by(repeat' (first|exact Ext.refl _|(with_reducible assumption)|(with_reducible refine Ext.alloc ?_ _)|(with_reducible refine Ext.setCell ?_ (by first|exact Nat.le_refl _|(dsimp only;omega)|(simp;done)|(simp;omega)) _)|(with_reducible refine Ext.drew ?_)|(with_reducible refine Ext.drewN ?_ _)|(refine Ext.trans ?_ (by with_reducible assumption))))
        have cl0:wi.cell? ⟨a,1,none⟩=some (.slice qt lt ct):=((M21.out.blk (i:=3) rfl).ext hX).cell 1
        go_simp
        exact hK _ _ ⟨.slice qt lt ct,rfl,rfl,Ext.refl _⟩
       refine StepsL.cons (ps:= []) rfl (by kernel_rfl) (fun wi hx=> ?_) ?_
       ·intro K hK
        go_simp
        exact hK _ _ ⟨.pointer (some ⟨w.heap.size,2,none⟩),rfl,rfl,Ext.refl _⟩
       refine StepsL.cons (ps:= [(2,some 78)]) rfl (by kernel_rfl) (fun wi hx=> ?_) ?_
       ·intro v2 h2 K hK
        obtain rfl:=h2
        have hX:Ext w21 wi:=by(repeat' (first|exact Ext.refl _|(with_reducible assumption)|(with_reducible refine Ext.alloc ?_ _)|(with_reducible refine Ext.setCell ?_ (by first|exact Nat.le_refl _|(dsimp only;omega)|(simp;done)|(simp;omega)) _)|(with_reducible refine Ext.drew ?_)|(with_reducible refine Ext.drewN ?_ _)|(refine Ext.trans ?_ (by with_reducible assumption))))
        have cl0:wi.cell? ⟨w.heap.size,2,none⟩=some (.slice (some ⟨b,off,none⟩) m2 d2):=((M21.out.blk (i:=5) rfl).ext hX).cell 2
        go_simp
        exact hK _ _ ⟨.slice (some ⟨b,off,none⟩) m2 d2,rfl,rfl,Ext.refl _⟩
       refine StepsL.cons (ps:= []) rfl (by kernel_rfl) (fun wi hx=> ?_) ?_
       ·intro K hK
        go_simp
        exact hK _ _ ⟨.int .i64 (k:Int),rfl,rfl,Ext.refl _⟩
       refine StepsL.cons (ps:= [(3,some 79),(4,some 80)]) rfl (by kernel_rfl) (fun wi hx=> ?_) ?_
       ·intro v3 h3 v4 h4 K hK
        obtain rfl:=h3
        obtain rfl:=h4
        go_simp
        exact hK _ _ ⟨.pointer (some ⟨b,off+k*4,none⟩),rfl,rfl,Ext.refl _⟩
       refine StepsL.cons (ps:= [(5,some 81)]) rfl (by kernel_rfl) (fun wi hx=> ?_) ?_
       ·intro v5 h5 K hK
        obtain rfl:=h5
        have hX:Ext w21 wi:=by(repeat' (first|exact Ext.refl _|(with_reducible assumption)|(with_reducible refine Ext.alloc ?_ _)|(with_reducible refine Ext.setCell ?_ (by first|exact Nat.le_refl _|(dsimp only;omega)|(simp;done)|(simp;omega)) _)|(with_reducible refine Ext.drew ?_)|(with_reducible refine Ext.drewN ?_ _)|(refine Ext.trans ?_ (by with_reducible assumption))))
        have cl0:wi.cell? ⟨b,off+k*4,none⟩=some (.int .i64 x0):=(hX.cells.1 _ _ hb3).trans f0
        have cl1:wi.cell? ⟨b,off+k*4+1,none⟩=some (.int .i64 x1):=(hX.cells.1 _ _ hb3).trans f1
        have cl2:wi.cell? ⟨b,off+k*4+2,none⟩=some (.int .i64 x2):=(hX.cells.1 _ _ hb3).trans f2
        have cl3:wi.cell? ⟨b,off+k*4+3,none⟩=some (.int .i64 x3):=(hX.cells.1 _ _ hb3).trans f3
        go_simp
        exact hK _ _ ⟨.agg #[.int .i64 x0,.int .i64 x1,.int .i64 x2,.int .i64 x3],rfl,rfl,Ext.refl _⟩
       refine StepsL.cons (ps:= [(1,some 77),(6,some 82)]) rfl (by kernel_rfl) (fun wi hx=> ?_) ?_
       ·intro v1 h1 v6 h6 K hK
        obtain rfl:=h1
        obtain rfl:=h6
        have hX:Ext w21 wi:=by(repeat' (first|exact Ext.refl _|(with_reducible assumption)|(with_reducible refine Ext.alloc ?_ _)|(with_reducible refine Ext.setCell ?_ (by first|exact Nat.le_refl _|(dsimp only;omega)|(simp;done)|(simp;omega)) _)|(with_reducible refine Ext.drew ?_)|(with_reducible refine Ext.drewN ?_ _)|(refine Ext.trans ?_ (by with_reducible assumption))))
        go_simp
        refine(HPU.out wi ((M21.out.sl (i:=1) rfl).ext hX)).mono ?_
        rintro e w5 ⟨q5,c5,rfl,o5,hx5⟩
        go_simp
        exact hK _ _ ⟨.slice q5 (lt+1) c5,rfl,⟨q5,c5,rfl,own_base o5 (by have:=hX.sz;(try simp at this);omega)⟩,hx5⟩
       refine StepsL.cons (ps:= []) rfl (by kernel_rfl) (fun wi hx=> ?_) StepsL.nil
       ·intro K hK
        go_simp
        exact hK _ _ ⟨.pointer (some ⟨a,1,none⟩),rfl,rfl,Ext.refl _⟩
      case fin=>
       intro wi hx v0 h0 v1 h1 v2 h2 v3 h3 v4 h4 v5 h5 v6 h6 v7 h7 v8 h8
       obtain rfl:=h0
       obtain rfl:=h1
       obtain rfl:=h2
       obtain rfl:=h3
       obtain rfl:=h4
       obtain rfl:=h5
       obtain rfl:=h6
       obtain⟨q7,c7,rfl,ho7⟩:=h7
       obtain rfl:=h8
       have hX:Ext w21 wi:=hx.of_drew
       have M22:=Lib.hid (show Mem w wi [ownI w.heap.size TBk 4 (q7) ((lt+1)) (c7) ((putB (x0,x1,x2,x3) (freeAt P (T.eraseIdx i) R k).1).flatMap visitCells),ownI w.heap.size TI 1 (qf) (lf) (cf) (ivs ((freeAt P (T.eraseIdx i) R k).2.2)),ownI w.heap.size TBk 4 (qt) (lt) (ct) ((freeAt P (T.eraseIdx i) R k).1.flatMap visitCells),ownI w.heap.size TBk 4 (qr) (lr) (cr) ((freeAt P (T.eraseIdx i) R k).2.1.flatMap visitCells),blkI w.heap.size (a) TDk #[.int .i64 P,.slice qt lt ct,.slice qr lr cr],blkI w.heap.size (w.heap.size+1) TDk #[.int .i64 0,.slice none 0 0,.slice none 0 0],blkI w.heap.size (w.heap.size) TDk #[.int .i64 P,.slice (some ⟨bq,oq,none⟩) m c2,.slice (some ⟨b,off,none⟩) m2 d2]]from M21.out.ownOf0 hX ho7)
       clear hX hx ho7 M21
       have lt60_4:a<wi.heap.size:=(M22.out.lt (i:=4) rfl rfl).2
       have lt60_5:w.heap.size+1<wi.heap.size:=(M22.out.lt (i:=5) rfl rfl).2
       have lt60_6:w.heap.size<wi.heap.size:=(M22.out.lt (i:=6) rfl rfl).2
       have cc1:wi.cell? ⟨a,1,none⟩=some (.slice qt lt ct):=(M22.out.blk (i:=4) rfl).cell 1
       have ccf1:wi.frozen? ⟨a,1,none⟩=false:=(M22.out.blk (i:=4) rfl).frozen 1
       try simp only[Act.put,List.setIfInBounds_toArray,List.set_cons_zero,List.set_cons_succ]
       refine wpAny_ready (rs:= [9]) (by kernel_rfl) (by simp) ?_
       refine AllReady.cons rfl (fun K hK=> ?_) AllReady.nil
       go_simp
       refine hK _ _ ?_
       clear hK K
       refine wpAny_done (by kernel_rfl) ?_ _
       try simp only[Act.put,List.setIfInBounds_toArray,List.set_cons_zero,List.set_cons_succ]
       clear cc1 ccf1
       have MC:=Lib.hid (show Mem w (wi.setCell ⟨a,1,none⟩ (.slice q7 (lt+1) c7)) [ownI w.heap.size TBk 4 (q7) ((lt+1)) (c7) ((putB (x0,x1,x2,x3) (freeAt P (T.eraseIdx i) R k).1).flatMap visitCells),ownI w.heap.size TI 1 (qf) (lf) (cf) (ivs ((freeAt P (T.eraseIdx i) R k).2.2)),ownI w.heap.size TBk 4 (qt) (lt) (ct) ((freeAt P (T.eraseIdx i) R k).1.flatMap visitCells),ownI w.heap.size TBk 4 (qr) (lr) (cr) ((freeAt P (T.eraseIdx i) R k).2.1.flatMap visitCells),blkI w.heap.size (a) TDk #[.int .i64 P,.slice q7 (lt+1) c7,.slice qr lr cr],blkI w.heap.size (w.heap.size+1) TDk #[.int .i64 0,.slice none 0 0,.slice none 0 0],blkI w.heap.size (w.heap.size) TDk #[.int .i64 P,.slice (some ⟨bq,oq,none⟩) m c2,.slice (some ⟨b,off,none⟩) m2 d2]]from M22.out.store (i:=4) rfl 1 (.slice q7 (lt+1) c7))
       generalize hwz0:World.setCell _ _ _=wy
       rw[hwz0]at MC
       clear hwz0 M22
       have lt50_4:a<wy.heap.size:=(MC.out.lt (i:=4) rfl rfl).2
       have lt50_5:w.heap.size+1<wy.heap.size:=(MC.out.lt (i:=5) rfl rfl).2
       have lt50_6:w.heap.size<wy.heap.size:=(MC.out.lt (i:=6) rfl rfl).2
       have cj2:wy.cell? ⟨w.heap.size,2,none⟩=some (.slice (some ⟨b,off,none⟩) m2 d2):=(MC.out.blk (i:=6) rfl).cell 2
       have h0:=(MC.out.ext.cells.1 _ _ hb).trans g0
       have h1:=(MC.out.ext.cells.1 _ _ hb).trans g1
       have h2:=(MC.out.ext.cells.1 _ _ hb).trans g2
       have h3:=(MC.out.ext.cells.1 _ _ hb).trans g3
       have hb5:=Nat.lt_of_lt_of_le hb MC.out.ext.sz
       have hpl:Hid ((putBook (freeAt P (T.eraseIdx i) R k).1 (x0,x1,x2,x3)).length=lt+1):=by show _=_;rw[putBook_len,←HL7.out]
       go_wp2_with (at_builtin;go_loud (refine wpList_appM elInt rfl _ _ rfl (MC.out.adv ((Ext.refl _).alloc (.cells #[.int .i64 x0] TI))) 1 rfl rfl [.int .i64 x0] rfl (sl_lit _ _ _ 1 1 _ (by simp) (by simp) (by simp[maxLen])) (iv_one _) (by omega) ?_;intro q4 c4 w9 M9a))
       have M9b:=Lib.hid (show Mem w w9 [ownI w.heap.size TBk 4 (q7) ((lt+1)) (c7) ((putB (x0,x1,x2,x3) (freeAt P (T.eraseIdx i) R k).1).flatMap visitCells),ownI w.heap.size TI 1 (q4) ((lf+1)) (c4) (ivs ((freeAt P (T.eraseIdx i) R k).2.2++ [x0])),ownI w.heap.size TBk 4 (qt) (lt) (ct) ((freeAt P (T.eraseIdx i) R k).1.flatMap visitCells),ownI w.heap.size TBk 4 (qr) (lr) (cr) ((freeAt P (T.eraseIdx i) R k).2.1.flatMap visitCells),blkI w.heap.size (a) TDk #[.int .i64 P,.slice q7 (lt+1) c7,.slice qr lr cr],blkI w.heap.size (w.heap.size+1) TDk #[.int .i64 0,.slice none 0 0,.slice none 0 0],blkI w.heap.size (w.heap.size) TDk #[.int .i64 P,.slice (some ⟨bq,oq,none⟩) m c2,.slice (some ⟨b,off,none⟩) m2 d2]]from by simpa[ivs,iv]using M9a)
       have M9:=Lib.hid (show Mem w w9 [ownI w.heap.size TI 1 (q4) ((lf+1)) (c4) (ivs ((freeAt P (T.eraseIdx i) R (k+1)).2.2)),ownI w.heap.size TBk 4 (q7) ((lt+1)) (c7) ((freeAt P (T.eraseIdx i) R (k+1)).1.flatMap visitCells),ownI w.heap.size TBk 4 (qr) (lr) (cr) ((freeAt P (T.eraseIdx i) R (k+1)).2.1.flatMap visitCells),blkI w.heap.size (a) TDk #[.int .i64 P,.slice q7 ((lt+1)) c7,.slice qr lr cr],blkI w.heap.size (w.heap.size+1) TDk #[.int .i64 0,.slice none 0 0,.slice none 0 0],blkI w.heap.size (w.heap.size) TDk #[.int .i64 P,.slice (some ⟨bq,oq,none⟩) m c2,.slice (some ⟨b,off,none⟩) m2 d2]]from by rw[hs3.out];exact M9b.out.pick [1,0,3,4,5,6] (by decide) rfl)
       have h7:Hid (lt+1=(freeAt P (T.eraseIdx i) R (k+1)).1.length):=by show _=_;rw[hs3.out];exact hpl.out.symm
       have h8:Hid (lr=(freeAt P (T.eraseIdx i) R (k+1)).2.1.length):=by show _=_;rw[hs3.out];exact HL8.out
       have h9:Hid (lf+1=(freeAt P (T.eraseIdx i) R (k+1)).2.2.length):=by show _=_;rw[hs3.out];simp[←HL9.out]
       clear M9a M9b MC h0 h1 h2 h3 hb5 cj2 lt50_4 lt50_5 lt50_6
       go_wp2
       go_roundw
       case rel=>exact⟨k+1,q7,lt+1,c7,qr,lr,cr,q4,lf+1,c4,by omega,by go_num,rfl,h7.out,h8.out,h9.out,M9.out⟩
       case measure=>simp[intOf];omega
     |false=>
      have hs2:Hid ((freeAt P (T.eraseIdx i) R (k+1))=freeStep P (freeAt P (T.eraseIdx i) R k) (x0,x1,x2,x3)):=hst.out
      have hs3:Hid ((freeAt P (T.eraseIdx i) R (k+1))=((freeAt P (T.eraseIdx i) R k).1,(freeAt P (T.eraseIdx i) R k).2.1++ [(x0,x1,x2,x3)],(freeAt P (T.eraseIdx i) R k).2.2)):=by show _=_;rw[hs2.out];unfold freeStep;simp[←HFT.out]
      clear HFT hs2 hst
      go_wp2
      refine region_lin (gl [gEq (.pointer (some ⟨a,2,none⟩)),gEq (.slice qr lr cr),gEq (.pointer (some ⟨w.heap.size,2,none⟩)),gEq (.slice (some ⟨b,off,none⟩) m2 d2),gEq (.int .i64 (k:Int)),gEq (.pointer (some ⟨b,off+k*4,none⟩)),gEq (.agg #[.int .i64 x0,.int .i64 x1,.int .i64 x2,.int .i64 x3]),gLit (0) TBk #[.int .i64 x0,.int .i64 x1,.int .i64 x2,.int .i64 x3] 1]) 8 (by kernel_rfl) rfl (by kernel_rfl) (by kernel_rfl) (by kernel_rfl) (gl_mono (gl_cons (gEq_mono _) (gl_cons (gEq_mono _) (gl_cons (gEq_mono _) (gl_cons (gEq_mono _) (gl_cons (gEq_mono _) (gl_cons (gEq_mono _) (gl_cons (gEq_mono _) (gl_cons (gLit_mono _ _ _ _) (gl_nil)))))))))) (k:=11) (by kernel_rfl) (by decide) (ls:= [(0,some 94),(1,some 95),(2,some 96),(3,some 97),(4,some 98),(5,some 99),(6,some 100),(7,some 101)]) (by kernel_rfl) (ir:= [0,1,2,3,4,5,6,7]) (by kernel_rfl) ?steps (tl:=#[true,true,true,true,true,true,true,true,false,false,false]) (by kernel_rfl) ?fin
      case steps=>
       refine StepsL.cons (ps:= []) rfl (by kernel_rfl) (fun wi hx=> ?_) ?_
       ·intro K hK
        go_simp
        exact hK _ _ ⟨.pointer (some ⟨a,2,none⟩),rfl,rfl,Ext.refl _⟩
       refine StepsL.cons (ps:= [(0,some 94)]) rfl (by kernel_rfl) (fun wi hx=> ?_) ?_
       ·intro v0 h0 K hK
        obtain rfl:=h0
        have hX:Ext w21 wi:=by(repeat' (first|exact Ext.refl _|(with_reducible assumption)|(with_reducible refine Ext.alloc ?_ _)|(with_reducible refine Ext.setCell ?_ (by first|exact Nat.le_refl _|(dsimp only;omega)|(simp;done)|(simp;omega)) _)|(with_reducible refine Ext.drew ?_)|(with_reducible refine Ext.drewN ?_ _)|(refine Ext.trans ?_ (by with_reducible assumption))))
        have cl0:wi.cell? ⟨a,2,none⟩=some (.slice qr lr cr):=((M21.out.blk (i:=3) rfl).ext hX).cell 2
        go_simp
        exact hK _ _ ⟨.slice qr lr cr,rfl,rfl,Ext.refl _⟩
       refine StepsL.cons (ps:= []) rfl (by kernel_rfl) (fun wi hx=> ?_) ?_
       ·intro K hK
        go_simp
        exact hK _ _ ⟨.pointer (some ⟨w.heap.size,2,none⟩),rfl,rfl,Ext.refl _⟩
       refine StepsL.cons (ps:= [(2,some 96)]) rfl (by kernel_rfl) (fun wi hx=> ?_) ?_
       ·intro v2 h2 K hK
        obtain rfl:=h2
        have hX:Ext w21 wi:=by(repeat' (first|exact Ext.refl _|(with_reducible assumption)|(with_reducible refine Ext.alloc ?_ _)|(with_reducible refine Ext.setCell ?_ (by first|exact Nat.le_refl _|(dsimp only;omega)|(simp;done)|(simp;omega)) _)|(with_reducible refine Ext.drew ?_)|(with_reducible refine Ext.drewN ?_ _)|(refine Ext.trans ?_ (by with_reducible assumption))))
        have cl0:wi.cell? ⟨w.heap.size,2,none⟩=some (.slice (some ⟨b,off,none⟩) m2 d2):=((M21.out.blk (i:=5) rfl).ext hX).cell 2
        go_simp
        exact hK _ _ ⟨.slice (some ⟨b,off,none⟩) m2 d2,rfl,rfl,Ext.refl _⟩
       refine StepsL.cons (ps:= []) rfl (by kernel_rfl) (fun wi hx=> ?_) ?_
       ·intro K hK
        go_simp
        exact hK _ _ ⟨.int .i64 (k:Int),rfl,rfl,Ext.refl _⟩
       refine StepsL.cons (ps:= [(3,some 97),(4,some 98)]) rfl (by kernel_rfl) (fun wi hx=> ?_) ?_
       ·intro v3 h3 v4 h4 K hK
        obtain rfl:=h3
        obtain rfl:=h4
        go_simp
        exact hK _ _ ⟨.pointer (some ⟨b,off+k*4,none⟩),rfl,rfl,Ext.refl _⟩
       refine StepsL.cons (ps:= [(5,some 99)]) rfl (by kernel_rfl) (fun wi hx=> ?_) ?_
       ·intro v5 h5 K hK
        obtain rfl:=h5
        have hX:Ext w21 wi:=by(repeat' (first|exact Ext.refl _|(with_reducible assumption)|(with_reducible refine Ext.alloc ?_ _)|(with_reducible refine Ext.setCell ?_ (by first|exact Nat.le_refl _|(dsimp only;omega)|(simp;done)|(simp;omega)) _)|(with_reducible refine Ext.drew ?_)|(with_reducible refine Ext.drewN ?_ _)|(refine Ext.trans ?_ (by with_reducible assumption))))
        have cl0:wi.cell? ⟨b,off+k*4,none⟩=some (.int .i64 x0):=(hX.cells.1 _ _ hb3).trans f0
        have cl1:wi.cell? ⟨b,off+k*4+1,none⟩=some (.int .i64 x1):=(hX.cells.1 _ _ hb3).trans f1
        have cl2:wi.cell? ⟨b,off+k*4+2,none⟩=some (.int .i64 x2):=(hX.cells.1 _ _ hb3).trans f2
        have cl3:wi.cell? ⟨b,off+k*4+3,none⟩=some (.int .i64 x3):=(hX.cells.1 _ _ hb3).trans f3
        go_simp
        exact hK _ _ ⟨.agg #[.int .i64 x0,.int .i64 x1,.int .i64 x2,.int .i64 x3],rfl,rfl,Ext.refl _⟩
       refine StepsL.cons (ps:= [(6,some 100)]) rfl (by kernel_rfl) (fun wi hx=> ?_) StepsL.nil
       ·intro v6 h6 K hK
        obtain rfl:=h6
        go_simp
        exact hK _ _ ⟨.slice (some ⟨wi.heap.size,0,none⟩) 1 1,rfl,⟨wi.heap.size,rfl,Nat.zero_le _,Blk.new _ _ _⟩,(Ext.refl _).alloc _⟩
      case fin=>
       intro wi hx v0 h0 v1 h1 v2 h2 v3 h3 v4 h4 v5 h5 v6 h6 v7 h7
       obtain rfl:=h0
       obtain rfl:=h1
       obtain rfl:=h2
       obtain rfl:=h3
       obtain rfl:=h4
       obtain rfl:=h5
       obtain rfl:=h6
       obtain⟨g7,rfl,hg7,B7⟩:=h7
       have hX:Ext w21 wi:=hx.of_drew
       have M1:=Lib.hid (M21.out.adv hX)
       clear hX hx hg7 M21
       try simp only[Act.put,List.setIfInBounds_toArray,List.set_cons_zero,List.set_cons_succ]
       refine wpAny_ready (rs:= [8]) (by kernel_rfl) (by simp) ?_
       refine AllReady.cons rfl (fun K hK=> ?_) AllReady.nil
       refine step_appM elBk rfl _ _ rfl M1.out 2 rfl rfl (visitCells (x0,x1,x2,x3)) rfl (sl_blk1 B7) (book_one _) (by omega) (fun q4 c4 w6 M6=>hK _ _ ?_)
       clear hK K
       have M7:=Lib.hid (show Mem w w6 [ownI w.heap.size TI 1 (qf) (lf) (cf) (ivs ((freeAt P (T.eraseIdx i) R k).2.2)),ownI w.heap.size TBk 4 (qt) (lt) (ct) ((freeAt P (T.eraseIdx i) R k).1.flatMap visitCells),ownI w.heap.size TBk 4 (q4) ((lr+1)) (c4) ((freeAt P (T.eraseIdx i) R k).2.1.flatMap visitCells++visitCells (x0,x1,x2,x3)),blkI w.heap.size (a) TDk #[.int .i64 P,.slice qt lt ct,.slice qr lr cr],blkI w.heap.size (w.heap.size+1) TDk #[.int .i64 0,.slice none 0 0,.slice none 0 0],blkI w.heap.size (w.heap.size) TDk #[.int .i64 P,.slice (some ⟨bq,oq,none⟩) m c2,.slice (some ⟨b,off,none⟩) m2 d2]]from M6)
       clear M6 M1 B7
       have lt60_3:a<w6.heap.size:=(M7.out.lt (i:=3) rfl rfl).2
       have lt60_4:w.heap.size+1<w6.heap.size:=(M7.out.lt (i:=4) rfl rfl).2
       have lt60_5:w.heap.size<w6.heap.size:=(M7.out.lt (i:=5) rfl rfl).2
       have cc2:w6.cell? ⟨a,2,none⟩=some (.slice qr lr cr):=(M7.out.blk (i:=3) rfl).cell 2
       have ccf2:w6.frozen? ⟨a,2,none⟩=false:=(M7.out.blk (i:=3) rfl).frozen 2
       try simp only[Act.put,List.setIfInBounds_toArray,List.set_cons_zero,List.set_cons_succ]
       refine wpAny_ready (rs:= [9]) (by kernel_rfl) (by simp) ?_
       refine AllReady.cons rfl (fun K hK=> ?_) AllReady.nil
       go_simp
       refine hK _ _ ?_
       clear hK K
       refine wpAny_ready (rs:= [10]) (by kernel_rfl) (by simp) ?_
       refine AllReady.cons rfl (fun K hK=> ?_) AllReady.nil
       go_simp
       refine hK _ _ ?_
       clear hK K
       refine wpAny_done (by kernel_rfl) ?_ _
       try simp only[Act.put,List.setIfInBounds_toArray,List.set_cons_zero,List.set_cons_succ]
       clear cc2 ccf2
       have MC:=Lib.hid (show Mem w (w6.setCell ⟨a,2,none⟩ (.slice q4 (lr+1) c4)) [ownI w.heap.size TI 1 (qf) (lf) (cf) (ivs ((freeAt P (T.eraseIdx i) R k).2.2)),ownI w.heap.size TBk 4 (qt) (lt) (ct) ((freeAt P (T.eraseIdx i) R k).1.flatMap visitCells),ownI w.heap.size TBk 4 (q4) ((lr+1)) (c4) ((freeAt P (T.eraseIdx i) R k).2.1.flatMap visitCells++visitCells (x0,x1,x2,x3)),blkI w.heap.size (a) TDk #[.int .i64 P,.slice qt lt ct,.slice q4 (lr+1) c4],blkI w.heap.size (w.heap.size+1) TDk #[.int .i64 0,.slice none 0 0,.slice none 0 0],blkI w.heap.size (w.heap.size) TDk #[.int .i64 P,.slice (some ⟨bq,oq,none⟩) m c2,.slice (some ⟨b,off,none⟩) m2 d2]]from M7.out.store (i:=3) rfl 2 (.slice q4 (lr+1) c4))
       generalize hwz0:World.setCell _ _ _=wy
       rw[hwz0]at MC
       clear hwz0 M7
       have lt50_3:a<wy.heap.size:=(MC.out.lt (i:=3) rfl rfl).2
       have lt50_4:w.heap.size+1<wy.heap.size:=(MC.out.lt (i:=4) rfl rfl).2
       have lt50_5:w.heap.size<wy.heap.size:=(MC.out.lt (i:=5) rfl rfl).2
       have MZ:=Lib.hid (show Mem w wy [ownI w.heap.size TI 1 (qf) (lf) (cf) (ivs ((freeAt P (T.eraseIdx i) R (k+1)).2.2)),ownI w.heap.size TBk 4 (qt) (lt) (ct) ((freeAt P (T.eraseIdx i) R (k+1)).1.flatMap visitCells),ownI w.heap.size TBk 4 (q4) ((lr+1)) (c4) ((freeAt P (T.eraseIdx i) R (k+1)).2.1.flatMap visitCells),blkI w.heap.size (a) TDk #[.int .i64 P,.slice qt lt ct,.slice q4 ((lr+1)) c4],blkI w.heap.size (w.heap.size+1) TDk #[.int .i64 0,.slice none 0 0,.slice none 0 0],blkI w.heap.size (w.heap.size) TDk #[.int .i64 P,.slice (some ⟨bq,oq,none⟩) m c2,.slice (some ⟨b,off,none⟩) m2 d2]]from by rw[hs3.out];have h:=MC.out.pick [0,1,2,3,4,5] (L':= [ownI w.heap.size TI 1 (qf) (lf) (cf) (ivs ((freeAt P (T.eraseIdx i) R k).2.2)),ownI w.heap.size TBk 4 (qt) (lt) (ct) ((freeAt P (T.eraseIdx i) R k).1.flatMap visitCells),ownI w.heap.size TBk 4 (q4) ((lr+1)) (c4) ((freeAt P (T.eraseIdx i) R k).2.1.flatMap visitCells++visitCells (x0,x1,x2,x3)),blkI w.heap.size (a) TDk #[.int .i64 P,.slice qt lt ct,.slice q4 (lr+1) c4],blkI w.heap.size (w.heap.size+1) TDk #[.int .i64 0,.slice none 0 0,.slice none 0 0],blkI w.heap.size (w.heap.size) TDk #[.int .i64 P,.slice (some ⟨bq,oq,none⟩) m c2,.slice (some ⟨b,off,none⟩) m2 d2]]) (by decide) rfl;simpa using h)
       have h7:Hid (lt=(freeAt P (T.eraseIdx i) R (k+1)).1.length):=by show _=_;rw[hs3.out];exact HL7.out
       have h8:Hid (lr+1=(freeAt P (T.eraseIdx i) R (k+1)).2.1.length):=by show _=_;rw[hs3.out];simp[←HL8.out]
       have h9:Hid (lf=(freeAt P (T.eraseIdx i) R (k+1)).2.2.length):=by show _=_;rw[hs3.out];exact HL9.out
       clear MC lt50_3 lt50_4 lt50_5
       go_wp2
       go_roundw
       case rel=>exact⟨k+1,qt,lt,ct,q4,lr+1,c4,qf,lf,cf,by omega,by go_num,rfl,h7.out,h8.out,h9.out,MZ.out⟩
       case measure=>simp[intOf];omega)
   ·obtain rfl:k=m2:=by omega
    have lt20_3:a<wr.heap.size:=(HM.out.lt (i:=3) rfl rfl).2
    have lt20_4:w.heap.size+1<wr.heap.size:=(HM.out.lt (i:=4) rfl rfl).2
    have lt20_5:w.heap.size<wr.heap.size:=(HM.out.lt (i:=5) rfl rfl).2
    obtain⟨ca0,ca1,ca2⟩:=(HM.out.blk (i:=3) rfl).tri
    have cd2:wr.cell? ⟨w.heap.size,2,none⟩=some (.slice q2 k d2):=(HM.out.blk (i:=5) rfl).cell 2
    obtain⟨cz0,czf0,cz1,czf1,cz2,czf2⟩:=(HM.out.blk (i:=4) rfl).trif
    have ne0_1a: ¬(a=w.heap.size+1):=HM.out.ne (i:=3) (j:=4) (by omega) rfl rfl rfl rfl
    have ne0_1b: ¬(w.heap.size+1=a):=fun h=>ne0_1a h.symm
    have hfin:=Lib.hid (freeAt_end P (T.eraseIdx i) R (k:=k) (by rw[hl2.out];exact Nat.le_refl _))
    go_wp2
    clear ca0 ca1 ca2 cd2 cz0 czf0 cz1 czf1 cz2 czf2 ne0_1a ne0_1b lt20_3 lt20_4 lt20_5
    have M21:=Lib.hid (((HM.out).put3 (i:=4) rfl (.int .i64 P) (.slice qt lt ct) (.slice qr lr cr)))
    generalize hwz:World.setCell _ _ _=wz
    rw[hwz]at M21
    clear hwz HM
    obtain⟨y0,y1,y2⟩:=(M21.out.blk (i:=4) rfl).tri
    exact bodyPost_ret (v:= .tuple #[.agg #[.int .i64 P,.slice qt lt ct,.slice qr lr cr],.slice qf lf cf]) (by simp[results,Tryd.results21,go_sem, *]) rfl (by rw[←hfin.out];exact⟨qt,lt,ct,qr,lr,cr,qf,lf,cf,rfl,HL7.out,HL8.out,HL9.out,show Mem w wz [ownI w.heap.size TBk 4 (qt) (lt) (ct) ((freeAt P (T.eraseIdx i) R k).1.flatMap visitCells),ownI w.heap.size TBk 4 (qr) (lr) (cr) ((freeAt P (T.eraseIdx i) R k).2.1.flatMap visitCells),ownI w.heap.size TI 1 (qf) (lf) (cf) (ivs ((freeAt P (T.eraseIdx i) R k).2.2))]from(M21.out.pick [1,2,0] (by decide) rfl)⟩))
set_option maxRecDepth 100000 in
set_option maxHeartbeats 8000000 in
theorem specDf_row_end (P:Int)(q:Option Addr)(m c2:Nat)(b off:Nat)(i:Nat)(id:Int)(T R:List Visit4)(w:World)(hm2:(i+1)≤5)(hii:i<1000)(hl2:Hid (R.length=(i+1)))(HS2:Hid (Sl w (some ⟨b,off,none⟩) (i+1) (i+1) 4 (R.flatMap visitCells)))
  (HV:Hid (∀w',Ext w w'→Calls Tryd.prog 11 #[.agg #[.int .i64 P,.slice q m c2,.slice (some ⟨b,off,none⟩) (i+1) (i+1)]] w' fun e w''=>e= .returned (.bool true)∧Ext w' w''))
  (HC:Hid (∀w',Ext w w'→Calls Tryd.prog 55 #[.agg #[.int .i64 P,.slice q m c2,.slice (some ⟨b,off,none⟩) (i+1) (i+1)]] w' fun e w''=> ∃q5 c5 q6 c6,e= .returned (.agg #[.int .i64 P,.slice q5 m c5,.slice q6 (i+1) c6])∧Mem w' w'' [ownI w'.heap.size TBk 4 (q5) (m) (c5) (T.flatMap visitCells),ownI w'.heap.size TBk 4 (q6) ((i+1)) (c6) (R.flatMap visitCells)]))
  (HF2:Hid (∀w',Ext w w'→Calls Tryd.prog 47 #[.slice (some ⟨b,off,none⟩) (i+1) (i+1),.int .i64 id] w' fun e w''=>e= .returned (.int .i64 (i:Int))∧Ext w' w'')):
  Calls Tryd.prog 21 #[.agg #[.int .i64 P,.slice q m c2,.slice (some ⟨b,off,none⟩) (i+1) (i+1)],.int .i64 id] w fun e w'=> ∃qa ca qb cb qc cc,e= .returned (.tuple #[.agg #[.int .i64 P,.slice qa m ca,.slice qb i cb],.slice qc 0 cc])∧Mem w w' [ownI w.heap.size TBk 4 (qa) (m) (ca) (T.flatMap visitCells),ownI w.heap.size TBk 4 (qb) i (cb) ((R.eraseIdx i).flatMap visitCells),ownI w.heap.size TI 1 (qc) (0) (cc) (ivs ([]))]:=by
 have hi:i<i+1:=Nat.lt_succ_self i
 have HLN:=Lib.hid hl2.out
 go_enter Tryd.func21,Tryd.ntmps21
 go_wp2_with fail
 refine(HV.out _ (((((((Mem.start w).blkNew TDk #[.int .i64 P,.slice q m c2,.slice (some ⟨b,off,none⟩) (i+1) (i+1)] (w.heap.size) (by simp))).blkNew TDk #[.int .i64 0,.slice none 0 0,.slice none 0 0] (w.heap.size+1) (by simp))).made0 TI 1 (w.heap.size+1+1) (by simp))).ext).mono ?_
 rintro e w1 ⟨rfl,hx1⟩
 have M1:=Lib.hid ((((((((Mem.start w).blkNew TDk #[.int .i64 P,.slice q m c2,.slice (some ⟨b,off,none⟩) (i+1) (i+1)] (w.heap.size) (by simp))).blkNew TDk #[.int .i64 0,.slice none 0 0,.slice none 0 0] (w.heap.size+1) (by simp))).made0 TI 1 (w.heap.size+1+1) (by simp))).adv hx1)
 have lt1_1:w.heap.size+1<w1.heap.size:=(M1.out.lt (i:=1) rfl rfl).2
 have lt1_2:w.heap.size<w1.heap.size:=(M1.out.lt (i:=2) rfl rfl).2
 clear hx1
 clear HV
 obtain⟨ca0,ca1,ca2⟩:=(M1.out.blk (i:=2) rfl).tri
 go_wp2_with fail
 clear ca0 ca1 ca2
 refine(HC.out _ (M1.out).ext).mono ?_
 rintro e w2 ⟨q5,c5,q6,c6,rfl,hm2⟩
 have M2:=Lib.hid ((M1.out).call2 hm2)
 clear M1
 clear lt1_1 lt1_2
 have lt2_3:w.heap.size+1<w2.heap.size:=(M2.out.lt (i:=3) rfl rfl).2
 have lt2_4:w.heap.size<w2.heap.size:=(M2.out.lt (i:=4) rfl rfl).2
 clear hm2
 clear HC
 have ca2:w2.cell? ⟨w.heap.size,2,none⟩=some (.slice (some ⟨b,off,none⟩) (i+1) (i+1)):=(M2.out.blk (i:=4) rfl).cell 2
 go_wp2_with fail
 clear ca2
 refine(HF2.out _ (((M2.out).blkNew TDk #[.int .i64 P,.slice q5 m c5,.slice q6 (i+1) c6] (w2.heap.size) (by simp))).ext).mono ?_
 rintro e w3 ⟨rfl,hx3⟩
 have M3:=Lib.hid ((((M2.out).blkNew TDk #[.int .i64 P,.slice q5 m c5,.slice q6 (i+1) c6] (w2.heap.size) (by simp))).adv hx3)
 clear M2
 clear lt2_3 lt2_4
 have lt3_0:w2.heap.size<w3.heap.size:=(M3.out.lt (i:=0) rfl rfl).2
 have lt3_4:w.heap.size+1<w3.heap.size:=(M3.out.lt (i:=4) rfl rfl).2
 have lt3_5:w.heap.size<w3.heap.size:=(M3.out.lt (i:=5) rfl rfl).2
 clear hx3
 have hwi:IntKind.i64.wrap ((i:Int)+1)=(i:Int)+1:=IntWalk.i64_in _ (by omega)
 have j1:(0:Int)≤(i:Int):=by omega
 have j2:(i:Int)≤((i+1):Int):=by omega
 have j3:(0:Int)≤(i:Int)+1:=by omega
 have j4:(i:Int)+1≤((i+1):Int):=by omega
 have j5:(i:Int)≤((i+1):Int):=by omega
 have hsu:((i:Int)+1).toNat=i+1:=by omega
 obtain⟨ca0,ca1,ca2⟩:=(M3.out.blk (i:=5) rfl).tri
 have nq0_1a: ¬(w2.heap.size=w.heap.size):=M3.out.ne (i:=0) (j:=5) (by omega) rfl rfl rfl rfl
 have nq0_1b: ¬(w.heap.size=w2.heap.size):=fun h=>nq0_1a h.symm
 go_wp2
 go_region_held3 (fun w'=>w'.cell? ⟨w.heap.size,0,none⟩=some (.int .i64 P)∧w'.cell? ⟨w.heap.size,1,none⟩=some (.slice q m c2)∧w'.cell? ⟨w.heap.size,2,none⟩=some (.slice (some ⟨b,off,none⟩) (i+1) (i+1))) (first|(refine⟨?_,?_,?_⟩<;>assumption)|go_keep) (first
  |(refine step_appM elBk (by rfl) _ _ (by rfl) (by first|exact(M3.out.made0 TBk 4 (w3.heap.size) rfl)|exact(M3.out.made0 TBk 4 (w3.heap.size) rfl).adv (Ext.drew (Ext.refl _))) 0 (by rfl) (by rfl) ((R.take i).flatMap visitCells) (by rfl) (bk_take (HS2.out.ext (M3.out.ext.trans (by(repeat' (first|exact Ext.refl _|(with_reducible assumption)|(with_reducible refine Ext.alloc ?_ _)|(with_reducible refine Ext.setCell ?_ (by first|exact Nat.le_refl _|(dsimp only;omega)|(simp;done)|(simp;omega)) _)|(with_reducible refine Ext.drew ?_)|(with_reducible refine Ext.drewN ?_ _)|(refine Ext.trans ?_ (by with_reducible assumption))))))) (by omega)) (books_one _) (by omega) ?_
    intro q7 c7 w8 M8
    rw[show 0+i=i from Nat.zero_add i]at M8⊢
    have MA:=Lib.hid (show Mem w w8 [ownI w.heap.size TBk 4 (q7) (i) (c7) ((R.take i).flatMap visitCells),blkI w.heap.size (w2.heap.size) TDk #[.int .i64 P,.slice q5 m c5,.slice q6 (i+1) c6],ownI w.heap.size TBk 4 (q5) (m) (c5) (T.flatMap visitCells),ownI w.heap.size TBk 4 (q6) ((i+1)) (c6) (R.flatMap visitCells),ownI w.heap.size TI 1 (some ⟨w.heap.size+1+1,0,none⟩) (0) (0) ([]),blkI w.heap.size (w.heap.size+1) TDk #[.int .i64 0,.slice none 0 0,.slice none 0 0],blkI w.heap.size (w.heap.size) TDk #[.int .i64 P,.slice q m c2,.slice (some ⟨b,off,none⟩) (i+1) (i+1)]]from by simpa only[Nat.zero_add,List.nil_append,List.set_cons_zero,List.set_cons_succ]using M8)
    clear M8
    obtain⟨cb0,cb1,cb2⟩:=(MA.out.blk (i:=6) rfl).tri
    have lt8:w.heap.size<w8.heap.size:=(MA.out.lt (i:=6) rfl rfl).2)
  |(refine step_appM elBk (by rfl) _ _ (by rfl) (by first|exact MA.out|exact MA.out.adv (Ext.drew (Ext.refl _))) 0 (by rfl) (by rfl) ([]:List Value) (by rfl) (sl_none4 _ _) (by simp) (by omega) ?_
    intro q8 c8 w9 M9
    rw[show i+0=i from rfl]at M9⊢
    have MB:=Lib.hid (show Mem w w9 [ownI w.heap.size TBk 4 (q8) (i) (c8) ((R.eraseIdx i).flatMap visitCells),blkI w.heap.size (w2.heap.size) TDk #[.int .i64 P,.slice q5 m c5,.slice q6 (i+1) c6],ownI w.heap.size TBk 4 (q5) (m) (c5) (T.flatMap visitCells),ownI w.heap.size TBk 4 (q6) ((i+1)) (c6) (R.flatMap visitCells),ownI w.heap.size TI 1 (some ⟨w.heap.size+1+1,0,none⟩) (0) (0) ([]),blkI w.heap.size (w.heap.size+1) TDk #[.int .i64 0,.slice none 0 0,.slice none 0 0],blkI w.heap.size (w.heap.size) TDk #[.int .i64 P,.slice q m c2,.slice (some ⟨b,off,none⟩) (i+1) (i+1)]]from by rw[show R.eraseIdx i=R.take i by rw[List.eraseIdx_eq_take_drop_succ,List.drop_eq_nil_of_le (by rw[HLN.out];exact Nat.le_refl _),List.append_nil]];simpa only[Nat.zero_add,List.nil_append,List.append_nil,List.set_cons_zero,List.set_cons_succ]using M9)
    clear M9
    obtain⟨cb0,cb1,cb2⟩:=(MB.out.blk (i:=6) rfl).tri
    obtain⟨y0,yf0,y1,yf1,y2,yf2⟩:=(MB.out.blk (i:=1) rfl).trif
    have lt9:w.heap.size<w9.heap.size:=(MB.out.lt (i:=6) rfl rfl).2))
 all_goals (
  clear ca0 ca1 ca2 cb0 cb1 cb2 y0 yf0 y1 yf1 y2 yf2
  have lt30_1:w2.heap.size<w9.heap.size:=(MB.out.lt (i:=1) rfl rfl).2
  have lt30_5:w.heap.size+1<w9.heap.size:=(MB.out.lt (i:=5) rfl rfl).2
  have lt30_6:w.heap.size<w9.heap.size:=(MB.out.lt (i:=6) rfl rfl).2
  have MC:=Lib.hid (show Mem w (w9.setCell ⟨w2.heap.size,2,none⟩ (.slice q8 i c8)) [ownI w.heap.size TBk 4 (q8) (i) (c8) ((R.eraseIdx i).flatMap visitCells),blkI w.heap.size (w2.heap.size) TDk #[.int .i64 P,.slice q5 m c5,.slice q8 i c8],ownI w.heap.size TBk 4 (q5) (m) (c5) (T.flatMap visitCells),ownI w.heap.size TBk 4 (q6) ((i+1)) (c6) (R.flatMap visitCells),ownI w.heap.size TI 1 (some ⟨w.heap.size+1+1,0,none⟩) (0) (0) ([]),blkI w.heap.size (w.heap.size+1) TDk #[.int .i64 0,.slice none 0 0,.slice none 0 0],blkI w.heap.size (w.heap.size) TDk #[.int .i64 P,.slice q m c2,.slice (some ⟨b,off,none⟩) (i+1) (i+1)]]from MB.out.store (i:=1) rfl 2 (.slice q8 i c8))
  generalize hwz0:World.setCell _ _ _=wy
  rw[hwz0]at MC
  clear hwz0 MB lt30_1 lt30_5 lt30_6
  have lt30_1:w2.heap.size<wy.heap.size:=(MC.out.lt (i:=1) rfl rfl).2
  have lt30_5:w.heap.size+1<wy.heap.size:=(MC.out.lt (i:=5) rfl rfl).2
  have lt30_6:w.heap.size<wy.heap.size:=(MC.out.lt (i:=6) rfl rfl).2
  obtain⟨ca0,ca1,ca2⟩:=(MC.out.blk (i:=1) rfl).tri
  obtain⟨cz0,czf0,cz1,czf1,cz2,czf2⟩:=(MC.out.blk (i:=5) rfl).trif
  have ne0_1a: ¬(w2.heap.size=w.heap.size+1):=MC.out.ne (i:=1) (j:=5) (by omega) rfl rfl rfl rfl
  have ne0_1b: ¬(w.heap.size+1=w2.heap.size):=fun h=>ne0_1a h.symm
  go_wp2
  clear ca0 ca1 ca2 cz0 czf0 cz1 czf1 cz2 czf2 ne0_1a ne0_1b lt30_1 lt30_5 lt30_6
  have M31:=Lib.hid (((MC.out).put3 (i:=5) rfl (.int .i64 P) (.slice q5 m c5) (.slice q8 i c8)))
  generalize hwz:World.setCell _ _ _=wz
  rw[hwz]at M31
  clear hwz MC
  obtain⟨y0,y1,y2⟩:=(M31.out.blk (i:=5) rfl).tri
  exact bodyPost_ret (v:= .tuple #[.agg #[.int .i64 P,.slice q5 m c5,.slice q8 i c8],.slice (some ⟨w.heap.size+1+1,0,none⟩) 0 0]) (by simp[results,Tryd.results21,go_sem, *]) rfl ⟨q5,c5,q8,c8,some ⟨w.heap.size+1+1,0,none⟩,0,rfl,show Mem w wz [ownI w.heap.size TBk 4 (q5) (m) (c5) (T.flatMap visitCells),ownI w.heap.size TBk 4 (q8) (i) (c8) ((R.eraseIdx i).flatMap visitCells),ownI w.heap.size TI 1 (some ⟨w.heap.size+1+1,0,none⟩) (0) (0) (ivs ([]))]from(M31.out.pick [2,0,4] (by decide) rfl)⟩)
set_option maxRecDepth 100000 in
set_option maxHeartbeats 8000000 in
theorem specDf_taken_end (P:Int)(bq oq:Nat)(i:Nat)(q2:Option Addr)(m2 d2:Nat)(id:Int)(T R:List Visit4)(w:World)(hm:(i+1)≤7)(hm2:m2≤5)(hii:i<1000)(hl:Hid (T.length=(i+1)))(hl2:Hid (R.length=m2))(HS:Hid (Sl w (some ⟨bq,oq,none⟩) (i+1) (i+1) 4 (T.flatMap visitCells)))(HS2:Hid (Sl w q2 m2 d2 4 (R.flatMap visitCells)))(hinv:Hid (∀k,FAt P T R i k (freeAt P (T.eraseIdx i) R k)))
  (HV:Hid (∀w',Ext w w'→Calls Tryd.prog 11 #[.agg #[.int .i64 P,.slice (some ⟨bq,oq,none⟩) (i+1) (i+1),.slice q2 m2 d2]] w' fun e w''=>e= .returned (.bool true)∧Ext w' w''))
  (HC:Hid (∀w',Ext w w'→Calls Tryd.prog 55 #[.agg #[.int .i64 P,.slice (some ⟨bq,oq,none⟩) (i+1) (i+1),.slice q2 m2 d2]] w' fun e w''=> ∃q5 c5 q6 c6,e= .returned (.agg #[.int .i64 P,.slice q5 (i+1) c5,.slice q6 m2 c6])∧Mem w' w'' [ownI w'.heap.size TBk 4 (q5) ((i+1)) (c5) (T.flatMap visitCells),ownI w'.heap.size TBk 4 (q6) (m2) (c6) (R.flatMap visitCells)]))
  (HF2:Hid (∀w',Ext w w'→Calls Tryd.prog 47 #[.slice q2 m2 d2,.int .i64 id] w' fun e w''=>e= .returned (.int .i64 (-1))∧Ext w' w''))
  (HF1:Hid (∀w',Ext w w'→Calls Tryd.prog 47 #[.slice (some ⟨bq,oq,none⟩) (i+1) (i+1),.int .i64 id] w' fun e w''=>e= .returned (.int .i64 (i:Int))∧Ext w' w'')):
  Calls Tryd.prog 21 #[.agg #[.int .i64 P,.slice (some ⟨bq,oq,none⟩) (i+1) (i+1),.slice q2 m2 d2],.int .i64 id] w fun e w'=> ∃qa na ca qb nb cb qc nc cc,e= .returned (.tuple #[.agg #[.int .i64 P,.slice qa na ca,.slice qb nb cb],.slice qc nc cc])∧na=(freeRun P (T.eraseIdx i) R).1.length∧nb=(freeRun P (T.eraseIdx i) R).2.1.length∧nc=(freeRun P (T.eraseIdx i) R).2.2.length∧Mem w w' [ownI w.heap.size TBk 4 (qa) (na) (ca) ((freeRun P (T.eraseIdx i) R).1.flatMap visitCells),ownI w.heap.size TBk 4 (qb) (nb) (cb) ((freeRun P (T.eraseIdx i) R).2.1.flatMap visitCells),ownI w.heap.size TI 1 (qc) (nc) (cc) (ivs ((freeRun P (T.eraseIdx i) R).2.2))]:=by
 have hi:i<i+1:=Nat.lt_succ_self i
 have HLN:=Lib.hid hl.out
 go_enter Tryd.func21,Tryd.ntmps21
 go_wp2_with fail
 refine(HV.out _ (((((((Mem.start w).blkNew TDk #[.int .i64 P,.slice (some ⟨bq,oq,none⟩) (i+1) (i+1),.slice q2 m2 d2] (w.heap.size) (by simp))).blkNew TDk #[.int .i64 0,.slice none 0 0,.slice none 0 0] (w.heap.size+1) (by simp))).made0 TI 1 (w.heap.size+1+1) (by simp))).ext).mono ?_
 rintro e w1 ⟨rfl,hx1⟩
 have M1:=Lib.hid ((((((((Mem.start w).blkNew TDk #[.int .i64 P,.slice (some ⟨bq,oq,none⟩) (i+1) (i+1),.slice q2 m2 d2] (w.heap.size) (by simp))).blkNew TDk #[.int .i64 0,.slice none 0 0,.slice none 0 0] (w.heap.size+1) (by simp))).made0 TI 1 (w.heap.size+1+1) (by simp))).adv hx1)
 have lt1_1:w.heap.size+1<w1.heap.size:=(M1.out.lt (i:=1) rfl rfl).2
 have lt1_2:w.heap.size<w1.heap.size:=(M1.out.lt (i:=2) rfl rfl).2
 clear hx1
 clear HV
 obtain⟨ca0,ca1,ca2⟩:=(M1.out.blk (i:=2) rfl).tri
 go_wp2_with fail
 clear ca0 ca1 ca2
 refine(HC.out _ (M1.out).ext).mono ?_
 rintro e w2 ⟨q5,c5,q6,c6,rfl,hm2⟩
 have M2:=Lib.hid ((M1.out).call2 hm2)
 clear M1
 clear lt1_1 lt1_2
 have lt2_3:w.heap.size+1<w2.heap.size:=(M2.out.lt (i:=3) rfl rfl).2
 have lt2_4:w.heap.size<w2.heap.size:=(M2.out.lt (i:=4) rfl rfl).2
 clear hm2
 clear HC
 have ca2:w2.cell? ⟨w.heap.size,2,none⟩=some (.slice q2 m2 d2):=(M2.out.blk (i:=4) rfl).cell 2
 go_wp2_with fail
 clear ca2
 refine(HF2.out _ (((M2.out).blkNew TDk #[.int .i64 P,.slice q5 (i+1) c5,.slice q6 m2 c6] (w2.heap.size) (by simp))).ext).mono ?_
 rintro e w3 ⟨rfl,hx3⟩
 have M3:=Lib.hid ((((M2.out).blkNew TDk #[.int .i64 P,.slice q5 (i+1) c5,.slice q6 m2 c6] (w2.heap.size) (by simp))).adv hx3)
 clear M2
 clear lt2_3 lt2_4
 have lt3_0:w2.heap.size<w3.heap.size:=(M3.out.lt (i:=0) rfl rfl).2
 have lt3_4:w.heap.size+1<w3.heap.size:=(M3.out.lt (i:=4) rfl rfl).2
 have lt3_5:w.heap.size<w3.heap.size:=(M3.out.lt (i:=5) rfl rfl).2
 clear hx3
 have ca1:w3.cell? ⟨w.heap.size,1,none⟩=some (.slice (some ⟨bq,oq,none⟩) (i+1) (i+1)):=(M3.out.blk (i:=5) rfl).cell 1
 go_wp2_with fail
 clear ca1
 refine(HF1.out _ (M3.out).ext).mono ?_
 rintro e w4 ⟨rfl,hx4⟩
 have M4:=Lib.hid ((M3.out).adv hx4)
 clear M3
 clear lt3_0 lt3_4 lt3_5
 have lt4_0:w2.heap.size<w4.heap.size:=(M4.out.lt (i:=0) rfl rfl).2
 have lt4_4:w.heap.size+1<w4.heap.size:=(M4.out.lt (i:=4) rfl rfl).2
 have lt4_5:w.heap.size<w4.heap.size:=(M4.out.lt (i:=5) rfl rfl).2
 clear hx4
 have hwi:IntKind.i64.wrap ((i:Int)+1)=(i:Int)+1:=IntWalk.i64_in _ (by omega)
 have j1:(0:Int)≤(i:Int):=by omega
 have j2:(i:Int)≤((i+1):Int):=by omega
 have j3:(0:Int)≤(i:Int)+1:=by omega
 have j4:(i:Int)+1≤((i+1):Int):=by omega
 have j5:(i:Int)≤((i+1):Int):=by omega
 have hsu:((i:Int)+1).toNat=i+1:=by omega
 obtain⟨ca0,ca1,ca2⟩:=(M4.out.blk (i:=5) rfl).tri
 have nq0_1a: ¬(w2.heap.size=w.heap.size):=M4.out.ne (i:=0) (j:=5) (by omega) rfl rfl rfl rfl
 have nq0_1b: ¬(w.heap.size=w2.heap.size):=fun h=>nq0_1a h.symm
 go_wp2
 go_region_held3 (fun w'=>w'.cell? ⟨w.heap.size,0,none⟩=some (.int .i64 P)∧w'.cell? ⟨w.heap.size,1,none⟩=some (.slice (some ⟨bq,oq,none⟩) (i+1) (i+1))∧w'.cell? ⟨w.heap.size,2,none⟩=some (.slice q2 m2 d2)) (first|(refine⟨?_,?_,?_⟩<;>assumption)|go_keep) (first
  |(refine step_appM elBk (by rfl) _ _ (by rfl) (by first|exact(M4.out.made0 TBk 4 (w4.heap.size) rfl)|exact(M4.out.made0 TBk 4 (w4.heap.size) rfl).adv (Ext.drew (Ext.refl _))) 0 (by rfl) (by rfl) ((T.take i).flatMap visitCells) (by rfl) (bk_take (HS.out.ext (M4.out.ext.trans (by(repeat' (first|exact Ext.refl _|(with_reducible assumption)|(with_reducible refine Ext.alloc ?_ _)|(with_reducible refine Ext.setCell ?_ (by first|exact Nat.le_refl _|(dsimp only;omega)|(simp;done)|(simp;omega)) _)|(with_reducible refine Ext.drew ?_)|(with_reducible refine Ext.drewN ?_ _)|(refine Ext.trans ?_ (by with_reducible assumption))))))) (by omega)) (books_one _) (by omega) ?_
    intro q7 c7 w8 M8
    rw[show 0+i=i from Nat.zero_add i]at M8⊢
    have MA:=Lib.hid (show Mem w w8 [ownI w.heap.size TBk 4 (q7) (i) (c7) ((T.take i).flatMap visitCells),blkI w.heap.size (w2.heap.size) TDk #[.int .i64 P,.slice q5 (i+1) c5,.slice q6 m2 c6],ownI w.heap.size TBk 4 (q5) ((i+1)) (c5) (T.flatMap visitCells),ownI w.heap.size TBk 4 (q6) (m2) (c6) (R.flatMap visitCells),ownI w.heap.size TI 1 (some ⟨w.heap.size+1+1,0,none⟩) (0) (0) ([]),blkI w.heap.size (w.heap.size+1) TDk #[.int .i64 0,.slice none 0 0,.slice none 0 0],blkI w.heap.size (w.heap.size) TDk #[.int .i64 P,.slice (some ⟨bq,oq,none⟩) (i+1) (i+1),.slice q2 m2 d2]]from by simpa only[Nat.zero_add,List.nil_append,List.set_cons_zero,List.set_cons_succ]using M8)
    clear M8
    obtain⟨cb0,cb1,cb2⟩:=(MA.out.blk (i:=6) rfl).tri
    have lt8:w.heap.size<w8.heap.size:=(MA.out.lt (i:=6) rfl rfl).2)
  |(refine step_appM elBk (by rfl) _ _ (by rfl) (by first|exact MA.out|exact MA.out.adv (Ext.drew (Ext.refl _))) 0 (by rfl) (by rfl) ([]:List Value) (by rfl) (sl_none4 _ _) (by simp) (by omega) ?_
    intro q8 c8 w9 M9
    rw[show i+0=i from rfl]at M9⊢
    have MB:=Lib.hid (show Mem w w9 [ownI w.heap.size TBk 4 (q8) (i) (c8) ((T.eraseIdx i).flatMap visitCells),blkI w.heap.size (w2.heap.size) TDk #[.int .i64 P,.slice q5 (i+1) c5,.slice q6 m2 c6],ownI w.heap.size TBk 4 (q5) ((i+1)) (c5) (T.flatMap visitCells),ownI w.heap.size TBk 4 (q6) (m2) (c6) (R.flatMap visitCells),ownI w.heap.size TI 1 (some ⟨w.heap.size+1+1,0,none⟩) (0) (0) ([]),blkI w.heap.size (w.heap.size+1) TDk #[.int .i64 0,.slice none 0 0,.slice none 0 0],blkI w.heap.size (w.heap.size) TDk #[.int .i64 P,.slice (some ⟨bq,oq,none⟩) (i+1) (i+1),.slice q2 m2 d2]]from by rw[show T.eraseIdx i=T.take i by rw[List.eraseIdx_eq_take_drop_succ,List.drop_eq_nil_of_le (by rw[HLN.out];exact Nat.le_refl _),List.append_nil]];simpa only[Nat.zero_add,List.nil_append,List.append_nil,List.set_cons_zero,List.set_cons_succ]using M9)
    clear M9
    obtain⟨cb0,cb1,cb2⟩:=(MB.out.blk (i:=6) rfl).tri
    obtain⟨y0,yf0,y1,yf1,y2,yf2⟩:=(MB.out.blk (i:=1) rfl).trif
    have lt9:w.heap.size<w9.heap.size:=(MB.out.lt (i:=6) rfl rfl).2))
 all_goals (
  clear ca0 ca1 ca2 cb0 cb1 cb2 y0 yf0 y1 yf1 y2 yf2
  have lt30_1:w2.heap.size<w9.heap.size:=(MB.out.lt (i:=1) rfl rfl).2
  have lt30_5:w.heap.size+1<w9.heap.size:=(MB.out.lt (i:=5) rfl rfl).2
  have lt30_6:w.heap.size<w9.heap.size:=(MB.out.lt (i:=6) rfl rfl).2
  have MC:=Lib.hid (show Mem w (w9.setCell ⟨w2.heap.size,1,none⟩ (.slice q8 i c8)) [ownI w.heap.size TBk 4 (q8) (i) (c8) ((T.eraseIdx i).flatMap visitCells),blkI w.heap.size (w2.heap.size) TDk #[.int .i64 P,.slice q8 i c8,.slice q6 m2 c6],ownI w.heap.size TBk 4 (q5) ((i+1)) (c5) (T.flatMap visitCells),ownI w.heap.size TBk 4 (q6) (m2) (c6) (R.flatMap visitCells),ownI w.heap.size TI 1 (some ⟨w.heap.size+1+1,0,none⟩) (0) (0) ([]),blkI w.heap.size (w.heap.size+1) TDk #[.int .i64 0,.slice none 0 0,.slice none 0 0],blkI w.heap.size (w.heap.size) TDk #[.int .i64 P,.slice (some ⟨bq,oq,none⟩) (i+1) (i+1),.slice q2 m2 d2]]from MB.out.store (i:=1) rfl 1 (.slice q8 i c8))
  generalize hwz0:World.setCell _ _ _=wy
  rw[hwz0]at MC
  clear hwz0 MB lt30_1 lt30_5 lt30_6
  have lt30_1:w2.heap.size<wy.heap.size:=(MC.out.lt (i:=1) rfl rfl).2
  have lt30_5:w.heap.size+1<wy.heap.size:=(MC.out.lt (i:=5) rfl rfl).2
  have lt30_6:w.heap.size<wy.heap.size:=(MC.out.lt (i:=6) rfl rfl).2
  obtain⟨ca0,ca1,ca2⟩:=(MC.out.blk (i:=1) rfl).tri
  have cq2:wy.cell? ⟨w2.heap.size,2,none⟩=some (.slice q6 m2 c6):=(MC.out.blk (i:=1) rfl).cell 2
  have cqf2:wy.frozen? ⟨w2.heap.size,2,none⟩=false:=(MC.out.blk (i:=1) rfl).frozen 2
  go_wp2
  clear ca0 ca1 ca2 cq2 cqf2 lt30_1 lt30_5 lt30_6
  have MW:=Lib.hid (show Mem w (((wy.setCell ⟨w2.heap.size,2,none⟩ (.slice (some ⟨wy.heap.size,0,none⟩) 0 0))).alloc (.cells #[] TBk)) [ownI w.heap.size TBk 4 (some ⟨wy.heap.size,0,none⟩) (0) (0) ([]),ownI w.heap.size TBk 4 (q8) (i) (c8) ((T.eraseIdx i).flatMap visitCells),blkI w.heap.size (w2.heap.size) TDk #[.int .i64 P,.slice q8 i c8,.slice (some ⟨wy.heap.size,0,none⟩) 0 0],ownI w.heap.size TBk 4 (q5) ((i+1)) (c5) (T.flatMap visitCells),ownI w.heap.size TBk 4 (q6) (m2) (c6) (R.flatMap visitCells),ownI w.heap.size TI 1 (some ⟨w.heap.size+1+1,0,none⟩) (0) (0) ([]),blkI w.heap.size (w.heap.size+1) TDk #[.int .i64 0,.slice none 0 0,.slice none 0 0],blkI w.heap.size (w.heap.size) TDk #[.int .i64 P,.slice (some ⟨bq,oq,none⟩) (i+1) (i+1),.slice q2 m2 d2]]from((((MC.out).store (i:=1) rfl 2 (.slice (some ⟨wy.heap.size,0,none⟩) 0 0))).made0 TBk 4 (wy.heap.size) (by simp)))
  generalize hwz:World.alloc (World.setCell _ _ _) _=wz
  rw[hwz]at MW
  clear hwz MC
  have MS:=Lib.hid (show Mem w wz [ownI w.heap.size TI 1 (some ⟨w.heap.size+1+1,0,none⟩) (0) (0) (ivs ((freeAt P (T.eraseIdx i) R 0).2.2)),ownI w.heap.size TBk 4 (q8) i (c8) ((freeAt P (T.eraseIdx i) R 0).1.flatMap visitCells),ownI w.heap.size TBk 4 (some ⟨wy.heap.size,0,none⟩) (0) (0) ((freeAt P (T.eraseIdx i) R 0).2.1.flatMap visitCells),blkI w.heap.size (w2.heap.size) TDk #[.int .i64 P,.slice q8 i c8,.slice (some ⟨wy.heap.size,0,none⟩) 0 0],blkI w.heap.size (w.heap.size+1) TDk #[.int .i64 0,.slice none 0 0,.slice none 0 0],blkI w.heap.size (w.heap.size) TDk #[.int .i64 P,.slice (some ⟨bq,oq,none⟩) (i+1) (i+1),.slice q2 m2 d2]]from by
   rw[freeAt_zero]
   exact MW.out.pick [5,1,0,2,6,7] (by decide) rfl)
  clear MW
  generalize w2.heap.size=a at MS
  go_loopw [6,9] (fun v x wr=> ∃(k:Nat) (q7:Option Addr) (l7 c7:Nat) (q8:Option Addr) (l8 c8:Nat) (q9:Option Addr) (l9 c9:Nat),k≤m2∧x= .int .i64 (k:Int)∧v= .slice q9 l9 c9∧l7=(freeAt P (T.eraseIdx i) R k).1.length∧l8=(freeAt P (T.eraseIdx i) R k).2.1.length∧l9=(freeAt P (T.eraseIdx i) R k).2.2.length∧Mem w wr [ownI w.heap.size TI 1 (q9) (l9) (c9) (ivs ((freeAt P (T.eraseIdx i) R k).2.2)),ownI w.heap.size TBk 4 (q7) (l7) (c7) ((freeAt P (T.eraseIdx i) R k).1.flatMap visitCells),ownI w.heap.size TBk 4 (q8) (l8) (c8) ((freeAt P (T.eraseIdx i) R k).2.1.flatMap visitCells),blkI w.heap.size (a) TDk #[.int .i64 P,.slice q7 l7 c7,.slice q8 l8 c8],blkI w.heap.size (w.heap.size+1) TDk #[.int .i64 0,.slice none 0 0,.slice none 0 0],blkI w.heap.size (w.heap.size) TDk #[.int .i64 P,.slice (some ⟨bq,oq,none⟩) (i+1) (i+1),.slice q2 m2 d2]]) (fun _ x _=>m2-(intOf x).toNat)
  case atStart=>exact⟨0,q8,i,c8,some ⟨wy.heap.size,0,none⟩,0,0,some ⟨w.heap.size+1+1,0,none⟩,0,0,Nat.zero_le _,rfl,rfl,by rw[freeAt_zero];show _=(T.eraseIdx i).length;have e:=List.length_eraseIdx_of_lt (l:=T) (i:=i) (by rw[hl.out];exact hi);have e2:=hl.out;omega,by rw[freeAt_zero];rfl,by rw[freeAt_zero];rfl,MS.out⟩
  case round=>
   clear MS
   obtain⟨k,qt,lt,ct,qr,lr,cr,qf,lf,cf,hk,rfl,rfl,hl7,hl8,hl9,hM⟩:=hrel
   have HM:=Lib.hid hM
   have HL7:=Lib.hid hl7
   have HL8:=Lib.hid hl8
   have HL9:=Lib.hid hl9
   obtain⟨hb7,hb8,hb9,hup,hne⟩:=hinv.out k
   rw[←hl7]at hb7
   rw[←hl8]at hb8
   rw[←hl9]at hb9
   have HUP:=Lib.hid hup
   have HNE:=Lib.hid hne
   clear hM hl7 hl8 hl9 hup hne
   by_cases hlt:k<m2
   ·obtain⟨b,off,x0,x1,x2,x3,rfl,hv,hb,g0,g1,g2,g3⟩:=visit_at HS2.out hlt
    have hst:=Lib.hid (freeAt_succ (p:=P) (T0:=T.eraseIdx i) hv)
    have HNEV:=Lib.hid (HNE.out _ hv)
    clear hv
    have i1:(0:Int)≤(k:Int):=by omega
    have i2:(k:Int)<(m2:Int):=by omega
    have lt20_3:a<wr.heap.size:=(HM.out.lt (i:=3) rfl rfl).2
    have lt20_4:w.heap.size+1<wr.heap.size:=(HM.out.lt (i:=4) rfl rfl).2
    have lt20_5:w.heap.size<wr.heap.size:=(HM.out.lt (i:=5) rfl rfl).2
    obtain⟨ca0,ca1,ca2⟩:=(HM.out.blk (i:=3) rfl).tri
    have cd2:wr.cell? ⟨w.heap.size,2,none⟩=some (.slice (some ⟨b,off,none⟩) m2 d2):=(HM.out.blk (i:=5) rfl).cell 2
    have e0:=(HM.out.ext.cells.1 _ _ hb).trans g0
    have e1:=(HM.out.ext.cells.1 _ _ hb).trans g1
    have e2:=(HM.out.ext.cells.1 _ _ hb).trans g2
    have e3:=(HM.out.ext.cells.1 _ _ hb).trans g3
    have hb2:=Nat.lt_of_lt_of_le hb HM.out.ext.sz
    have HFI:=Lib.hid (fun w' (hs:Sl w' qt lt ct 4 ((freeAt P (T.eraseIdx i) R k).1.flatMap visitCells))=>l6Fits_any P qt lt ct qr lr cr (freeAt P (T.eraseIdx i) R k).1 x0 x1 x2 x3 w' (by omega) hs)
    have HPU:=Lib.hid (fun w' (hs:Sl w' qt lt ct 4 ((freeAt P (T.eraseIdx i) R k).1.flatMap visitCells))=>l6Put_any x0 x1 x2 x3 qt lt ct (freeAt P (T.eraseIdx i) R k).1 w' (by omega) hs)
    obtain⟨ft,hft⟩: ∃ft,ft=deskFits P (freeAt P (T.eraseIdx i) R k).1 (x0,x1,x2,x3):=⟨_,rfl⟩
    rw[←hft]at HFI
    have HFT:=Lib.hid hft
    clear hft
    go_wp2
    go_region_held3 (fun w'=>w'.cell? ⟨a,0,none⟩=some (.int .i64 P)∧w'.cell? ⟨a,1,none⟩=some (.slice qt lt ct)∧w'.cell? ⟨a,2,none⟩=some (.slice qr lr cr)∧w'.cell? ⟨w.heap.size,2,none⟩=some (.slice (some ⟨b,off,none⟩) m2 d2)∧w'.cell? ⟨b,off+k*4,none⟩=some (.int .i64 x0)∧w'.cell? ⟨b,off+k*4+1,none⟩=some (.int .i64 x1)∧w'.cell? ⟨b,off+k*4+2,none⟩=some (.int .i64 x2)∧w'.cell? ⟨b,off+k*4+3,none⟩=some (.int .i64 x3)) (first|(refine⟨?_,?_,?_,?_,?_,?_,?_,?_⟩<;>assumption)|go_keep) (first
     |(go_simp;go_at_call 48
       (with_reducible refine(HFI.out _ ((HM.out.sl (i:=1) rfl).ext (by(repeat' (first|exact Ext.refl _|(with_reducible assumption)|(with_reducible refine Ext.alloc ?_ _)|(with_reducible refine Ext.setCell ?_ (by first|exact Nat.le_refl _|(dsimp only;omega)|(simp;done)|(simp;omega)) _)|(with_reducible refine Ext.drew ?_)|(with_reducible refine Ext.drewN ?_ _)|(refine Ext.trans ?_ (by with_reducible assumption))))))).mono ?_)
       rintro e w21 ⟨rfl,hx21⟩
       (try replace hx21:=hx21.of_drew)
       have M21:=Lib.hid (HM.out.adv hx21)
       have lt60_3:a<w21.heap.size:=(M21.out.lt (i:=3) rfl rfl).2
       have lt60_4:w.heap.size+1<w21.heap.size:=(M21.out.lt (i:=4) rfl rfl).2
       have lt60_5:w.heap.size<w21.heap.size:=(M21.out.lt (i:=5) rfl rfl).2
       obtain⟨cb0,cb1,cb2⟩:=(M21.out.blk (i:=3) rfl).tri
       have ce2:w21.cell? ⟨w.heap.size,2,none⟩=some (.slice (some ⟨b,off,none⟩) m2 d2):=(M21.out.blk (i:=5) rfl).cell 2
       have f0:=(M21.out.ext.cells.1 _ _ hb).trans g0
       have f1:=(M21.out.ext.cells.1 _ _ hb).trans g1
       have f2:=(M21.out.ext.cells.1 _ _ hb).trans g2
       have f3:=(M21.out.ext.cells.1 _ _ hb).trans g3
       have hb3:=Nat.lt_of_lt_of_le hb M21.out.ext.sz))
    all_goals (
     clear ca0 ca1 ca2 cd2 e0 e1 e2 e3 hb2 lt20_3 lt20_4 lt20_5 HM HFI
     cases ft with
     |true=>
      have hs2:Hid ((freeAt P (T.eraseIdx i) R (k+1))=freeStep P (freeAt P (T.eraseIdx i) R k) (x0,x1,x2,x3)):=hst.out
      have hs3:Hid ((freeAt P (T.eraseIdx i) R (k+1))=(putBook (freeAt P (T.eraseIdx i) R k).1 (x0,x1,x2,x3),(freeAt P (T.eraseIdx i) R k).2.1,(freeAt P (T.eraseIdx i) R k).2.2++ [x0])):=by show _=_;rw[hs2.out];unfold freeStep;simp[←HFT.out]
      clear HFT hs2 hst
      go_wp2
      refine region_lin (gl [gEq (.pointer (some ⟨a,1,none⟩)),gEq (.slice qt lt ct),gEq (.pointer (some ⟨w.heap.size,2,none⟩)),gEq (.slice (some ⟨b,off,none⟩) m2 d2),gEq (.int .i64 (k:Int)),gEq (.pointer (some ⟨b,off+k*4,none⟩)),gEq (.agg #[.int .i64 x0,.int .i64 x1,.int .i64 x2,.int .i64 x3]),(fun v w'=> ∃q c,v= .slice q (lt+1) c∧w'.ownsRow (w21.heap.size) TBk 4 (.slice q (lt+1) c) (lt+1) ((putB (x0,x1,x2,x3) (freeAt P (T.eraseIdx i) R k).1).flatMap visitCells)),gEq (.pointer (some ⟨a,1,none⟩))]) 9 (by kernel_rfl) rfl (by kernel_rfl) (by kernel_rfl) (by kernel_rfl) (gl_mono (gl_cons (gEq_mono _) (gl_cons (gEq_mono _) (gl_cons (gEq_mono _) (gl_cons (gEq_mono _) (gl_cons (gEq_mono _) (gl_cons (gEq_mono _) (gl_cons (gEq_mono _) (gl_cons (fun v w w' ⟨q,c,he,ho⟩ hx=>⟨q,c,he,own_ext ho hx⟩) (gl_cons (gEq_mono _) (gl_nil))))))))))) (k:=10) (by kernel_rfl) (by decide) (ls:= [(0,some 76),(1,some 77),(2,some 78),(3,some 79),(4,some 80),(5,some 81),(6,some 82),(7,some 83),(8,some 84)]) (by kernel_rfl) (ir:= [0,1,2,3,4,5,6,7,8]) (by kernel_rfl) ?steps (tl:=#[true,true,true,true,true,true,true,true,true,false]) (by kernel_rfl) ?fin
      case steps=>
       refine StepsL.cons (ps:= []) rfl (by kernel_rfl) (fun wi hx=> ?_) ?_
       ·intro K hK
        go_simp
        exact hK _ _ ⟨.pointer (some ⟨a,1,none⟩),rfl,rfl,Ext.refl _⟩
       refine StepsL.cons (ps:= [(0,some 76)]) rfl (by kernel_rfl) (fun wi hx=> ?_) ?_
       ·intro v0 h0 K hK
        obtain rfl:=h0
        have hX:Ext w21 wi:=by(repeat' (first|exact Ext.refl _|(with_reducible assumption)|(with_reducible refine Ext.alloc ?_ _)|(with_reducible refine Ext.setCell ?_ (by first|exact Nat.le_refl _|(dsimp only;omega)|(simp;done)|(simp;omega)) _)|(with_reducible refine Ext.drew ?_)|(with_reducible refine Ext.drewN ?_ _)|(refine Ext.trans ?_ (by with_reducible assumption))))
        have cl0:wi.cell? ⟨a,1,none⟩=some (.slice qt lt ct):=((M21.out.blk (i:=3) rfl).ext hX).cell 1
        go_simp
        exact hK _ _ ⟨.slice qt lt ct,rfl,rfl,Ext.refl _⟩
       refine StepsL.cons (ps:= []) rfl (by kernel_rfl) (fun wi hx=> ?_) ?_
       ·intro K hK
        go_simp
        exact hK _ _ ⟨.pointer (some ⟨w.heap.size,2,none⟩),rfl,rfl,Ext.refl _⟩
       refine StepsL.cons (ps:= [(2,some 78)]) rfl (by kernel_rfl) (fun wi hx=> ?_) ?_
       ·intro v2 h2 K hK
        obtain rfl:=h2
        have hX:Ext w21 wi:=by(repeat' (first|exact Ext.refl _|(with_reducible assumption)|(with_reducible refine Ext.alloc ?_ _)|(with_reducible refine Ext.setCell ?_ (by first|exact Nat.le_refl _|(dsimp only;omega)|(simp;done)|(simp;omega)) _)|(with_reducible refine Ext.drew ?_)|(with_reducible refine Ext.drewN ?_ _)|(refine Ext.trans ?_ (by with_reducible assumption))))
        have cl0:wi.cell? ⟨w.heap.size,2,none⟩=some (.slice (some ⟨b,off,none⟩) m2 d2):=((M21.out.blk (i:=5) rfl).ext hX).cell 2
        go_simp
        exact hK _ _ ⟨.slice (some ⟨b,off,none⟩) m2 d2,rfl,rfl,Ext.refl _⟩
       refine StepsL.cons (ps:= []) rfl (by kernel_rfl) (fun wi hx=> ?_) ?_
       ·intro K hK
        go_simp
        exact hK _ _ ⟨.int .i64 (k:Int),rfl,rfl,Ext.refl _⟩
       refine StepsL.cons (ps:= [(3,some 79),(4,some 80)]) rfl (by kernel_rfl) (fun wi hx=> ?_) ?_
       ·intro v3 h3 v4 h4 K hK
        obtain rfl:=h3
        obtain rfl:=h4
        go_simp
        exact hK _ _ ⟨.pointer (some ⟨b,off+k*4,none⟩),rfl,rfl,Ext.refl _⟩
       refine StepsL.cons (ps:= [(5,some 81)]) rfl (by kernel_rfl) (fun wi hx=> ?_) ?_
       ·intro v5 h5 K hK
        obtain rfl:=h5
        have hX:Ext w21 wi:=by(repeat' (first|exact Ext.refl _|(with_reducible assumption)|(with_reducible refine Ext.alloc ?_ _)|(with_reducible refine Ext.setCell ?_ (by first|exact Nat.le_refl _|(dsimp only;omega)|(simp;done)|(simp;omega)) _)|(with_reducible refine Ext.drew ?_)|(with_reducible refine Ext.drewN ?_ _)|(refine Ext.trans ?_ (by with_reducible assumption))))
        have cl0:wi.cell? ⟨b,off+k*4,none⟩=some (.int .i64 x0):=(hX.cells.1 _ _ hb3).trans f0
        have cl1:wi.cell? ⟨b,off+k*4+1,none⟩=some (.int .i64 x1):=(hX.cells.1 _ _ hb3).trans f1
        have cl2:wi.cell? ⟨b,off+k*4+2,none⟩=some (.int .i64 x2):=(hX.cells.1 _ _ hb3).trans f2
        have cl3:wi.cell? ⟨b,off+k*4+3,none⟩=some (.int .i64 x3):=(hX.cells.1 _ _ hb3).trans f3
        go_simp
        exact hK _ _ ⟨.agg #[.int .i64 x0,.int .i64 x1,.int .i64 x2,.int .i64 x3],rfl,rfl,Ext.refl _⟩
       refine StepsL.cons (ps:= [(1,some 77),(6,some 82)]) rfl (by kernel_rfl) (fun wi hx=> ?_) ?_
       ·intro v1 h1 v6 h6 K hK
        obtain rfl:=h1
        obtain rfl:=h6
        have hX:Ext w21 wi:=by(repeat' (first|exact Ext.refl _|(with_reducible assumption)|(with_reducible refine Ext.alloc ?_ _)|(with_reducible refine Ext.setCell ?_ (by first|exact Nat.le_refl _|(dsimp only;omega)|(simp;done)|(simp;omega)) _)|(with_reducible refine Ext.drew ?_)|(with_reducible refine Ext.drewN ?_ _)|(refine Ext.trans ?_ (by with_reducible assumption))))
        go_simp
        refine(HPU.out wi ((M21.out.sl (i:=1) rfl).ext hX)).mono ?_
        rintro e w5 ⟨q5,c5,rfl,o5,hx5⟩
        go_simp
        exact hK _ _ ⟨.slice q5 (lt+1) c5,rfl,⟨q5,c5,rfl,own_base o5 (by have:=hX.sz;(try simp at this);omega)⟩,hx5⟩
       refine StepsL.cons (ps:= []) rfl (by kernel_rfl) (fun wi hx=> ?_) StepsL.nil
       ·intro K hK
        go_simp
        exact hK _ _ ⟨.pointer (some ⟨a,1,none⟩),rfl,rfl,Ext.refl _⟩
      case fin=>
       intro wi hx v0 h0 v1 h1 v2 h2 v3 h3 v4 h4 v5 h5 v6 h6 v7 h7 v8 h8
       obtain rfl:=h0
       obtain rfl:=h1
       obtain rfl:=h2
       obtain rfl:=h3
       obtain rfl:=h4
       obtain rfl:=h5
       obtain rfl:=h6
       obtain⟨q7,c7,rfl,ho7⟩:=h7
       obtain rfl:=h8
       have hX:Ext w21 wi:=hx.of_drew
       have M22:=Lib.hid (show Mem w wi [ownI w.heap.size TBk 4 (q7) ((lt+1)) (c7) ((putB (x0,x1,x2,x3) (freeAt P (T.eraseIdx i) R k).1).flatMap visitCells),ownI w.heap.size TI 1 (qf) (lf) (cf) (ivs ((freeAt P (T.eraseIdx i) R k).2.2)),ownI w.heap.size TBk 4 (qt) (lt) (ct) ((freeAt P (T.eraseIdx i) R k).1.flatMap visitCells),ownI w.heap.size TBk 4 (qr) (lr) (cr) ((freeAt P (T.eraseIdx i) R k).2.1.flatMap visitCells),blkI w.heap.size (a) TDk #[.int .i64 P,.slice qt lt ct,.slice qr lr cr],blkI w.heap.size (w.heap.size+1) TDk #[.int .i64 0,.slice none 0 0,.slice none 0 0],blkI w.heap.size (w.heap.size) TDk #[.int .i64 P,.slice (some ⟨bq,oq,none⟩) (i+1) (i+1),.slice (some ⟨b,off,none⟩) m2 d2]]from M21.out.ownOf0 hX ho7)
       clear hX hx ho7 M21
       have lt60_4:a<wi.heap.size:=(M22.out.lt (i:=4) rfl rfl).2
       have lt60_5:w.heap.size+1<wi.heap.size:=(M22.out.lt (i:=5) rfl rfl).2
       have lt60_6:w.heap.size<wi.heap.size:=(M22.out.lt (i:=6) rfl rfl).2
       have cc1:wi.cell? ⟨a,1,none⟩=some (.slice qt lt ct):=(M22.out.blk (i:=4) rfl).cell 1
       have ccf1:wi.frozen? ⟨a,1,none⟩=false:=(M22.out.blk (i:=4) rfl).frozen 1
       try simp only[Act.put,List.setIfInBounds_toArray,List.set_cons_zero,List.set_cons_succ]
       refine wpAny_ready (rs:= [9]) (by kernel_rfl) (by simp) ?_
       refine AllReady.cons rfl (fun K hK=> ?_) AllReady.nil
       go_simp
       refine hK _ _ ?_
       clear hK K
       refine wpAny_done (by kernel_rfl) ?_ _
       try simp only[Act.put,List.setIfInBounds_toArray,List.set_cons_zero,List.set_cons_succ]
       clear cc1 ccf1
       have MC:=Lib.hid (show Mem w (wi.setCell ⟨a,1,none⟩ (.slice q7 (lt+1) c7)) [ownI w.heap.size TBk 4 (q7) ((lt+1)) (c7) ((putB (x0,x1,x2,x3) (freeAt P (T.eraseIdx i) R k).1).flatMap visitCells),ownI w.heap.size TI 1 (qf) (lf) (cf) (ivs ((freeAt P (T.eraseIdx i) R k).2.2)),ownI w.heap.size TBk 4 (qt) (lt) (ct) ((freeAt P (T.eraseIdx i) R k).1.flatMap visitCells),ownI w.heap.size TBk 4 (qr) (lr) (cr) ((freeAt P (T.eraseIdx i) R k).2.1.flatMap visitCells),blkI w.heap.size (a) TDk #[.int .i64 P,.slice q7 (lt+1) c7,.slice qr lr cr],blkI w.heap.size (w.heap.size+1) TDk #[.int .i64 0,.slice none 0 0,.slice none 0 0],blkI w.heap.size (w.heap.size) TDk #[.int .i64 P,.slice (some ⟨bq,oq,none⟩) (i+1) (i+1),.slice (some ⟨b,off,none⟩) m2 d2]]from M22.out.store (i:=4) rfl 1 (.slice q7 (lt+1) c7))
       generalize hwz0:World.setCell _ _ _=wy
       rw[hwz0]at MC
       clear hwz0 M22
       have lt50_4:a<wy.heap.size:=(MC.out.lt (i:=4) rfl rfl).2
       have lt50_5:w.heap.size+1<wy.heap.size:=(MC.out.lt (i:=5) rfl rfl).2
       have lt50_6:w.heap.size<wy.heap.size:=(MC.out.lt (i:=6) rfl rfl).2
       have cj2:wy.cell? ⟨w.heap.size,2,none⟩=some (.slice (some ⟨b,off,none⟩) m2 d2):=(MC.out.blk (i:=6) rfl).cell 2
       have h0:=(MC.out.ext.cells.1 _ _ hb).trans g0
       have h1:=(MC.out.ext.cells.1 _ _ hb).trans g1
       have h2:=(MC.out.ext.cells.1 _ _ hb).trans g2
       have h3:=(MC.out.ext.cells.1 _ _ hb).trans g3
       have hb5:=Nat.lt_of_lt_of_le hb MC.out.ext.sz
       have hpl:Hid ((putBook (freeAt P (T.eraseIdx i) R k).1 (x0,x1,x2,x3)).length=lt+1):=by show _=_;rw[putBook_len,←HL7.out]
       go_wp2_with (at_builtin;go_loud (refine wpList_appM elInt rfl _ _ rfl (MC.out.adv ((Ext.refl _).alloc (.cells #[.int .i64 x0] TI))) 1 rfl rfl [.int .i64 x0] rfl (sl_lit _ _ _ 1 1 _ (by simp) (by simp) (by simp[maxLen])) (iv_one _) (by omega) ?_;intro q4 c4 w9 M9a))
       have M9b:=Lib.hid (show Mem w w9 [ownI w.heap.size TBk 4 (q7) ((lt+1)) (c7) ((putB (x0,x1,x2,x3) (freeAt P (T.eraseIdx i) R k).1).flatMap visitCells),ownI w.heap.size TI 1 (q4) ((lf+1)) (c4) (ivs ((freeAt P (T.eraseIdx i) R k).2.2++ [x0])),ownI w.heap.size TBk 4 (qt) (lt) (ct) ((freeAt P (T.eraseIdx i) R k).1.flatMap visitCells),ownI w.heap.size TBk 4 (qr) (lr) (cr) ((freeAt P (T.eraseIdx i) R k).2.1.flatMap visitCells),blkI w.heap.size (a) TDk #[.int .i64 P,.slice q7 (lt+1) c7,.slice qr lr cr],blkI w.heap.size (w.heap.size+1) TDk #[.int .i64 0,.slice none 0 0,.slice none 0 0],blkI w.heap.size (w.heap.size) TDk #[.int .i64 P,.slice (some ⟨bq,oq,none⟩) (i+1) (i+1),.slice (some ⟨b,off,none⟩) m2 d2]]from by simpa[ivs,iv]using M9a)
       have M9:=Lib.hid (show Mem w w9 [ownI w.heap.size TI 1 (q4) ((lf+1)) (c4) (ivs ((freeAt P (T.eraseIdx i) R (k+1)).2.2)),ownI w.heap.size TBk 4 (q7) ((lt+1)) (c7) ((freeAt P (T.eraseIdx i) R (k+1)).1.flatMap visitCells),ownI w.heap.size TBk 4 (qr) (lr) (cr) ((freeAt P (T.eraseIdx i) R (k+1)).2.1.flatMap visitCells),blkI w.heap.size (a) TDk #[.int .i64 P,.slice q7 ((lt+1)) c7,.slice qr lr cr],blkI w.heap.size (w.heap.size+1) TDk #[.int .i64 0,.slice none 0 0,.slice none 0 0],blkI w.heap.size (w.heap.size) TDk #[.int .i64 P,.slice (some ⟨bq,oq,none⟩) (i+1) (i+1),.slice (some ⟨b,off,none⟩) m2 d2]]from by rw[hs3.out];exact M9b.out.pick [1,0,3,4,5,6] (by decide) rfl)
       have h7:Hid (lt+1=(freeAt P (T.eraseIdx i) R (k+1)).1.length):=by show _=_;rw[hs3.out];exact hpl.out.symm
       have h8:Hid (lr=(freeAt P (T.eraseIdx i) R (k+1)).2.1.length):=by show _=_;rw[hs3.out];exact HL8.out
       have h9:Hid (lf+1=(freeAt P (T.eraseIdx i) R (k+1)).2.2.length):=by show _=_;rw[hs3.out];simp[←HL9.out]
       clear M9a M9b MC h0 h1 h2 h3 hb5 cj2 lt50_4 lt50_5 lt50_6
       go_wp2
       go_roundw
       case rel=>exact⟨k+1,q7,lt+1,c7,qr,lr,cr,q4,lf+1,c4,by omega,by go_num,rfl,h7.out,h8.out,h9.out,M9.out⟩
       case measure=>simp[intOf];omega
     |false=>
      have hs2:Hid ((freeAt P (T.eraseIdx i) R (k+1))=freeStep P (freeAt P (T.eraseIdx i) R k) (x0,x1,x2,x3)):=hst.out
      have hs3:Hid ((freeAt P (T.eraseIdx i) R (k+1))=((freeAt P (T.eraseIdx i) R k).1,(freeAt P (T.eraseIdx i) R k).2.1++ [(x0,x1,x2,x3)],(freeAt P (T.eraseIdx i) R k).2.2)):=by show _=_;rw[hs2.out];unfold freeStep;simp[←HFT.out]
      clear HFT hs2 hst
      go_wp2
      refine region_lin (gl [gEq (.pointer (some ⟨a,2,none⟩)),gEq (.slice qr lr cr),gEq (.pointer (some ⟨w.heap.size,2,none⟩)),gEq (.slice (some ⟨b,off,none⟩) m2 d2),gEq (.int .i64 (k:Int)),gEq (.pointer (some ⟨b,off+k*4,none⟩)),gEq (.agg #[.int .i64 x0,.int .i64 x1,.int .i64 x2,.int .i64 x3]),gLit (0) TBk #[.int .i64 x0,.int .i64 x1,.int .i64 x2,.int .i64 x3] 1]) 8 (by kernel_rfl) rfl (by kernel_rfl) (by kernel_rfl) (by kernel_rfl) (gl_mono (gl_cons (gEq_mono _) (gl_cons (gEq_mono _) (gl_cons (gEq_mono _) (gl_cons (gEq_mono _) (gl_cons (gEq_mono _) (gl_cons (gEq_mono _) (gl_cons (gEq_mono _) (gl_cons (gLit_mono _ _ _ _) (gl_nil)))))))))) (k:=11) (by kernel_rfl) (by decide) (ls:= [(0,some 94),(1,some 95),(2,some 96),(3,some 97),(4,some 98),(5,some 99),(6,some 100),(7,some 101)]) (by kernel_rfl) (ir:= [0,1,2,3,4,5,6,7]) (by kernel_rfl) ?steps (tl:=#[true,true,true,true,true,true,true,true,false,false,false]) (by kernel_rfl) ?fin
      case steps=>
       refine StepsL.cons (ps:= []) rfl (by kernel_rfl) (fun wi hx=> ?_) ?_
       ·intro K hK
        go_simp
        exact hK _ _ ⟨.pointer (some ⟨a,2,none⟩),rfl,rfl,Ext.refl _⟩
       refine StepsL.cons (ps:= [(0,some 94)]) rfl (by kernel_rfl) (fun wi hx=> ?_) ?_
       ·intro v0 h0 K hK
        obtain rfl:=h0
        have hX:Ext w21 wi:=by(repeat' (first|exact Ext.refl _|(with_reducible assumption)|(with_reducible refine Ext.alloc ?_ _)|(with_reducible refine Ext.setCell ?_ (by first|exact Nat.le_refl _|(dsimp only;omega)|(simp;done)|(simp;omega)) _)|(with_reducible refine Ext.drew ?_)|(with_reducible refine Ext.drewN ?_ _)|(refine Ext.trans ?_ (by with_reducible assumption))))
        have cl0:wi.cell? ⟨a,2,none⟩=some (.slice qr lr cr):=((M21.out.blk (i:=3) rfl).ext hX).cell 2
        go_simp
        exact hK _ _ ⟨.slice qr lr cr,rfl,rfl,Ext.refl _⟩
       refine StepsL.cons (ps:= []) rfl (by kernel_rfl) (fun wi hx=> ?_) ?_
       ·intro K hK
        go_simp
        exact hK _ _ ⟨.pointer (some ⟨w.heap.size,2,none⟩),rfl,rfl,Ext.refl _⟩
       refine StepsL.cons (ps:= [(2,some 96)]) rfl (by kernel_rfl) (fun wi hx=> ?_) ?_
       ·intro v2 h2 K hK
        obtain rfl:=h2
        have hX:Ext w21 wi:=by(repeat' (first|exact Ext.refl _|(with_reducible assumption)|(with_reducible refine Ext.alloc ?_ _)|(with_reducible refine Ext.setCell ?_ (by first|exact Nat.le_refl _|(dsimp only;omega)|(simp;done)|(simp;omega)) _)|(with_reducible refine Ext.drew ?_)|(with_reducible refine Ext.drewN ?_ _)|(refine Ext.trans ?_ (by with_reducible assumption))))
        have cl0:wi.cell? ⟨w.heap.size,2,none⟩=some (.slice (some ⟨b,off,none⟩) m2 d2):=((M21.out.blk (i:=5) rfl).ext hX).cell 2
        go_simp
        exact hK _ _ ⟨.slice (some ⟨b,off,none⟩) m2 d2,rfl,rfl,Ext.refl _⟩
       refine StepsL.cons (ps:= []) rfl (by kernel_rfl) (fun wi hx=> ?_) ?_
       ·intro K hK
        go_simp
        exact hK _ _ ⟨.int .i64 (k:Int),rfl,rfl,Ext.refl _⟩
       refine StepsL.cons (ps:= [(3,some 97),(4,some 98)]) rfl (by kernel_rfl) (fun wi hx=> ?_) ?_
       ·intro v3 h3 v4 h4 K hK
        obtain rfl:=h3
        obtain rfl:=h4
        go_simp
        exact hK _ _ ⟨.pointer (some ⟨b,off+k*4,none⟩),rfl,rfl,Ext.refl _⟩
       refine StepsL.cons (ps:= [(5,some 99)]) rfl (by kernel_rfl) (fun wi hx=> ?_) ?_
       ·intro v5 h5 K hK
        obtain rfl:=h5
        have hX:Ext w21 wi:=by(repeat' (first|exact Ext.refl _|(with_reducible assumption)|(with_reducible refine Ext.alloc ?_ _)|(with_reducible refine Ext.setCell ?_ (by first|exact Nat.le_refl _|(dsimp only;omega)|(simp;done)|(simp;omega)) _)|(with_reducible refine Ext.drew ?_)|(with_reducible refine Ext.drewN ?_ _)|(refine Ext.trans ?_ (by with_reducible assumption))))
        have cl0:wi.cell? ⟨b,off+k*4,none⟩=some (.int .i64 x0):=(hX.cells.1 _ _ hb3).trans f0
        have cl1:wi.cell? ⟨b,off+k*4+1,none⟩=some (.int .i64 x1):=(hX.cells.1 _ _ hb3).trans f1
        have cl2:wi.cell? ⟨b,off+k*4+2,none⟩=some (.int .i64 x2):=(hX.cells.1 _ _ hb3).trans f2
        have cl3:wi.cell? ⟨b,off+k*4+3,none⟩=some (.int .i64 x3):=(hX.cells.1 _ _ hb3).trans f3
        go_simp
        exact hK _ _ ⟨.agg #[.int .i64 x0,.int .i64 x1,.int .i64 x2,.int .i64 x3],rfl,rfl,Ext.refl _⟩
       refine StepsL.cons (ps:= [(6,some 100)]) rfl (by kernel_rfl) (fun wi hx=> ?_) StepsL.nil
       ·intro v6 h6 K hK
        obtain rfl:=h6
        go_simp
        exact hK _ _ ⟨.slice (some ⟨wi.heap.size,0,none⟩) 1 1,rfl,⟨wi.heap.size,rfl,Nat.zero_le _,Blk.new _ _ _⟩,(Ext.refl _).alloc _⟩
      case fin=>
       intro wi hx v0 h0 v1 h1 v2 h2 v3 h3 v4 h4 v5 h5 v6 h6 v7 h7
       obtain rfl:=h0
       obtain rfl:=h1
       obtain rfl:=h2
       obtain rfl:=h3
       obtain rfl:=h4
       obtain rfl:=h5
       obtain rfl:=h6
       obtain⟨g7,rfl,hg7,B7⟩:=h7
       have hX:Ext w21 wi:=hx.of_drew
       have M1:=Lib.hid (M21.out.adv hX)
       clear hX hx hg7 M21
       try simp only[Act.put,List.setIfInBounds_toArray,List.set_cons_zero,List.set_cons_succ]
       refine wpAny_ready (rs:= [8]) (by kernel_rfl) (by simp) ?_
       refine AllReady.cons rfl (fun K hK=> ?_) AllReady.nil
       refine step_appM elBk rfl _ _ rfl M1.out 2 rfl rfl (visitCells (x0,x1,x2,x3)) rfl (sl_blk1 B7) (book_one _) (by omega) (fun q4 c4 w6 M6=>hK _ _ ?_)
       clear hK K
       have M7:=Lib.hid (show Mem w w6 [ownI w.heap.size TI 1 (qf) (lf) (cf) (ivs ((freeAt P (T.eraseIdx i) R k).2.2)),ownI w.heap.size TBk 4 (qt) (lt) (ct) ((freeAt P (T.eraseIdx i) R k).1.flatMap visitCells),ownI w.heap.size TBk 4 (q4) ((lr+1)) (c4) ((freeAt P (T.eraseIdx i) R k).2.1.flatMap visitCells++visitCells (x0,x1,x2,x3)),blkI w.heap.size (a) TDk #[.int .i64 P,.slice qt lt ct,.slice qr lr cr],blkI w.heap.size (w.heap.size+1) TDk #[.int .i64 0,.slice none 0 0,.slice none 0 0],blkI w.heap.size (w.heap.size) TDk #[.int .i64 P,.slice (some ⟨bq,oq,none⟩) (i+1) (i+1),.slice (some ⟨b,off,none⟩) m2 d2]]from M6)
       clear M6 M1 B7
       have lt60_3:a<w6.heap.size:=(M7.out.lt (i:=3) rfl rfl).2
       have lt60_4:w.heap.size+1<w6.heap.size:=(M7.out.lt (i:=4) rfl rfl).2
       have lt60_5:w.heap.size<w6.heap.size:=(M7.out.lt (i:=5) rfl rfl).2
       have cc2:w6.cell? ⟨a,2,none⟩=some (.slice qr lr cr):=(M7.out.blk (i:=3) rfl).cell 2
       have ccf2:w6.frozen? ⟨a,2,none⟩=false:=(M7.out.blk (i:=3) rfl).frozen 2
       try simp only[Act.put,List.setIfInBounds_toArray,List.set_cons_zero,List.set_cons_succ]
       refine wpAny_ready (rs:= [9]) (by kernel_rfl) (by simp) ?_
       refine AllReady.cons rfl (fun K hK=> ?_) AllReady.nil
       go_simp
       refine hK _ _ ?_
       clear hK K
       refine wpAny_ready (rs:= [10]) (by kernel_rfl) (by simp) ?_
       refine AllReady.cons rfl (fun K hK=> ?_) AllReady.nil
       go_simp
       refine hK _ _ ?_
       clear hK K
       refine wpAny_done (by kernel_rfl) ?_ _
       try simp only[Act.put,List.setIfInBounds_toArray,List.set_cons_zero,List.set_cons_succ]
       clear cc2 ccf2
       have MC:=Lib.hid (show Mem w (w6.setCell ⟨a,2,none⟩ (.slice q4 (lr+1) c4)) [ownI w.heap.size TI 1 (qf) (lf) (cf) (ivs ((freeAt P (T.eraseIdx i) R k).2.2)),ownI w.heap.size TBk 4 (qt) (lt) (ct) ((freeAt P (T.eraseIdx i) R k).1.flatMap visitCells),ownI w.heap.size TBk 4 (q4) ((lr+1)) (c4) ((freeAt P (T.eraseIdx i) R k).2.1.flatMap visitCells++visitCells (x0,x1,x2,x3)),blkI w.heap.size (a) TDk #[.int .i64 P,.slice qt lt ct,.slice q4 (lr+1) c4],blkI w.heap.size (w.heap.size+1) TDk #[.int .i64 0,.slice none 0 0,.slice none 0 0],blkI w.heap.size (w.heap.size) TDk #[.int .i64 P,.slice (some ⟨bq,oq,none⟩) (i+1) (i+1),.slice (some ⟨b,off,none⟩) m2 d2]]from M7.out.store (i:=3) rfl 2 (.slice q4 (lr+1) c4))
       generalize hwz0:World.setCell _ _ _=wy
       rw[hwz0]at MC
       clear hwz0 M7
       have lt50_3:a<wy.heap.size:=(MC.out.lt (i:=3) rfl rfl).2
       have lt50_4:w.heap.size+1<wy.heap.size:=(MC.out.lt (i:=4) rfl rfl).2
       have lt50_5:w.heap.size<wy.heap.size:=(MC.out.lt (i:=5) rfl rfl).2
       have MZ:=Lib.hid (show Mem w wy [ownI w.heap.size TI 1 (qf) (lf) (cf) (ivs ((freeAt P (T.eraseIdx i) R (k+1)).2.2)),ownI w.heap.size TBk 4 (qt) (lt) (ct) ((freeAt P (T.eraseIdx i) R (k+1)).1.flatMap visitCells),ownI w.heap.size TBk 4 (q4) ((lr+1)) (c4) ((freeAt P (T.eraseIdx i) R (k+1)).2.1.flatMap visitCells),blkI w.heap.size (a) TDk #[.int .i64 P,.slice qt lt ct,.slice q4 ((lr+1)) c4],blkI w.heap.size (w.heap.size+1) TDk #[.int .i64 0,.slice none 0 0,.slice none 0 0],blkI w.heap.size (w.heap.size) TDk #[.int .i64 P,.slice (some ⟨bq,oq,none⟩) (i+1) (i+1),.slice (some ⟨b,off,none⟩) m2 d2]]from by rw[hs3.out];have h:=MC.out.pick [0,1,2,3,4,5] (L':= [ownI w.heap.size TI 1 (qf) (lf) (cf) (ivs ((freeAt P (T.eraseIdx i) R k).2.2)),ownI w.heap.size TBk 4 (qt) (lt) (ct) ((freeAt P (T.eraseIdx i) R k).1.flatMap visitCells),ownI w.heap.size TBk 4 (q4) ((lr+1)) (c4) ((freeAt P (T.eraseIdx i) R k).2.1.flatMap visitCells++visitCells (x0,x1,x2,x3)),blkI w.heap.size (a) TDk #[.int .i64 P,.slice qt lt ct,.slice q4 (lr+1) c4],blkI w.heap.size (w.heap.size+1) TDk #[.int .i64 0,.slice none 0 0,.slice none 0 0],blkI w.heap.size (w.heap.size) TDk #[.int .i64 P,.slice (some ⟨bq,oq,none⟩) (i+1) (i+1),.slice (some ⟨b,off,none⟩) m2 d2]]) (by decide) rfl;simpa using h)
       have h7:Hid (lt=(freeAt P (T.eraseIdx i) R (k+1)).1.length):=by show _=_;rw[hs3.out];exact HL7.out
       have h8:Hid (lr+1=(freeAt P (T.eraseIdx i) R (k+1)).2.1.length):=by show _=_;rw[hs3.out];simp[←HL8.out]
       have h9:Hid (lf=(freeAt P (T.eraseIdx i) R (k+1)).2.2.length):=by show _=_;rw[hs3.out];exact HL9.out
       clear MC lt50_3 lt50_4 lt50_5
       go_wp2
       go_roundw
       case rel=>exact⟨k+1,qt,lt,ct,q4,lr+1,c4,qf,lf,cf,by omega,by go_num,rfl,h7.out,h8.out,h9.out,MZ.out⟩
       case measure=>simp[intOf];omega)
   ·obtain rfl:k=m2:=by omega
    have lt20_3:a<wr.heap.size:=(HM.out.lt (i:=3) rfl rfl).2
    have lt20_4:w.heap.size+1<wr.heap.size:=(HM.out.lt (i:=4) rfl rfl).2
    have lt20_5:w.heap.size<wr.heap.size:=(HM.out.lt (i:=5) rfl rfl).2
    obtain⟨ca0,ca1,ca2⟩:=(HM.out.blk (i:=3) rfl).tri
    have cd2:wr.cell? ⟨w.heap.size,2,none⟩=some (.slice q2 k d2):=(HM.out.blk (i:=5) rfl).cell 2
    obtain⟨cz0,czf0,cz1,czf1,cz2,czf2⟩:=(HM.out.blk (i:=4) rfl).trif
    have ne0_1a: ¬(a=w.heap.size+1):=HM.out.ne (i:=3) (j:=4) (by omega) rfl rfl rfl rfl
    have ne0_1b: ¬(w.heap.size+1=a):=fun h=>ne0_1a h.symm
    have hfin:=Lib.hid (freeAt_end P (T.eraseIdx i) R (k:=k) (by rw[hl2.out];exact Nat.le_refl _))
    go_wp2
    clear ca0 ca1 ca2 cd2 cz0 czf0 cz1 czf1 cz2 czf2 ne0_1a ne0_1b lt20_3 lt20_4 lt20_5
    have M21:=Lib.hid (((HM.out).put3 (i:=4) rfl (.int .i64 P) (.slice qt lt ct) (.slice qr lr cr)))
    generalize hwz:World.setCell _ _ _=wz
    rw[hwz]at M21
    clear hwz HM
    obtain⟨y0,y1,y2⟩:=(M21.out.blk (i:=4) rfl).tri
    exact bodyPost_ret (v:= .tuple #[.agg #[.int .i64 P,.slice qt lt ct,.slice qr lr cr],.slice qf lf cf]) (by simp[results,Tryd.results21,go_sem, *]) rfl (by rw[←hfin.out];exact⟨qt,lt,ct,qr,lr,cr,qf,lf,cf,rfl,HL7.out,HL8.out,HL9.out,show Mem w wz [ownI w.heap.size TBk 4 (qt) (lt) (ct) ((freeAt P (T.eraseIdx i) R k).1.flatMap visitCells),ownI w.heap.size TBk 4 (qr) (lr) (cr) ((freeAt P (T.eraseIdx i) R k).2.1.flatMap visitCells),ownI w.heap.size TI 1 (qf) (lf) (cf) (ivs ((freeAt P (T.eraseIdx i) R k).2.2))]from(M21.out.pick [1,2,0] (by decide) rfl)⟩))
end Go.Proofs.YtndcnflchkfaeaaDoor

