/-
  Texts of this proof, packed (@packed).
-/
import Derived.Test.YtndcnflchkfaeaaDoorK1
import Derived.Test.YtndcnflchkfaeaaDoorK10
import Derived.Test.YtndcnflchkfaeaaDoorK17
import Derived.Test.YtndcnflchkfaeaaDoorK20
namespace Go.Proofs.YtndcnflchkfaeaaDoor
open Go.RowKit
set_option linter.unusedVariables false
set_option linter.unusedSimpArgs false
set_option maxRecDepth 100000 in
set_option maxHeartbeats 8000000 in
theorem specDr_bad (P:Int)(q:Option Addr)(m c2:Nat)(q2:Option Addr)(m2 d2:Nat)(q3:Option Addr)(n3 c3:Nat)(T R bs:List Visit4)(w:World)(HV:Hid (∀w',Ext w w'→Calls Tryd.prog 11 #[.agg #[.int .i64 P,.slice q m c2,.slice q2 m2 d2]] w' fun e w''=>e= .returned (.bool false)∧Ext w' w'')):
  Calls Tryd.prog 36 #[.agg #[.int .i64 P,.slice q m c2,.slice q2 m2 d2],.slice q3 n3 c3] w fun e w'=>e= .returned (.agg #[.int .i64 0,.slice none 0 0,.slice none 0 0])∧Ext w w':=by
 go_enter Tryd.func36,Tryd.ntmps36
 go_wp2_with fail
 refine(HV.out _ (((((Mem.start w).blkNew TDk #[.int .i64 P,.slice q m c2,.slice q2 m2 d2] (w.heap.size) (by simp))).blkNew TDk #[.int .i64 0,.slice none 0 0,.slice none 0 0] (w.heap.size+1) (by simp))).ext).mono ?_
 rintro e w1 ⟨rfl,hx1⟩
 have M1:=Lib.hid ((((((Mem.start w).blkNew TDk #[.int .i64 P,.slice q m c2,.slice q2 m2 d2] (w.heap.size) (by simp))).blkNew TDk #[.int .i64 0,.slice none 0 0,.slice none 0 0] (w.heap.size+1) (by simp))).adv hx1)
 have lt1_0:w.heap.size+1<w1.heap.size:=(M1.out.lt (i:=0) rfl rfl).2
 have lt1_1:w.heap.size<w1.heap.size:=(M1.out.lt (i:=1) rfl rfl).2
 clear hx1
 clear HV
 obtain⟨cz0,czf0,cz1,czf1,cz2,czf2⟩:=(M1.out.blk (i:=0) rfl).trif
 go_wp2
 clear cz0 czf0 cz1 czf1 cz2 czf2 lt1_0 lt1_1
 have M2:=Lib.hid (((M1.out).put3 (i:=0) rfl (.int .i64 0) (.slice none 0 0) (.slice none 0 0)))
 generalize hwz:World.setCell _ _ _=wz
 rw[hwz]at M2
 clear hwz M1
 obtain⟨y0,y1,y2⟩:=(M2.out.blk (i:=0) rfl).tri
 exact bodyPost_ret (v:= .agg #[.int .i64 0,.slice none 0 0,.slice none 0 0]) (by simp[results,Tryd.results36,go_sem, *]) rfl ⟨rfl,M2.out.ext⟩
set_option maxRecDepth 100000 in
set_option maxHeartbeats 8000000 in
theorem specDr_ok (P:Int)(q:Option Addr)(m c2:Nat)(q2:Option Addr)(m2 d2:Nat)(q3:Option Addr)(n3 c3:Nat)(T R bs:List Visit4)(w:World)(hl:Hid (T.length=m))(hl2:Hid (R.length=m2))(hl3:Hid (bs.length=n3))(hn3:n3≤1099511627776)(HB:Hid (Sl w q3 n3 c3 4 (bs.flatMap visitCells)))
  (HV:Hid (∀w',Ext w w'→Calls Tryd.prog 11 #[.agg #[.int .i64 P,.slice q m c2,.slice q2 m2 d2]] w' fun e w''=>e= .returned (.bool true)∧Ext w' w''))
  (HC:Hid (∀w',Ext w w'→Calls Tryd.prog 55 #[.agg #[.int .i64 P,.slice q m c2,.slice q2 m2 d2]] w' fun e w''=> ∃q5 c5 q6 c6,e= .returned (.agg #[.int .i64 P,.slice q5 m c5,.slice q6 m2 c6])∧Mem w' w'' [ownI w'.heap.size TBk 4 (q5) (m) (c5) (T.flatMap visitCells),ownI w'.heap.size TBk 4 (q6) (m2) (c6) (R.flatMap visitCells)])):
  Calls Tryd.prog 36 #[.agg #[.int .i64 P,.slice q m c2,.slice q2 m2 d2],.slice q3 n3 c3] w (RetRun (bs.foldl runStep ⟨P,T,R⟩) w):=by
 unfold RetRun
 go_enter Tryd.func36,Tryd.ntmps36
 go_wp2_with fail
 refine(HV.out _ (((((Mem.start w).blkNew TDk #[.int .i64 P,.slice q m c2,.slice q2 m2 d2] (w.heap.size) (by simp))).blkNew TDk #[.int .i64 0,.slice none 0 0,.slice none 0 0] (w.heap.size+1) (by simp))).ext).mono ?_
 rintro e w1 ⟨rfl,hx1⟩
 have M1:=Lib.hid ((((((Mem.start w).blkNew TDk #[.int .i64 P,.slice q m c2,.slice q2 m2 d2] (w.heap.size) (by simp))).blkNew TDk #[.int .i64 0,.slice none 0 0,.slice none 0 0] (w.heap.size+1) (by simp))).adv hx1)
 have lt1_0:w.heap.size+1<w1.heap.size:=(M1.out.lt (i:=0) rfl rfl).2
 have lt1_1:w.heap.size<w1.heap.size:=(M1.out.lt (i:=1) rfl rfl).2
 clear hx1
 clear HV
 obtain⟨ca0,ca1,ca2⟩:=(M1.out.blk (i:=1) rfl).tri
 go_wp2_with fail
 clear ca0 ca1 ca2
 refine(HC.out _ (M1.out).ext).mono ?_
 rintro e w2 ⟨q5,c5,q6,c6,rfl,hm2⟩
 have M2:=Lib.hid ((M1.out).call2 hm2)
 clear M1
 clear lt1_0 lt1_1
 have lt2_2:w.heap.size+1<w2.heap.size:=(M2.out.lt (i:=2) rfl rfl).2
 have lt2_3:w.heap.size<w2.heap.size:=(M2.out.lt (i:=3) rfl rfl).2
 clear hm2
 clear HC
 go_wp2
 have MS:=Lib.hid (show Mem w (w2.alloc (.cells #[.int .i64 P,.slice q5 m c5,.slice q6 m2 c6] TDk)) [ownI w.heap.size TBk 4 (q5) (m) (c5) ((runAt ⟨P,T,R⟩ bs 0).taken.flatMap visitCells),ownI w.heap.size TBk 4 (q6) (m2) (c6) ((runAt ⟨P,T,R⟩ bs 0).row.flatMap visitCells),blkI w.heap.size (w2.heap.size) TDk #[.int .i64 (runAt ⟨P,T,R⟩ bs 0).places,.slice q5 m c5,.slice q6 m2 c6],blkI w.heap.size (w.heap.size+1) TDk #[.int .i64 0,.slice none 0 0,.slice none 0 0],blkI w.heap.size (w.heap.size) TDk #[.int .i64 P,.slice q m c2,.slice q2 m2 d2]]from by
  rw[runAt_zero]
  exact(((M2.out).blkNew TDk #[.int .i64 P,.slice q5 m c5,.slice q6 m2 c6] (w2.heap.size) (by simp))).pick [1,2,0,3,4] (by decide) rfl)
 clear M2 lt2_2 lt2_3
 generalize w2.heap.size=a at MS
 go_loopw [6] (fun x wr=> ∃(k:Nat) (q7:Option Addr) (l7 c7:Nat) (q8:Option Addr) (l8 c8:Nat),k≤n3∧x= .int .i64 (k:Int)∧l7=(runAt ⟨P,T,R⟩ bs k).taken.length∧l8=(runAt ⟨P,T,R⟩ bs k).row.length∧Mem w wr [ownI w.heap.size TBk 4 (q7) (l7) (c7) ((runAt ⟨P,T,R⟩ bs k).taken.flatMap visitCells),ownI w.heap.size TBk 4 (q8) (l8) (c8) ((runAt ⟨P,T,R⟩ bs k).row.flatMap visitCells),blkI w.heap.size (a) TDk #[.int .i64 (runAt ⟨P,T,R⟩ bs k).places,.slice q7 l7 c7,.slice q8 l8 c8],blkI w.heap.size (w.heap.size+1) TDk #[.int .i64 0,.slice none 0 0,.slice none 0 0],blkI w.heap.size (w.heap.size) TDk #[.int .i64 P,.slice q m c2,.slice q2 m2 d2]]) (fun x _=>n3-(intOf x).toNat)
 case atStart=>exact⟨0,q5,m,c5,q6,m2,c6,Nat.zero_le _,rfl,by rw[runAt_zero];exact hl.out.symm,by rw[runAt_zero];exact hl2.out.symm,MS.out⟩
 case round=>
  clear MS
  obtain⟨k,q7,l7,c7,q8,l8,c8,hk,rfl,hl7,hl8,hM⟩:=hrel
  have HM:=Lib.hid hM
  have HL7:=Lib.hid hl7
  have HL8:=Lib.hid hl8
  clear hM hl7 hl8
  by_cases hlt:k<n3
  ·obtain⟨b,off,x0,x1,x2,x3,rfl,hv,hb,g0,g1,g2,g3⟩:=visit_at HB.out hlt
   have hst:=Lib.hid (runAt_succ (d:=⟨P,T,R⟩) hv)
   clear hv
   have i1:(0:Int)≤(k:Int):=by omega
   have i2:(k:Int)<(n3:Int):=by omega
   by_cases hx2:0<x2
   ·have lt20_2:a<wr.heap.size:=(HM.out.lt (i:=2) rfl rfl).2
    have lt20_3:w.heap.size+1<wr.heap.size:=(HM.out.lt (i:=3) rfl rfl).2
    have lt20_4:w.heap.size<wr.heap.size:=(HM.out.lt (i:=4) rfl rfl).2
    obtain⟨ca0,ca1,ca2⟩:=(HM.out.blk (i:=2) rfl).tri
    have e0:=(HM.out.ext.cells.1 _ _ hb).trans g0
    have e1:=(HM.out.ext.cells.1 _ _ hb).trans g1
    have e2:=(HM.out.ext.cells.1 _ _ hb).trans g2
    have e3:=(HM.out.ext.cells.1 _ _ hb).trans g3
    have hb2:=Nat.lt_of_lt_of_le hb HM.out.ext.sz
    have hd:decide (0<x2)=true:=by simp;omega
    have hs3:Hid ((runAt ⟨P,T,R⟩ bs (k+1))=(deskAsk ⟨(runAt ⟨P,T,R⟩ bs k).places,(runAt ⟨P,T,R⟩ bs k).taken,(runAt ⟨P,T,R⟩ bs k).row⟩ (x0,x1,x2,x3)).1):=by show _=_;rw[hst.out];unfold runStep;rw[if_pos hx2]
    clear hst hx2
    have HA:=Lib.hid (fun w' (h1:Sl w' q7 l7 c7 4 ((runAt ⟨P,T,R⟩ bs k).taken.flatMap visitCells)) (h2:Sl w' q8 l8 c8 4 ((runAt ⟨P,T,R⟩ bs k).row.flatMap visitCells))=>specAsk (runAt ⟨P,T,R⟩ bs k).places q7 l7 c7 q8 l8 c8 x0 x1 x2 x3 (runAt ⟨P,T,R⟩ bs k).taken (runAt ⟨P,T,R⟩ bs k).row w' h1 h2)
    have nz1: ¬wr.heap.size=a:=by omega
    have nz2: ¬a=wr.heap.size:=by omega
    have nz3: ¬wr.heap.size=b:=by omega
    have nz4: ¬b=wr.heap.size:=by omega
    have HMB:=Lib.hid (HM.out.blkNew TDk #[.int .i64 0,.slice none 0 0,.slice none 0 0] (wr.heap.size) rfl)
    go_wp2
    go_region_held3 (fun w'=>w'.cell? ⟨a,0,none⟩=some (.int .i64 (runAt ⟨P,T,R⟩ bs k).places)∧w'.cell? ⟨a,1,none⟩=some (.slice q7 l7 c7)∧w'.cell? ⟨a,2,none⟩=some (.slice q8 l8 c8)∧w'.cell? ⟨b,off+k*4,none⟩=some (.int .i64 x0)∧w'.cell? ⟨b,off+k*4+1,none⟩=some (.int .i64 x1)∧w'.cell? ⟨b,off+k*4+2,none⟩=some (.int .i64 x2)∧w'.cell? ⟨b,off+k*4+3,none⟩=some (.int .i64 x3)) (first|(refine⟨?_,?_,?_,?_,?_,?_,?_⟩<;>assumption)|go_keep) (first
     |(go_simp;go_at_call 16
       (with_reducible refine(HA.out _ ((HM.out.sl (i:=0) rfl).ext (by(repeat' (first|exact Ext.refl _|(with_reducible assumption)|(with_reducible refine Ext.alloc ?_ _)|(with_reducible refine Ext.setCell ?_ (by first|exact Nat.le_refl _|(dsimp only;omega)|(simp;done)|(simp;omega)) _)|(with_reducible refine Ext.drew ?_)|(with_reducible refine Ext.drewN ?_ _)|(refine Ext.trans ?_ (by with_reducible assumption)))))) ((HM.out.sl (i:=1) rfl).ext (by(repeat' (first|exact Ext.refl _|(with_reducible assumption)|(with_reducible refine Ext.alloc ?_ _)|(with_reducible refine Ext.setCell ?_ (by first|exact Nat.le_refl _|(dsimp only;omega)|(simp;done)|(simp;omega)) _)|(with_reducible refine Ext.drew ?_)|(with_reducible refine Ext.drewN ?_ _)|(refine Ext.trans ?_ (by with_reducible assumption))))))).mono ?_)
       rintro e w21 ⟨qa,na,ka,qb,nb,kb,rfl,hna,hnb,hm21⟩
       have HNA:=Lib.hid hna
       have HNB:=Lib.hid hnb
       clear hna hnb
       (first
        |(have M21:=Lib.hid (HMB.out.call2 hm21)
          have lt60_2:wr.heap.size<w21.heap.size:=(M21.out.lt (i:=2) rfl rfl).2
          have lt60_5:a<w21.heap.size:=(M21.out.lt (i:=5) rfl rfl).2
          have lt60_6:w.heap.size+1<w21.heap.size:=(M21.out.lt (i:=6) rfl rfl).2
          have lt60_7:w.heap.size<w21.heap.size:=(M21.out.lt (i:=7) rfl rfl).2
          obtain⟨cn0,cnf0,cn1,cnf1,cn2,cnf2⟩:=(M21.out.blk (i:=2) rfl).trif
          obtain⟨cb0,cb1,cb2⟩:=(M21.out.blk (i:=5) rfl).tri
          have f0:=(M21.out.ext.cells.1 _ _ hb).trans g0
          have f1:=(M21.out.ext.cells.1 _ _ hb).trans g1
          have f2:=(M21.out.ext.cells.1 _ _ hb).trans g2
          have f3:=(M21.out.ext.cells.1 _ _ hb).trans g3
          have hb3:=Nat.lt_of_lt_of_le hb M21.out.ext.sz)
        |(have M21:=Lib.hid ((HMB.out.adv (Ext.drew (Ext.refl _))).call2 hm21)
          have lt60_2:wr.heap.size<w21.heap.size:=(M21.out.lt (i:=2) rfl rfl).2
          have lt60_5:a<w21.heap.size:=(M21.out.lt (i:=5) rfl rfl).2
          have lt60_6:w.heap.size+1<w21.heap.size:=(M21.out.lt (i:=6) rfl rfl).2
          have lt60_7:w.heap.size<w21.heap.size:=(M21.out.lt (i:=7) rfl rfl).2
          obtain⟨cn0,cnf0,cn1,cnf1,cn2,cnf2⟩:=(M21.out.blk (i:=2) rfl).trif
          obtain⟨cb0,cb1,cb2⟩:=(M21.out.blk (i:=5) rfl).tri
          have f0:=(M21.out.ext.cells.1 _ _ hb).trans g0
          have f1:=(M21.out.ext.cells.1 _ _ hb).trans g1
          have f2:=(M21.out.ext.cells.1 _ _ hb).trans g2
          have f3:=(M21.out.ext.cells.1 _ _ hb).trans g3
          have hb3:=Nat.lt_of_lt_of_le hb M21.out.ext.sz)
        |(have M22:=Lib.hid (HM.out.call2 hm21)
          have lt60_4:a<w21.heap.size:=(M22.out.lt (i:=4) rfl rfl).2
          have lt60_5:w.heap.size+1<w21.heap.size:=(M22.out.lt (i:=5) rfl rfl).2
          have lt60_6:w.heap.size<w21.heap.size:=(M22.out.lt (i:=6) rfl rfl).2
          obtain⟨cb0,cb1,cb2⟩:=(M22.out.blk (i:=4) rfl).tri
          have f0:=(M22.out.ext.cells.1 _ _ hb).trans g0
          have f1:=(M22.out.ext.cells.1 _ _ hb).trans g1
          have f2:=(M22.out.ext.cells.1 _ _ hb).trans g2
          have f3:=(M22.out.ext.cells.1 _ _ hb).trans g3
          have hb3:=Nat.lt_of_lt_of_le hb M22.out.ext.sz)
        |(have M22:=Lib.hid ((HM.out.adv (Ext.drew (Ext.refl _))).call2 hm21)
          have lt60_4:a<w21.heap.size:=(M22.out.lt (i:=4) rfl rfl).2
          have lt60_5:w.heap.size+1<w21.heap.size:=(M22.out.lt (i:=5) rfl rfl).2
          have lt60_6:w.heap.size<w21.heap.size:=(M22.out.lt (i:=6) rfl rfl).2
          obtain⟨cb0,cb1,cb2⟩:=(M22.out.blk (i:=4) rfl).tri
          have f0:=(M22.out.ext.cells.1 _ _ hb).trans g0
          have f1:=(M22.out.ext.cells.1 _ _ hb).trans g1
          have f2:=(M22.out.ext.cells.1 _ _ hb).trans g2
          have f3:=(M22.out.ext.cells.1 _ _ hb).trans g3
          have hb3:=Nat.lt_of_lt_of_le hb M22.out.ext.sz))))
    ·clear HM HMB HA ca0 ca1 ca2 e0 e1 e2 e3 cb0 cb1 cb2 f0 f1 f2 f3 hd
     obtain⟨cy0,cyf0,cy1,cyf1,cy2,cyf2⟩:=(M22.out.blk (i:=4) rfl).trif
     go_wp2
     clear cy0 cyf0 cy1 cyf1 cy2 cyf2
     have M71:=Lib.hid (((((M22.out).put3 (i:=4) rfl (.int .i64 (deskAsk ⟨(runAt ⟨P,T,R⟩ bs k).places,(runAt ⟨P,T,R⟩ bs k).taken,(runAt ⟨P,T,R⟩ bs k).row⟩ (x0,x1,x2,x3)).1.places) (.slice qa na ka) (.slice qb nb kb))).adv ((Ext.refl _).alloc (.cells #[.int .i64 (deskAsk ⟨(runAt ⟨P,T,R⟩ bs k).places,(runAt ⟨P,T,R⟩ bs k).taken,(runAt ⟨P,T,R⟩ bs k).row⟩ (x0,x1,x2,x3)).1.places,.slice qa na ka,.slice qb nb kb] TDk))))
     generalize hwz:World.alloc _ _=wv
     rw[hwz]at M71
     clear hwz M22
     have MZ:=Lib.hid (show Mem w wv [ownI w.heap.size TBk 4 (qa) (na) (ka) ((runAt ⟨P,T,R⟩ bs (k+1)).taken.flatMap visitCells),ownI w.heap.size TBk 4 (qb) (nb) (kb) ((runAt ⟨P,T,R⟩ bs (k+1)).row.flatMap visitCells),blkI w.heap.size (a) TDk #[.int .i64 (runAt ⟨P,T,R⟩ bs (k+1)).places,.slice qa na ka,.slice qb nb kb],blkI w.heap.size (w.heap.size+1) TDk #[.int .i64 0,.slice none 0 0,.slice none 0 0],blkI w.heap.size (w.heap.size) TDk #[.int .i64 P,.slice q m c2,.slice q2 m2 d2]]from by rw[hs3.out];exact M71.out.pick [0,1,4,5,6] (by decide) rfl)
     go_roundw
     case rel=>exact⟨k+1,qa,na,ka,qb,nb,kb,by omega,by go_num,by rw[hs3.out];exact HNA.out,by rw[hs3.out];exact HNB.out,MZ.out⟩
     case measure=>simp[intOf];omega
    ·clear HM HMB HA ca0 ca1 ca2 e0 e1 e2 e3 cb0 cb1 cb2 f0 f1 f2 f3 hd
     have M71:=Lib.hid (((M21.out).put3 (i:=2) rfl (.int .i64 (deskAsk ⟨(runAt ⟨P,T,R⟩ bs k).places,(runAt ⟨P,T,R⟩ bs k).taken,(runAt ⟨P,T,R⟩ bs k).row⟩ (x0,x1,x2,x3)).1.places) (.slice qa na ka) (.slice qb nb kb)))
     generalize hwz:World.setCell _ _ _=wy
     rw[hwz]at M71
     clear hwz M21
     have lt71_2:wr.heap.size<wy.heap.size:=(M71.out.lt (i:=2) rfl rfl).2
     have lt71_5:a<wy.heap.size:=(M71.out.lt (i:=5) rfl rfl).2
     have lt71_6:w.heap.size+1<wy.heap.size:=(M71.out.lt (i:=6) rfl rfl).2
     have lt71_7:w.heap.size<wy.heap.size:=(M71.out.lt (i:=7) rfl rfl).2
     obtain⟨cx0,cx1,cx2⟩:=(M71.out.blk (i:=2) rfl).tri
     obtain⟨cy0,cyf0,cy1,cyf1,cy2,cyf2⟩:=(M71.out.blk (i:=5) rfl).trif
     go_wp2
     clear cx0 cx1 cx2 cy0 cyf0 cy1 cyf1 cy2 cyf2 lt71_2 lt71_5 lt71_6 lt71_7
     have M72:=Lib.hid (((M71.out).put3 (i:=5) rfl (.int .i64 (deskAsk ⟨(runAt ⟨P,T,R⟩ bs k).places,(runAt ⟨P,T,R⟩ bs k).taken,(runAt ⟨P,T,R⟩ bs k).row⟩ (x0,x1,x2,x3)).1.places) (.slice qa na ka) (.slice qb nb kb)))
     generalize hwz:World.setCell _ _ _=wv
     rw[hwz]at M72
     clear hwz M71
     have MZ:=Lib.hid (show Mem w wv [ownI w.heap.size TBk 4 (qa) (na) (ka) ((runAt ⟨P,T,R⟩ bs (k+1)).taken.flatMap visitCells),ownI w.heap.size TBk 4 (qb) (nb) (kb) ((runAt ⟨P,T,R⟩ bs (k+1)).row.flatMap visitCells),blkI w.heap.size (a) TDk #[.int .i64 (runAt ⟨P,T,R⟩ bs (k+1)).places,.slice qa na ka,.slice qb nb kb],blkI w.heap.size (w.heap.size+1) TDk #[.int .i64 0,.slice none 0 0,.slice none 0 0],blkI w.heap.size (w.heap.size) TDk #[.int .i64 P,.slice q m c2,.slice q2 m2 d2]]from by rw[hs3.out];exact M72.out.pick [0,1,5,6,7] (by decide) rfl)
     go_roundw
     case rel=>exact⟨k+1,qa,na,ka,qb,nb,kb,by omega,by go_num,by rw[hs3.out];exact HNA.out,by rw[hs3.out];exact HNB.out,MZ.out⟩
     case measure=>simp[intOf];omega
   ·have lt20_2:a<wr.heap.size:=(HM.out.lt (i:=2) rfl rfl).2
    have lt20_3:w.heap.size+1<wr.heap.size:=(HM.out.lt (i:=3) rfl rfl).2
    have lt20_4:w.heap.size<wr.heap.size:=(HM.out.lt (i:=4) rfl rfl).2
    obtain⟨ca0,ca1,ca2⟩:=(HM.out.blk (i:=2) rfl).tri
    have e0:=(HM.out.ext.cells.1 _ _ hb).trans g0
    have e1:=(HM.out.ext.cells.1 _ _ hb).trans g1
    have e2:=(HM.out.ext.cells.1 _ _ hb).trans g2
    have e3:=(HM.out.ext.cells.1 _ _ hb).trans g3
    have hb2:=Nat.lt_of_lt_of_le hb HM.out.ext.sz
    have hd:decide (0<x2)=false:=by simp;omega
    have hs3:Hid ((runAt ⟨P,T,R⟩ bs (k+1))=(deskFree ⟨(runAt ⟨P,T,R⟩ bs k).places,(runAt ⟨P,T,R⟩ bs k).taken,(runAt ⟨P,T,R⟩ bs k).row⟩ x0).1):=by show _=_;rw[hst.out];unfold runStep;rw[if_neg hx2]
    clear hst hx2
    have HA:=Lib.hid (fun w' (h1:Sl w' q7 l7 c7 4 ((runAt ⟨P,T,R⟩ bs k).taken.flatMap visitCells)) (h2:Sl w' q8 l8 c8 4 ((runAt ⟨P,T,R⟩ bs k).row.flatMap visitCells))=>specFree (runAt ⟨P,T,R⟩ bs k).places q7 l7 c7 q8 l8 c8 x0 (runAt ⟨P,T,R⟩ bs k).taken (runAt ⟨P,T,R⟩ bs k).row w' h1 h2)
    have nz1: ¬wr.heap.size=a:=by omega
    have nz2: ¬a=wr.heap.size:=by omega
    have nz3: ¬wr.heap.size=b:=by omega
    have nz4: ¬b=wr.heap.size:=by omega
    have HMB:=Lib.hid (HM.out.blkNew TDk #[.int .i64 0,.slice none 0 0,.slice none 0 0] (wr.heap.size) rfl)
    go_wp2
    go_region_held3 (fun w'=>w'.cell? ⟨a,0,none⟩=some (.int .i64 (runAt ⟨P,T,R⟩ bs k).places)∧w'.cell? ⟨a,1,none⟩=some (.slice q7 l7 c7)∧w'.cell? ⟨a,2,none⟩=some (.slice q8 l8 c8)∧w'.cell? ⟨b,off+k*4,none⟩=some (.int .i64 x0)∧w'.cell? ⟨b,off+k*4+1,none⟩=some (.int .i64 x1)∧w'.cell? ⟨b,off+k*4+2,none⟩=some (.int .i64 x2)∧w'.cell? ⟨b,off+k*4+3,none⟩=some (.int .i64 x3)) (first|(refine⟨?_,?_,?_,?_,?_,?_,?_⟩<;>assumption)|go_keep) (first
     |(go_simp;go_at_call 21
       (with_reducible refine(HA.out _ ((HM.out.sl (i:=0) rfl).ext (by(repeat' (first|exact Ext.refl _|(with_reducible assumption)|(with_reducible refine Ext.alloc ?_ _)|(with_reducible refine Ext.setCell ?_ (by first|exact Nat.le_refl _|(dsimp only;omega)|(simp;done)|(simp;omega)) _)|(with_reducible refine Ext.drew ?_)|(with_reducible refine Ext.drewN ?_ _)|(refine Ext.trans ?_ (by with_reducible assumption)))))) ((HM.out.sl (i:=1) rfl).ext (by(repeat' (first|exact Ext.refl _|(with_reducible assumption)|(with_reducible refine Ext.alloc ?_ _)|(with_reducible refine Ext.setCell ?_ (by first|exact Nat.le_refl _|(dsimp only;omega)|(simp;done)|(simp;omega)) _)|(with_reducible refine Ext.drew ?_)|(with_reducible refine Ext.drewN ?_ _)|(refine Ext.trans ?_ (by with_reducible assumption))))))).mono ?_)
       rintro e w21 ⟨qa,na,ka,qb,nb,kb,qc,nc,kc,rfl,hna,hnb,hnc,hm21⟩
       have HNA:=Lib.hid hna
       have HNB:=Lib.hid hnb
       clear hna hnb
       (first
        |(have M21:=Lib.hid (HMB.out.call3 hm21)
          have lt60_3:wr.heap.size<w21.heap.size:=(M21.out.lt (i:=3) rfl rfl).2
          have lt60_6:a<w21.heap.size:=(M21.out.lt (i:=6) rfl rfl).2
          have lt60_7:w.heap.size+1<w21.heap.size:=(M21.out.lt (i:=7) rfl rfl).2
          have lt60_8:w.heap.size<w21.heap.size:=(M21.out.lt (i:=8) rfl rfl).2
          obtain⟨cn0,cnf0,cn1,cnf1,cn2,cnf2⟩:=(M21.out.blk (i:=3) rfl).trif
          obtain⟨cb0,cb1,cb2⟩:=(M21.out.blk (i:=6) rfl).tri
          have f0:=(M21.out.ext.cells.1 _ _ hb).trans g0
          have f1:=(M21.out.ext.cells.1 _ _ hb).trans g1
          have f2:=(M21.out.ext.cells.1 _ _ hb).trans g2
          have f3:=(M21.out.ext.cells.1 _ _ hb).trans g3
          have hb3:=Nat.lt_of_lt_of_le hb M21.out.ext.sz)
        |(have M21:=Lib.hid ((HMB.out.adv (Ext.drew (Ext.refl _))).call3 hm21)
          have lt60_3:wr.heap.size<w21.heap.size:=(M21.out.lt (i:=3) rfl rfl).2
          have lt60_6:a<w21.heap.size:=(M21.out.lt (i:=6) rfl rfl).2
          have lt60_7:w.heap.size+1<w21.heap.size:=(M21.out.lt (i:=7) rfl rfl).2
          have lt60_8:w.heap.size<w21.heap.size:=(M21.out.lt (i:=8) rfl rfl).2
          obtain⟨cn0,cnf0,cn1,cnf1,cn2,cnf2⟩:=(M21.out.blk (i:=3) rfl).trif
          obtain⟨cb0,cb1,cb2⟩:=(M21.out.blk (i:=6) rfl).tri
          have f0:=(M21.out.ext.cells.1 _ _ hb).trans g0
          have f1:=(M21.out.ext.cells.1 _ _ hb).trans g1
          have f2:=(M21.out.ext.cells.1 _ _ hb).trans g2
          have f3:=(M21.out.ext.cells.1 _ _ hb).trans g3
          have hb3:=Nat.lt_of_lt_of_le hb M21.out.ext.sz)
        |(have M22:=Lib.hid (HM.out.call3 hm21)
          have lt60_5:a<w21.heap.size:=(M22.out.lt (i:=5) rfl rfl).2
          have lt60_6:w.heap.size+1<w21.heap.size:=(M22.out.lt (i:=6) rfl rfl).2
          have lt60_7:w.heap.size<w21.heap.size:=(M22.out.lt (i:=7) rfl rfl).2
          obtain⟨cb0,cb1,cb2⟩:=(M22.out.blk (i:=5) rfl).tri
          have f0:=(M22.out.ext.cells.1 _ _ hb).trans g0
          have f1:=(M22.out.ext.cells.1 _ _ hb).trans g1
          have f2:=(M22.out.ext.cells.1 _ _ hb).trans g2
          have f3:=(M22.out.ext.cells.1 _ _ hb).trans g3
          have hb3:=Nat.lt_of_lt_of_le hb M22.out.ext.sz)
        |(have M22:=Lib.hid ((HM.out.adv (Ext.drew (Ext.refl _))).call3 hm21)
          have lt60_5:a<w21.heap.size:=(M22.out.lt (i:=5) rfl rfl).2
          have lt60_6:w.heap.size+1<w21.heap.size:=(M22.out.lt (i:=6) rfl rfl).2
          have lt60_7:w.heap.size<w21.heap.size:=(M22.out.lt (i:=7) rfl rfl).2
          obtain⟨cb0,cb1,cb2⟩:=(M22.out.blk (i:=5) rfl).tri
          have f0:=(M22.out.ext.cells.1 _ _ hb).trans g0
          have f1:=(M22.out.ext.cells.1 _ _ hb).trans g1
          have f2:=(M22.out.ext.cells.1 _ _ hb).trans g2
          have f3:=(M22.out.ext.cells.1 _ _ hb).trans g3
          have hb3:=Nat.lt_of_lt_of_le hb M22.out.ext.sz))))
    ·clear HM HMB HA ca0 ca1 ca2 e0 e1 e2 e3 cb0 cb1 cb2 f0 f1 f2 f3 hd
     obtain⟨cy0,cyf0,cy1,cyf1,cy2,cyf2⟩:=(M22.out.blk (i:=5) rfl).trif
     go_wp2
     clear cy0 cyf0 cy1 cyf1 cy2 cyf2
     have M71:=Lib.hid (((((M22.out).put3 (i:=5) rfl (.int .i64 (deskFree ⟨(runAt ⟨P,T,R⟩ bs k).places,(runAt ⟨P,T,R⟩ bs k).taken,(runAt ⟨P,T,R⟩ bs k).row⟩ x0).1.places) (.slice qa na ka) (.slice qb nb kb))).adv ((Ext.refl _).alloc (.cells #[.int .i64 (deskFree ⟨(runAt ⟨P,T,R⟩ bs k).places,(runAt ⟨P,T,R⟩ bs k).taken,(runAt ⟨P,T,R⟩ bs k).row⟩ x0).1.places,.slice qa na ka,.slice qb nb kb] TDk))))
     generalize hwz:World.alloc _ _=wv
     rw[hwz]at M71
     clear hwz M22
     have MZ:=Lib.hid (show Mem w wv [ownI w.heap.size TBk 4 (qa) (na) (ka) ((runAt ⟨P,T,R⟩ bs (k+1)).taken.flatMap visitCells),ownI w.heap.size TBk 4 (qb) (nb) (kb) ((runAt ⟨P,T,R⟩ bs (k+1)).row.flatMap visitCells),blkI w.heap.size (a) TDk #[.int .i64 (runAt ⟨P,T,R⟩ bs (k+1)).places,.slice qa na ka,.slice qb nb kb],blkI w.heap.size (w.heap.size+1) TDk #[.int .i64 0,.slice none 0 0,.slice none 0 0],blkI w.heap.size (w.heap.size) TDk #[.int .i64 P,.slice q m c2,.slice q2 m2 d2]]from by rw[hs3.out];exact M71.out.pick [0,1,5,6,7] (by decide) rfl)
     go_roundw
     case rel=>exact⟨k+1,qa,na,ka,qb,nb,kb,by omega,by go_num,by rw[hs3.out];exact HNA.out,by rw[hs3.out];exact HNB.out,MZ.out⟩
     case measure=>simp[intOf];omega
    ·clear HM HMB HA ca0 ca1 ca2 e0 e1 e2 e3 cb0 cb1 cb2 f0 f1 f2 f3 hd
     have M71:=Lib.hid (((M21.out).put3 (i:=3) rfl (.int .i64 (deskFree ⟨(runAt ⟨P,T,R⟩ bs k).places,(runAt ⟨P,T,R⟩ bs k).taken,(runAt ⟨P,T,R⟩ bs k).row⟩ x0).1.places) (.slice qa na ka) (.slice qb nb kb)))
     generalize hwz:World.setCell _ _ _=wy
     rw[hwz]at M71
     clear hwz M21
     have lt71_3:wr.heap.size<wy.heap.size:=(M71.out.lt (i:=3) rfl rfl).2
     have lt71_6:a<wy.heap.size:=(M71.out.lt (i:=6) rfl rfl).2
     have lt71_7:w.heap.size+1<wy.heap.size:=(M71.out.lt (i:=7) rfl rfl).2
     have lt71_8:w.heap.size<wy.heap.size:=(M71.out.lt (i:=8) rfl rfl).2
     obtain⟨cx0,cx1,cx2⟩:=(M71.out.blk (i:=3) rfl).tri
     obtain⟨cy0,cyf0,cy1,cyf1,cy2,cyf2⟩:=(M71.out.blk (i:=6) rfl).trif
     go_wp2
     clear cx0 cx1 cx2 cy0 cyf0 cy1 cyf1 cy2 cyf2 lt71_3 lt71_6 lt71_7 lt71_8
     have M72:=Lib.hid (((M71.out).put3 (i:=6) rfl (.int .i64 (deskFree ⟨(runAt ⟨P,T,R⟩ bs k).places,(runAt ⟨P,T,R⟩ bs k).taken,(runAt ⟨P,T,R⟩ bs k).row⟩ x0).1.places) (.slice qa na ka) (.slice qb nb kb)))
     generalize hwz:World.setCell _ _ _=wv
     rw[hwz]at M72
     clear hwz M71
     have MZ:=Lib.hid (show Mem w wv [ownI w.heap.size TBk 4 (qa) (na) (ka) ((runAt ⟨P,T,R⟩ bs (k+1)).taken.flatMap visitCells),ownI w.heap.size TBk 4 (qb) (nb) (kb) ((runAt ⟨P,T,R⟩ bs (k+1)).row.flatMap visitCells),blkI w.heap.size (a) TDk #[.int .i64 (runAt ⟨P,T,R⟩ bs (k+1)).places,.slice qa na ka,.slice qb nb kb],blkI w.heap.size (w.heap.size+1) TDk #[.int .i64 0,.slice none 0 0,.slice none 0 0],blkI w.heap.size (w.heap.size) TDk #[.int .i64 P,.slice q m c2,.slice q2 m2 d2]]from by rw[hs3.out];exact M72.out.pick [0,1,6,7,8] (by decide) rfl)
     go_roundw
     case rel=>exact⟨k+1,qa,na,ka,qb,nb,kb,by omega,by go_num,by rw[hs3.out];exact HNA.out,by rw[hs3.out];exact HNB.out,MZ.out⟩
     case measure=>simp[intOf];omega
  ·obtain rfl:k=n3:=by omega
   have lt20_2:a<wr.heap.size:=(HM.out.lt (i:=2) rfl rfl).2
   have lt20_3:w.heap.size+1<wr.heap.size:=(HM.out.lt (i:=3) rfl rfl).2
   have lt20_4:w.heap.size<wr.heap.size:=(HM.out.lt (i:=4) rfl rfl).2
   obtain⟨ca0,ca1,ca2⟩:=(HM.out.blk (i:=2) rfl).tri
   obtain⟨cz0,czf0,cz1,czf1,cz2,czf2⟩:=(HM.out.blk (i:=3) rfl).trif
   have ne0_1a: ¬(a=w.heap.size+1):=HM.out.ne (i:=2) (j:=3) (by omega) rfl rfl rfl rfl
   have ne0_1b: ¬(w.heap.size+1=a):=fun h=>ne0_1a h.symm
   have hfin:=Lib.hid (runAt_end ⟨P,T,R⟩ bs (k:=k) (by rw[hl3.out];exact Nat.le_refl _))
   go_wp2
   clear ca0 ca1 ca2 cz0 czf0 cz1 czf1 cz2 czf2 ne0_1a ne0_1b lt20_2 lt20_3 lt20_4
   have M21:=Lib.hid (((HM.out).put3 (i:=3) rfl (.int .i64 (runAt ⟨P,T,R⟩ bs k).places) (.slice q7 l7 c7) (.slice q8 l8 c8)))
   generalize hwz:World.setCell _ _ _=wz
   rw[hwz]at M21
   clear hwz HM
   obtain⟨y0,y1,y2⟩:=(M21.out.blk (i:=3) rfl).tri
   exact bodyPost_ret (v:= .agg #[.int .i64 (runAt ⟨P,T,R⟩ bs k).places,.slice q7 l7 c7,.slice q8 l8 c8]) (by simp[results,Tryd.results36,go_sem, *]) rfl (by rw[←hfin.out];exact⟨q7,l7,c7,q8,l8,c8,rfl,HL7.out,HL8.out,M21.out.pick [0,1] (by decide) rfl⟩)
end Go.Proofs.YtndcnflchkfaeaaDoor

namespace Go.Proofs.YtndcnflchkfaeaaDoor
open Go.RowKit
set_option linter.unusedVariables false
set_option linter.unusedSimpArgs false
theorem implRun (P:Int)(q:Option Addr)(m c2:Nat)(q2:Option Addr)(m2 d2:Nat)(q3:Option Addr)(n3 c3:Nat)(T R bs:List Visit4)(w:World)(hn3:n3≤1099511627776)(hS:Sl w q m c2 4 (T.flatMap visitCells))(hS2:Sl w q2 m2 d2 4 (R.flatMap visitCells))(hB:Sl w q3 n3 c3 4 (bs.flatMap visitCells)):
  Calls Tryd.prog 35 #[.agg #[.int .i64 P,.slice q m c2,.slice q2 m2 d2],.slice q3 n3 c3] w (RetRun (deskRun ⟨P,T,R⟩ bs) w):=by
 have hl:T.length=m:=by
  have:=hS.len;rw[flat_len visitCells 4 (fun _=>rfl)]at this;omega
 have hl2:R.length=m2:=by
  have:=hS2.len;rw[flat_len visitCells 4 (fun _=>rfl)]at this;omega
 have hl3:bs.length=n3:=by
  have:=hB.len;rw[flat_len visitCells 4 (fun _=>rfl)]at this;omega
 cases hv:deskValid ⟨P,T,R⟩with
 |false=>
  have hf:deskRun ⟨P,T,R⟩ bs=⟨0,[],[]⟩:=by unfold deskRun;rw[if_neg (by rw[hv];decide)]
  rw[hf]
  refine(implDr_bad P q m c2 q2 m2 d2 q3 n3 c3 T R bs w (Lib.hid (fun w' hx=>by have h:=implDv P q m c2 q2 m2 d2 T R w' (hS.ext hx) (hS2.ext hx);rw[hv]at h;exact h))).mono ?_
  rintro e w' ⟨rfl,hx⟩
  exact⟨none,0,0,none,0,0,rfl,rfl,rfl,(((Mem.start w).adv hx).call (Ext.refl _) (World.ownsRow_nil _ _ TBk 4)).call (Ext.refl _) (World.ownsRow_nil _ _ TBk 4)⟩
 |true=>
  have hlen:=desk_len hv
  have hlT:T.length≤7:=hlen.1
  have hlR:R.length≤5:=hlen.2
  have HV:Hid (∀w',Ext w w'→Calls Tryd.prog 10 #[.agg #[.int .i64 P,.slice q m c2,.slice q2 m2 d2]] w' fun e w''=>e= .returned (.bool true)∧Ext w' w''):=Lib.hid (fun w' hx=>by have h:=implDv P q m c2 q2 m2 d2 T R w' (hS.ext hx) (hS2.ext hx);rw[hv]at h;exact h)
  have HC:Hid (∀w',Ext w w'→Calls Tryd.prog 53 #[.agg #[.int .i64 P,.slice q m c2,.slice q2 m2 d2]] w' fun e w''=> ∃q5 c5 q6 c6,e= .returned (.agg #[.int .i64 P,.slice q5 m c5,.slice q6 m2 c6])∧Mem w' w'' [ownI w'.heap.size TBk 4 (q5) (m) (c5) (T.flatMap visitCells),ownI w'.heap.size TBk 4 (q6) (m2) (c6) (R.flatMap visitCells)]):=Lib.hid (fun w' hx=>copyDesk_o P q m c2 q2 m2 d2 T R w' (Lib.hid (fun w2 hy=>clone_any q m c2 _ w2 (by omega) (hS.ext (hx.trans hy)) (books_one _))) (Lib.hid (fun w2 hy=>clone_any q2 m2 d2 _ w2 (by omega) (hS2.ext (hx.trans hy)) (books_one _))))
  have hf:deskRun ⟨P,T,R⟩ bs=bs.foldl runStep ⟨P,T,R⟩:=by unfold deskRun;rw[if_pos hv]
  rw[hf]
  exact implDr_ok P q m c2 q2 m2 d2 q3 n3 c3 T R bs w (Lib.hid hl) (Lib.hid hl2) (Lib.hid hl3) hn3 (Lib.hid hB) HV HC
theorem specRun (P:Int)(q:Option Addr)(m c2:Nat)(q2:Option Addr)(m2 d2:Nat)(q3:Option Addr)(n3 c3:Nat)(T R bs:List Visit4)(w:World)(hn3:n3≤1099511627776)(hS:Sl w q m c2 4 (T.flatMap visitCells))(hS2:Sl w q2 m2 d2 4 (R.flatMap visitCells))(hB:Sl w q3 n3 c3 4 (bs.flatMap visitCells)):
  Calls Tryd.prog 36 #[.agg #[.int .i64 P,.slice q m c2,.slice q2 m2 d2],.slice q3 n3 c3] w (RetRun (deskRun ⟨P,T,R⟩ bs) w):=by
 have hl:T.length=m:=by
  have:=hS.len;rw[flat_len visitCells 4 (fun _=>rfl)]at this;omega
 have hl2:R.length=m2:=by
  have:=hS2.len;rw[flat_len visitCells 4 (fun _=>rfl)]at this;omega
 have hl3:bs.length=n3:=by
  have:=hB.len;rw[flat_len visitCells 4 (fun _=>rfl)]at this;omega
 cases hv:deskValid ⟨P,T,R⟩with
 |false=>
  have hf:deskRun ⟨P,T,R⟩ bs=⟨0,[],[]⟩:=by unfold deskRun;rw[if_neg (by rw[hv];decide)]
  rw[hf]
  refine(specDr_bad P q m c2 q2 m2 d2 q3 n3 c3 T R bs w (Lib.hid (fun w' hx=>by have h:=specDv P q m c2 q2 m2 d2 T R w' (hS.ext hx) (hS2.ext hx);rw[hv]at h;exact h))).mono ?_
  rintro e w' ⟨rfl,hx⟩
  exact⟨none,0,0,none,0,0,rfl,rfl,rfl,(((Mem.start w).adv hx).call (Ext.refl _) (World.ownsRow_nil _ _ TBk 4)).call (Ext.refl _) (World.ownsRow_nil _ _ TBk 4)⟩
 |true=>
  have hlen:=desk_len hv
  have hlT:T.length≤7:=hlen.1
  have hlR:R.length≤5:=hlen.2
  have HV:Hid (∀w',Ext w w'→Calls Tryd.prog 11 #[.agg #[.int .i64 P,.slice q m c2,.slice q2 m2 d2]] w' fun e w''=>e= .returned (.bool true)∧Ext w' w''):=Lib.hid (fun w' hx=>by have h:=specDv P q m c2 q2 m2 d2 T R w' (hS.ext hx) (hS2.ext hx);rw[hv]at h;exact h)
  have HC:Hid (∀w',Ext w w'→Calls Tryd.prog 55 #[.agg #[.int .i64 P,.slice q m c2,.slice q2 m2 d2]] w' fun e w''=> ∃q5 c5 q6 c6,e= .returned (.agg #[.int .i64 P,.slice q5 m c5,.slice q6 m2 c6])∧Mem w' w'' [ownI w'.heap.size TBk 4 (q5) (m) (c5) (T.flatMap visitCells),ownI w'.heap.size TBk 4 (q6) (m2) (c6) (R.flatMap visitCells)]):=Lib.hid (fun w' hx=>l6Copy_o P q m c2 q2 m2 d2 T R w' (by omega) (by omega) (Lib.hid (hS.ext hx)) (Lib.hid (hS2.ext hx)))
  have hf:deskRun ⟨P,T,R⟩ bs=bs.foldl runStep ⟨P,T,R⟩:=by unfold deskRun;rw[if_pos hv]
  rw[hf]
  exact specDr_ok P q m c2 q2 m2 d2 q3 n3 c3 T R bs w (Lib.hid hl) (Lib.hid hl2) (Lib.hid hl3) hn3 (Lib.hid hB) HV HC
end Go.Proofs.YtndcnflchkfaeaaDoor

namespace Go.Proofs.YtndcnflchkfaeaaDoor
open Go.RowKit
set_option linter.unusedVariables false
set_option linter.unusedSimpArgs false
theorem hasId_iff {id:Int}{bs:List Visit4}:hasId id bs=true↔ ∃c∈bs,c.1=id:=by
 unfold hasId noBook
 simp
theorem hasId_no {id:Int}{bs:List Visit4}:hasId id bs=false↔ ∀c∈bs,c.1≠id:=by
 unfold hasId noBook
 simp
theorem noBook_has {id:Int}{bs:List Visit4}:noBook id bs= !hasId id bs:=by simp[hasId]
theorem valid_less {p:Int}{T R:List Visit4}(h:deskValid ⟨p,T,R⟩=true):deskValid ⟨p,T,[]⟩=true:=by
 have h:=desk_iff.1 h
 exact desk_iff.2 ⟨h.pl,h.ok,h.fit,h.up,Nat.zero_le _,fun b hb=>absurd hb (by simp),List.Pairwise.nil,fun b hb=>absurd hb (by simp),fun b hb=>absurd hb (by simp)⟩
theorem valid_wait {p:Int}{T R:List Visit4}{b:Visit4}{k:Nat}(h:deskValid ⟨p,T,R⟩=true)(hb:R[k]? =some b) (hl:T.length+1≤7): ¬booksMost (T++ [b])≤p:=by
 have h1:deskFits p T b=false:=(desk_iff.1 h).wait b (List.mem_of_getElem? hb)
 intro h2
 have h3:T.length<7:=hl
 simp[deskFits,h3,h2]at h1
theorem ask_cases (d:DeskD)(b:Visit4)(h:deskValid d=true):deskAsk d b=(d,0)∨deskAsk d b=(⟨d.places,putBook d.taken b,d.row⟩,1)∨deskAsk d b=(⟨d.places,d.taken,d.row++ [b]⟩,2):=by
 unfold deskAsk
 rw[if_pos h]
 split
 ·exact .inl rfl
 ·split
  ·exact .inr (.inl rfl)
  ·split
   ·exact .inl rfl
   ·exact .inr (.inr rfl)
theorem ask_bad (d:DeskD)(b:Visit4)(h:deskValid d=false):deskAsk d b=(⟨0,[],[]⟩,0):=by
 unfold deskAsk;rw[if_neg (by rw[h];decide)]
theorem put_has {T:List Visit4}{b c:Visit4}(h:c∈T∨c=b):hasId c.1 (putBook T b)=true:=hasId_iff.2 ⟨c,put_mem.2 h,rfl⟩
theorem at_has {T:List Visit4}{c:Visit4}{k:Nat}(h:T[k]? =some c):hasId c.1 T=true:=hasId_iff.2 ⟨c,List.mem_of_getElem? h,rfl⟩
theorem idx_self {T:List Visit4}{c:Visit4}{k:Nat}(hn:(T.map (·.1)).Nodup)(h:T[k]? =some c):idxOf c.1 T=some k:=by
 unfold idxOf
 rw[List.findIdx?_eq_some_iff_getElem]
 obtain⟨hk,rfl⟩:=List.getElem?_eq_some_iff.1 h
 refine⟨hk,by simp,fun j hj=> ?_⟩
 have:=List.pairwise_iff_getElem.1 hn j k (by simp;omega) (by simpa using hk) hj
 simpa using this
theorem idx_at {id:Int}{T:List Visit4}{k:Nat}(h:idxOf id T=some k): ∃c,T[k]? =some c∧c.1=id:=by
 unfold idxOf at h
 rw[List.findIdx?_eq_some_iff_getElem]at h
 obtain⟨hk,h1,_⟩:=h
 exact⟨T[k],List.getElem?_eq_getElem hk,by simpa using h1⟩
theorem idx_no {id:Int}{T:List Visit4}(h:idxOf id T=none): ∀c∈T,c.1≠id:=by
 unfold idxOf at h
 rw[List.findIdx?_eq_none_iff]at h
 intro c hc
 simpa using h c hc
theorem erase_filter: ∀ {T:List Visit4} {k:Nat} {c:Visit4},(T.map (·.1)).Nodup→T[k]? =some c→T.eraseIdx k=T.filter (fun b=> !(b.1==c.1))
 | [],k,c,hn,h=>by simp at h
 |x::T,0,c,hn,h=>by
  obtain rfl:x=c:=by simpa using h
  have hn2:=List.nodup_cons.1 (show(x.1::T.map (·.1)).Nodup from hn)
  rw[List.eraseIdx_cons_zero,List.filter_cons]
  simp only[BEq.rfl,Bool.not_true,Bool.false_eq_true,↓reduceIte]
  symm
  rw[List.filter_eq_self]
  intro b hb
  have: ¬b.1=x.1:=fun e=>hn2.1 (e▸List.mem_map_of_mem hb)
  simp[this]
 |x::T,k+1,c,hn,h=>by
  have h:T[k]? =some c:=by simpa using h
  have hn2:=List.nodup_cons.1 (show(x.1::T.map (·.1)).Nodup from hn)
  have hx: ¬x.1=c.1:=fun e=>hn2.1 (e▸List.mem_map_of_mem (List.mem_of_getElem? h))
  rw[List.eraseIdx_cons_succ,List.filter_cons,erase_filter hn2.2 h]
  simp[hx]
theorem up_nodup {T:List Visit4}(h:(T.map (·.1)).Pairwise (·< ·)):(T.map (·.1)).Nodup:=h.imp (fun h e=>by omega)
structure FreeOk (d:DeskD) (id:Int) (x:DeskD) (got:List Int):Prop where
 row:x.row=d.row.filter (fun b=> !got.contains b.1&& !(b.1==id))
 old: ∀g∈got,hasId g d.row=true∧hasId g x.taken=true
 noT:hasId id x.taken=false
 noR:hasId id x.row=false
theorem free_all {d:DeskD}{id:Int}(hd:deskValid d=true):FreeOk d id (deskFree d id).1 (deskFree d id).2:=by
 unfold deskFree
 rw[if_pos hd]
 have h:=desk_iff.1 hd
 cases hi:idxOf id d.row with
 |some i=>
  obtain⟨c,hc,rfl⟩:=idx_at hi
  have he:=erase_filter h.rnd hc
  refine⟨?_,fun g hg=>absurd hg (by simp),hasId_no.2 fun x hx e=>h.far c (List.mem_of_getElem? hc) x hx e.symm,hasId_no.2 fun x hx e=> ?_⟩
  ·show d.row.eraseIdx i=_
   rw[he];simp
  ·have hx:x∈d.row.eraseIdx i:=hx
   rw[he]at hx
   have:=(List.mem_filter.1 hx).2
   simp[e]at this
 |none=>
  have hr:=idx_no hi
  cases hj:idxOf id d.taken with
  |none=>
   have ht:=idx_no hj
   refine⟨?_,fun g hg=>absurd hg (by simp),hasId_no.2 ht,hasId_no.2 hr⟩
   show d.row=_
   symm
   rw[List.filter_eq_self]
   intro b hb
   have:=hr b hb
   simp[this]
  |some i=>
   have F:=free_inv h i
   obtain⟨c,hc,rfl⟩:=idx_at hj
   have he:=erase_filter (up_nodup h.up) hc
   refine⟨?_,fun g hg=> ?_,hasId_no.2 fun x hx e=> ?_,hasId_no.2 fun x hx e=> ?_⟩
   ·show(freeRun d.places (d.taken.eraseIdx i) d.row).2.1=_
    rw[F.row]
    refine List.filter_congr fun b hb=> ?_
    have:=hr b hb
    simp[this]
   ·obtain⟨b,hb,rfl⟩:=F.got g hg
    exact⟨hasId_iff.2 ⟨b,hb,rfl⟩,hasId_iff.2 ⟨b,(F.mem b).2 (.inr ⟨hb,hg⟩),rfl⟩⟩
   ·rcases(F.mem x).1 hx with hx|⟨hx,_⟩
    ·rw[he]at hx
     have:=(List.mem_filter.1 hx).2
     simp[e]at this
    ·exact hr x hx e
   ·have hx:x∈(freeRun d.places (d.taken.eraseIdx i) d.row).2.1:=hx
    rw[F.row]at hx
    exact hr x (List.mem_filter.1 hx).1 e
theorem free_bad (d:DeskD)(id:Int)(h:deskValid d=false):deskFree d id=(⟨0,[],[]⟩,[]):=by
 unfold deskFree;rw[if_neg (by rw[h];decide)]
theorem run_bad (d:DeskD)(bs:List Visit4)(h:deskValid d=false):deskRun d bs=⟨0,[],[]⟩:=by
 unfold deskRun;rw[if_neg (by rw[h];decide)]
theorem place_in {d:DeskD}{a:Nat}{c:Visit4}(h:deskValid d=true)(hc:d.taken[a]? =some c):0≤deskPlace d c.1∧deskPlace d c.1<d.places:=by
 have D:=desk_iff.1 h
 obtain⟨p,h1,h2,h3⟩:=place_has D.ok D.fit (List.getElem?_eq_some_iff.1 hc).1
 unfold deskPlace
 rw[if_pos h,idx_self (up_nodup D.up) hc]
 simp only[h1,Option.getD_some]
 exact⟨h2,h3⟩
theorem place_far {d:DeskD}{a b:Nat}{x y:Visit4}(h:deskValid d=true)(hab:a≠b)(hx:d.taken[a]? =some x) (hy:d.taken[b]? =some y) (ho:overlap x y=true):deskPlace d y.1≠deskPlace d x.1:=by
 have D:=desk_iff.1 h
 obtain⟨p,h1,h2,h3⟩:=place_has D.ok D.fit (List.getElem?_eq_some_iff.1 hx).1
 obtain⟨q,g1,g2,g3⟩:=place_has D.ok D.fit (List.getElem?_eq_some_iff.1 hy).1
 have hne:=place_apart D.ok hab hx hy ho
 unfold deskPlace
 rw[if_pos h,if_pos h,idx_self (up_nodup D.up) hx,idx_self (up_nodup D.up) hy]
 simp only[h1,g1,Option.getD_some]
 rw[h1,g1]at hne
 exact fun e=>hne (by rw[e])
theorem place_some {d:DeskD}{id:Int}(h:deskValid d=true):(0≤deskPlace d id↔hasId id d.taken=true)∧deskPlace d id<d.places:=by
 have D:=desk_iff.1 h
 cases hh:hasId id d.taken with
 |true=>
  obtain⟨c,hc,rfl⟩:=hasId_iff.1 hh
  obtain⟨k,hk⟩:=List.mem_iff_getElem?.1 hc
  have:=place_in h hk
  exact⟨⟨fun _=>rfl,fun _=>this.1⟩,this.2⟩
 |false=>
  have:idxOf id d.taken=none:=idx_none (by rw[noBook_has,hh];rfl)
  unfold deskPlace
  rw[if_pos h,this]
  have:=D.pl
  exact⟨by simp,by show(-1:Int)<d.places;omega⟩
theorem place_badD (d:DeskD)(id:Int)(h:deskValid d=false):deskPlace d id= -1:=by
 unfold deskPlace;rw[if_neg (by rw[h];decide)]
theorem run_half (d:DeskD)(bs:List Visit4)(k:Nat)(h:deskValid d=true):deskRun (deskRun d (bs.take k)) (bs.drop k)=deskRun d bs:=by
 rw[deskRun_split d _ _ h,List.take_append_drop]
end Go.Proofs.YtndcnflchkfaeaaDoor

namespace Go.Proofs.YtndcnflchkfaeaaDoor
open Go.RowKit
set_option linter.unusedVariables false
set_option linter.unusedSimpArgs false
set_option maxRecDepth 100000 in
set_option maxHeartbeats 1000000 in
theorem hasInt_any (p:Option Addr)(n cap:Nat)(xs:List Int)(x:Int)(w:World)(hS:Sl w p n cap 1 (ivs xs)):
  Calls Tryd.prog 23 #[.slice p n cap,.int .i64 x] w fun e w'=>e= .returned (.bool (xs.contains x))∧w=w':=by
 have hn:=hS.bd
 have hl:=Lib.hid hS.ilen
 have HS:=Lib.hid hS
 clear hS
 go_enter Tryd.func23,Tryd.ntmps23
 go_wp2
 go_loop [5] (fun i=> ∃k:Nat,k≤n∧i= .int .i64 k∧(xs.take k).contains x=false) (fun i=>n-(intOf i).toNat)
 case atStart=>exact⟨0,Nat.zero_le _,rfl,by simp⟩
 case round=>
  obtain⟨k,hk,rfl,hc⟩:=hrel
  have HC:=Lib.hid hc
  clear hc
  by_cases hlt:k<n
  ·obtain⟨b,off,y,rfl,hx,hb,hcell⟩:=HS.out.int_at hlt
   have HX:=Lib.hid hx
   clear hx
   by_cases hy:y=x
   ·have t1:(y==x)=true:=by simp[hy]
    have hfin:Hid (xs.contains x=true):=by show _=_;rw[List.contains_eq_mem];simp;rw[←hy];exact List.mem_of_getElem? HX.out
    clear hy
    go_wp2
    go_ret
    exact⟨ret_bool (by simpa using hfin.out.symm),rfl⟩
   ·have t1:(y==x)=false:=by simp[hy]
    have hfin:Hid ((xs.take (k+1)).contains x=false):=by
     have:=HC.out
     show _=_
     rw[take_snocL HX.out]
     simp only[List.contains_eq_mem,decide_eq_false_iff_not,List.mem_append,List.mem_singleton,not_or]at this⊢
     exact⟨this,fun e=>hy e.symm⟩
    clear hy
    go_wp2
    go_round
    case rel=>exact⟨k+1,by omega,by go_num,hfin.out⟩
    case measure=>simp[intOf];omega
  ·have hfin:Hid (xs.contains x=false):=by
    have:=HC.out
    rw[List.take_of_length_le (by rw[hl.out];omega)]at this
    exact this
   go_wp2
   go_ret
   exact⟨ret_bool (by simpa using hfin.out.symm),rfl⟩
end Go.Proofs.YtndcnflchkfaeaaDoor

