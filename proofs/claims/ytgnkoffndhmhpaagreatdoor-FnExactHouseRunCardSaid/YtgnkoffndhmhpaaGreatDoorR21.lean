/-
  Texts of this proof, packed (@packed).
-/
import Derived.Test.YtgnkoffndhmhpaaGreatDoorR10
import Derived.Test.YtgnkoffndhmhpaaGreatDoorR12
import Derived.Test.YtgnkoffndhmhpaaGreatDoorR17
import Derived.Test.YtgnkoffndhmhpaaGreatDoorR20
namespace Go.Proofs.YtgnkoffndhmhpaaGreatDoor
open Go.RowKit
set_option linter.unusedVariables false
set_option linter.unusedSimpArgs false
set_option maxHeartbeats 8000000
set_option maxRecDepth 100000
section
variable {w0 w w':World} {L:List Item}
theorem Mem.own2 {b n c sz n2 c2 sz2:Nat}{e e2:TypeId}{q q2:OA}{xs xs2:List Value}(h:Mem w0 w L)(hx:Ext w w')(ho1:w'.ownsRow b e sz (.slice q n c) n xs)(ho2:w'.ownsRow b e2 sz2 (.slice q2 n2 c2) n2 xs2)(hb:w.heap.size≤b)(ht:e≠e2):
  Mem w0 w' (aJ w0.heap.size e sz q n c xs::aJ w0.heap.size e2 sz2 q2 n2 c2 xs2::L):=by
 refine(h.ownNew hx ho2 hb).cons (gJ _ _ _ _ _ _ _) (eO ho1 (Nat.le_trans h.ext.sz hb)) (fun g' hg' j hj e'=> ?_)
 replace hg':(Value.slice q n c).ownBlock=Option.some g':=hg'
 have h1:=(World.ownsRow.lt ho1 g' hg').1
 rcases List.mem_cons.1 hj with rfl|hj
 ·replace e':(Value.slice q2 n2 c2).ownBlock=Option.some g':=e'
  rcases ho1.2 with⟨h2,_⟩|⟨g2,cap',cur,h2,_,h3,_⟩
  ·rw[h2]at hg';cases hg'
  ·rcases ho2.2 with⟨k2,_⟩|⟨g3,cap3,cur3,k2,_,k3,_⟩
   ·rw[k2]at e';cases e'
   ·rw[h2]at hg';rw[k2]at e'
    injection hg' with hg';injection e' with e'
    have hg'':g2=g':=hg'
    have he'':g3=g':=e'
    subst hg'';subst he''
    rw[h3]at k3
    injection k3 with k3;injection k3 with _ k3
    exact ht k3
 ·have h2:=((h.good j hj).lt w (h.ok j hj) g' e').2
  omega
end
theorem uZ (aA aB free step aE aF aC aG id amt:Int)(p:OA)(n cap:Nat)(q:OA)(m c2:Nat)(xs:List Int)(vs:List aQ)(w:World)
  (HL:xC 60 #[.agg #[aA,aB,.slice p n cap,free,step,aE,aF,aC,aG,.slice q m c2]] w fun w' e w''=> ∃p' cap' q' c2',e= .returned (.agg #[aA,aB,.slice p' n cap',free,step,aE,aF,aC,aG,.slice q' m c2'])∧w''.ownsRow w'.heap.size TI 1 (.slice p' n cap') n (ivs xs)∧w''.ownsRow w'.heap.size TV 4 (.slice q' m c2') m (vs.flatMap aD)∧Ext w' w'')
  (HF:xC 75 #[.agg #[aA,aB,.slice p n cap,free,step,aE,aF,aC,aG,.slice q m c2],id] w fun w' e w''=>e= .returned (.int .i64 (-1))∧Ext w' w''):
  Calls Tryz.prog 73 #[.agg #[aA,aB,.slice p n cap,free,step,aE,aF,aC,aG,.slice q m c2],id,amt] w fun e w'=> ∃p' cap' q' c2' b,e= .returned (.tuple #[.agg #[aA,aB,.slice p' n cap',free,step,aE,aF,aC,aG,.slice q' m c2'],b,.bool false])∧Ext w w':=by
 go_enter Tryz.func73,Tryz.ntmps73
 go_wp2_with fail
 refine(HL.out _ (Mem.b2 w).ext).mono ?_
 rintro e w1 ⟨p1,cp1,q1,cq1,rfl,ho1,hq1,hx1⟩
 have M1:=xQ ((((((Mem.start w).blkNew aO #[aA,aB,.slice p n cap,free,step,aE,aF,aC,aG,.slice q m c2] (w.heap.size) (by simp))).blkNew aO #[(),(),((),()),(),(),(),(),(),(),((),())] (w.heap.size+1) (by simp))).own2 hx1 ho1 hq1 (Nat.le_refl _) (by decide))
 have lt1_2:=M1.out.hi 2
 have lt1_3:=M1.out.hi 3
 clear hx1 ho1 hq1 HL
 obtain⟨ce0,ce1,ce2,ce3,ce4,ce5,ce6,ce7,ce8,ce9⟩:=(M1.out.blk (i:=3) rfl).ten
 go_wp2_with fail
 clear ce0 ce1 ce2 ce3 ce4 ce5 ce6 ce7 ce8 ce9
 refine(HF.out _ (((M1.out).blkNew aO #[aA,aB,.slice p1 n cp1,free,step,aE,aF,aC,aG,.slice q1 m cq1] (w1.heap.size) (by simp))).ext).mono ?_
 rintro e w2 ⟨rfl,hx2⟩
 have M2:=xQ ((((M1.out).blkNew aO #[aA,aB,.slice p1 n cp1,free,step,aE,aF,aC,aG,.slice q1 m cq1] (w1.heap.size) (by simp))).adv hx2)
 clear M1 lt1_2 lt1_3
 have lt2_0:=M2.out.hi 0
 have lt2_3:=M2.out.hi 3
 have lt2_4:=M2.out.hi 4
 clear hx2 HF
 obtain⟨d0,d1,d2,d3,d4,d5,d6,d7,d8,d9⟩:=(M2.out.blk (i:=0) rfl).ten
 obtain⟨f0,ff0,f1,ff1,f2,ff2,f3,ff3,f4,ff4,f5,ff5,f6,ff6,f7,ff7,f8,ff8,f9,ff9⟩:=(M2.out.blk (i:=3) rfl).tenf
 have ne0_1a: ¬(w1.heap.size=w.heap.size+1):=M2.out.ne (i:=0) (j:=3) (by omega) rfl rfl rfl rfl
 have ne0_1b: ¬(w.heap.size+1=w1.heap.size):=fun h=>ne0_1a h.symm
 go_wp2
 clear d0 d1 d2 d3 d4 d5 d6 d7 d8 d9 f0 ff0 f1 ff1 f2 ff2 f3 ff3 f4 ff4 f5 ff5 f6 ff6 f7 ff7 f8 ff8 f9 ff9 ne0_1a ne0_1b lt2_0 lt2_3 lt2_4
 have M3:=xQ (((M2.out).put10 (i:=3) rfl (.int .i64 aA) (.int .i64 aB) (.slice p1 n cp1) (.int .i64 free) (.int .i64 step) (.int .i64 aE) (.int .i64 aF) (.int .i64 aC) (.int .i64 aG) (.slice q1 m cq1)))
 generalize hwz:World.setCell _ _ _=wz
 rw[hwz]at M3
 clear hwz M2
 obtain⟨y0,y1,y2,y3,y4,y5,y6,y7,y8,y9⟩:=(M3.out.blk (i:=3) rfl).ten
 exact bodyPost_ret (v:= .tuple #[.agg #[aA,aB,.slice p1 n cp1,free,step,aE,aF,aC,aG,.slice q1 m cq1],amt,.bool false]) (by simp[results,Tryz.results73,go_sem, *]) rfl ⟨p1,cp1,q1,cq1,amt,rfl,M3.out.ext⟩
theorem tP {vs:List aQ}{k:Nat}{a0 a1 a2 a3:Int}(h:vs[k]? =some (a0,a1,a2,a3)) (S1 S2 S3:Int):
  (((vs.flatMap aD).set (k*4+1) (.int .i64 S1)).set (k*4+2) (.int .i64 S2)).set (k*4+3) (.int .i64 S3)=(vs.set k (a0,S1,S2,S3)).flatMap aD:=by
 induction vs generalizing k with
 |nil=>simp at h
 |cons v vs ih=>
  cases k with
  |zero=>
   simp at h
   subst h
   simp[aD]
  |succ k=>
   have h':vs[k]? =some (a0,a1,a2,a3):=by simpa using h
   rw[List.set_cons_succ,List.flatMap_cons,List.flatMap_cons,←ih h']
   simp only[aD,List.cons_append,List.nil_append]
   rw[show(k+1)*4+1=(k*4+1)+1+1+1+1 by omega,show(k+1)*4+2=(k*4+2)+1+1+1+1 by omega,show(k+1)*4+3=(k*4+3)+1+1+1+1 by omega]
   simp only[List.set_cons_succ]
theorem aD8 (aA aB free step aE aF aC aG id amt:Int)(p:OA)(n cap b off m c2 k:Nat)(xs:List Int)(vs:List aQ)(a0 a1 a2 a3 S1 S2 S3 bk:Int)(okb:Bool)(w:World)(hk:k<m)(hm:m≤1000)(hb:b<w.heap.size)(hbn:0≤aG)(hbn2:aG≤99999)(hok:okb=true→0≤bk∧bk≤amt∧amt≤300)(HV0:Hid (vs[k]? =some (a0,a1,a2,a3)))
  (g1:w.cell? ⟨b,off+k*4+1,none⟩=some (.int .i64 a1)) (g2:w.cell? ⟨b,off+k*4+2,none⟩=some (.int .i64 a2)) (g3:w.cell? ⟨b,off+k*4+3,none⟩=some (.int .i64 a3))
  (HL:xC 60 #[.agg #[aA,aB,.slice p n cap,free,step,aE,aF,aC,aG,.slice (some ⟨b,off,none⟩) m c2]] w fun w' e w''=> ∃p' cap' q' c2',e= .returned (.agg #[aA,aB,.slice p' n cap',free,step,aE,aF,aC,aG,.slice q' m c2'])∧w''.ownsRow w'.heap.size TI 1 (.slice p' n cap') n (ivs xs)∧w''.ownsRow w'.heap.size TV 4 (.slice q' m c2') m (vs.flatMap aD)∧Ext w' w'')
  (HF:xC 75 #[.agg #[aA,aB,.slice p n cap,free,step,aE,aF,aC,aG,.slice (some ⟨b,off,none⟩) m c2],id] w fun w' e w''=>e= .returned (.int .i64 (k:Int))∧Ext w' w'')
  (HP:Hid (∀w',Calls Tryz.prog 122 #[aR free step aE aF,bL a1 a2 a3,aC,amt] w' fun e w''=>e= .returned (.tuple #[bL S1 S2 S3,bk,.bool okb])∧Ext w' w'')):
  Calls Tryz.prog 73 #[.agg #[aA,aB,.slice p n cap,free,step,aE,aF,aC,aG,.slice (some ⟨b,off,none⟩) m c2],id,amt] w fun e w'=>(∃p' cap' q' c2' b,e= .returned (.tuple #[.agg #[aA,aB,.slice p' n cap',free,step,aE,aF,aC,aG,.slice q' m c2'],b,.bool false])∧ ¬(okb=true∧aG+amt-bk≤99999)∧Ext w w')∨
   (okb=true∧aG+amt-bk≤99999∧ ∃p' cap' q' c2',e= .returned (.tuple #[.agg #[aA,aB,.slice p' n cap',free,step,aE,aF,aC,(aG+amt-bk:Int),.slice q' m c2'],bk,.bool true])∧w'.ownsRow w.heap.size TI 1 (.slice p' n cap') n (ivs xs)∧w'.ownsRow w.heap.size TV 4 (.slice q' m c2') m ((vs.set k (a0,S1,S2,S3)).flatMap aD)∧Ext w w'):=by
 go_enter Tryz.func73,Tryz.ntmps73
 go_wp2_with fail
 refine(HL.out _ (Mem.b2 w).ext).mono ?_
 rintro e w1 ⟨p1,cp1,q1,cq1,rfl,ho1,hq1,hx1⟩
 have M1:=xQ ((((((Mem.start w).blkNew aO #[aA,aB,.slice p n cap,free,step,aE,aF,aC,aG,.slice (some ⟨b,off,none⟩) m c2] (w.heap.size) (by simp))).blkNew aO #[(),(),((),()),(),(),(),(),(),(),((),())] (w.heap.size+1) (by simp))).own2 hx1 ho1 hq1 (Nat.le_refl _) (by decide))
 have lt1_2:=M1.out.hi 2
 have lt1_3:=M1.out.hi 3
 clear hx1 ho1 hq1 HL
 obtain⟨ce0,ce1,ce2,ce3,ce4,ce5,ce6,ce7,ce8,ce9⟩:=(M1.out.blk (i:=3) rfl).ten
 go_wp2_with fail
 clear ce0 ce1 ce2 ce3 ce4 ce5 ce6 ce7 ce8 ce9
 refine(HF.out _ (((M1.out).blkNew aO #[aA,aB,.slice p1 n cp1,free,step,aE,aF,aC,aG,.slice q1 m cq1] (w1.heap.size) (by simp))).ext).mono ?_
 rintro e w2 ⟨rfl,hx2⟩
 have M2:=xQ ((((M1.out).blkNew aO #[aA,aB,.slice p1 n cp1,free,step,aE,aF,aC,aG,.slice q1 m cq1] (w1.heap.size) (by simp))).adv hx2)
 clear M1 lt1_2 lt1_3
 have lt2_0:=M2.out.hi 0
 have lt2_3:=M2.out.hi 3
 have lt2_4:=M2.out.hi 4
 clear hx2 HF
 obtain⟨ce0,ce1,ce2,ce3,ce4,ce5,ce6,ce7,ce8,ce9⟩:=(M2.out.blk (i:=4) rfl).ten
 have hX2:=M2.out.ext
 have g1':w2.cell? ⟨b,off+k*4+1,none⟩=some (.int .i64 a1):=(hX2.cells.1 _ _ hb).trans g1
 have g2':w2.cell? ⟨b,off+k*4+2,none⟩=some (.int .i64 a2):=(hX2.cells.1 _ _ hb).trans g2
 have g3':w2.cell? ⟨b,off+k*4+3,none⟩=some (.int .i64 a3):=(hX2.cells.1 _ _ hb).trans g3
 have hb2:b<w2.heap.size:=Nat.lt_of_lt_of_le hb hX2.sz
 clear hX2
 have i1:(0:Int)≤(k:Int):=by omega
 have i2:(k:Int)<(m:Int):=by omega
 have n1: ¬(w.heap.size=w2.heap.size):=by omega
 have n2: ¬(w2.heap.size=w.heap.size):=by omega
 have n3: ¬(b=w2.heap.size):=by omega
 have n4: ¬(w2.heap.size=b):=by omega
 go_upto_region 5 with fail
 go_cut [11,12,13] (fun s11 s12 s13 wx=> ∃a:Nat,s11= .pointer (some ⟨a,0,none⟩)∧s12= .int .i64 bk∧s13= .bool okb∧Ext w2 wx∧w2.heap.size≤a∧Blk wx a TS3 #[S1,S2,S3])
 case first=>
  go_region_held3 (fun w'=>w'.cell? ⟨w.heap.size,3,none⟩=some (.int .i64 free)∧w'.cell? ⟨w.heap.size,4,none⟩=some (.int .i64 step)∧w'.cell? ⟨w.heap.size,5,none⟩=some (.int .i64 aE)∧w'.cell? ⟨w.heap.size,6,none⟩=some (.int .i64 aF)∧w'.cell? ⟨w.heap.size,7,none⟩=some (.int .i64 aC)∧w'.cell? ⟨w.heap.size,9,none⟩=some (.slice (some ⟨b,off,none⟩) m c2)∧w'.cell? ⟨b,off+k*4+1,none⟩=some (.int .i64 a1)∧w'.cell? ⟨b,off+k*4+2,none⟩=some (.int .i64 a2)∧w'.cell? ⟨b,off+k*4+3,none⟩=some (.int .i64 a3))
   (first|(refine⟨?_,?_,?_,?_,?_,?_,?_,?_,?_⟩<;>assumption)|go_keep)
   ((go_at_call 122
     refine(HP.out _).mono ?_
     rintro e w5 ⟨rfl,hx5⟩
     have hy5:Ext w2 w5:=xE
     have gg3:w5.cell? ⟨w.heap.size,3,none⟩=some (.int .i64 free):=((M2.out.blk (i:=4) rfl).ext hy5).cell 3
     have gg4:w5.cell? ⟨w.heap.size,4,none⟩=some (.int .i64 step):=((M2.out.blk (i:=4) rfl).ext hy5).cell 4
     have gg5:w5.cell? ⟨w.heap.size,5,none⟩=some (.int .i64 aE):=((M2.out.blk (i:=4) rfl).ext hy5).cell 5
     have gg6:w5.cell? ⟨w.heap.size,6,none⟩=some (.int .i64 aF):=((M2.out.blk (i:=4) rfl).ext hy5).cell 6
     have gg7:w5.cell? ⟨w.heap.size,7,none⟩=some (.int .i64 aC):=((M2.out.blk (i:=4) rfl).ext hy5).cell 7
     have gg9:w5.cell? ⟨w.heap.size,9,none⟩=some (.slice (some ⟨b,off,none⟩) m c2):=((M2.out.blk (i:=4) rfl).ext hy5).cell 9
     have gv1:w5.cell? ⟨b,off+k*4+1,none⟩=some (.int .i64 a1):=(hy5.cells.1 _ _ hb2).trans g1'
     have gv2:w5.cell? ⟨b,off+k*4+2,none⟩=some (.int .i64 a2):=(hy5.cells.1 _ _ hb2).trans g2'
     have gv3:w5.cell? ⟨b,off+k*4+3,none⟩=some (.int .i64 a3):=(hy5.cells.1 _ _ hb2).trans g3'
     first
      |(have hz5:Ext (w2.alloc (.cells #[(),(),()] TS3)) w5:=hx5
        have BB:=(Blk.new w2 TS3 #[(),(),()]).ext hz5
        have zc0:w5.cell? ⟨w2.heap.size,0,none⟩=some (.int .i64 0):=BB.cell 0
        have zf0:w5.frozen? ⟨w2.heap.size,0,none⟩=false:=BB.frozen 0
        have zc1:w5.cell? ⟨w2.heap.size,1,none⟩=some (.int .i64 0):=BB.cell 1
        have zf1:w5.frozen? ⟨w2.heap.size,1,none⟩=false:=BB.frozen 1
        have zc2:w5.cell? ⟨w2.heap.size,2,none⟩=some (.int .i64 0):=BB.cell 2
        have zf2:w5.frozen? ⟨w2.heap.size,2,none⟩=false:=BB.frozen 2)
      |(have hz5:Ext (w2.alloc (.cells #[(),(),()] TS3)) w5:=hx5.of_drew
        have BB:=(Blk.new w2 TS3 #[(),(),()]).ext hz5
        have zc0:w5.cell? ⟨w2.heap.size,0,none⟩=some (.int .i64 0):=BB.cell 0
        have zf0:w5.frozen? ⟨w2.heap.size,0,none⟩=false:=BB.frozen 0
        have zc1:w5.cell? ⟨w2.heap.size,1,none⟩=some (.int .i64 0):=BB.cell 1
        have zf1:w5.frozen? ⟨w2.heap.size,1,none⟩=false:=BB.frozen 1
        have zc2:w5.cell? ⟨w2.heap.size,2,none⟩=some (.int .i64 0):=BB.cell 2
        have zf2:w5.frozen? ⟨w2.heap.size,2,none⟩=false:=BB.frozen 2)
      |skip))
  ·go_wp2_with fail
   go_meet
   exact⟨w5.heap.size,rfl,rfl,rfl,by exact .alloc hy5 _,by have:=hy5.sz;omega,Blk.new _ _ _⟩
  ·have hR:ExtR w2.heap.size w5 _:=(((ExtR.refl w2.heap.size w5).setCell (p:=⟨w2.heap.size,0,none⟩) (.inl rfl) (.int .i64 S1)).setCell (p:=⟨w2.heap.size,1,none⟩) (.inl rfl) (.int .i64 S2)).setCell (p:=⟨w2.heap.size,2,none⟩) (.inl rfl) (.int .i64 S3)
   have hY:=((BB.set 0 (.int .i64 S1)).set 1 (.int .i64 S2)).set 2 (.int .i64 S3)
   simp only[List.setIfInBounds_toArray,List.set_cons_zero,List.set_cons_succ]at hY
   go_wp2_with fail
   go_meet
   exact⟨w2.heap.size,rfl,rfl,rfl,ExtR.new hy5 hR (Nat.le_refl _),Nat.le_refl _,hY⟩
 case rest=>
  clear ce0 ce1 ce2 ce3 ce4 ce5 ce6 ce7 ce8 ce9 g1' g2' g3' hb2 HP n1 n2 n3 n4
  obtain⟨a,rfl,rfl,rfl,hE5,ha,hBa⟩:=hcut
  have M3:=xQ (M2.out.blkOf hE5 hBa ha)
  clear M2 lt2_0 lt2_3 lt2_4
  have lt3_0:=M3.out.hi 0
  have lt3_1:=M3.out.hi 1
  have lt3_4:=M3.out.hi 4
  have lt3_5:=M3.out.hi 5
  clear hE5 ha hBa
  cases okb with
  |false=>
   have hno:Hid (¬(false=true∧aG+amt-bk≤99999)):=by show¬_;simp
   obtain⟨d0,d1,d2,d3,d4,d5,d6,d7,d8,d9⟩:=(M3.out.blk (i:=1) rfl).ten
   obtain⟨f0,ff0,f1,ff1,f2,ff2,f3,ff3,f4,ff4,f5,ff5,f6,ff6,f7,ff7,f8,ff8,f9,ff9⟩:=(M3.out.blk (i:=4) rfl).tenf
   have ne0_1a: ¬(w1.heap.size=w.heap.size+1):=M3.out.ne (i:=1) (j:=4) (by omega) rfl rfl rfl rfl
   have ne0_1b: ¬(w.heap.size+1=w1.heap.size):=fun h=>ne0_1a h.symm
   go_wp2
   clear d0 d1 d2 d3 d4 d5 d6 d7 d8 d9 f0 ff0 f1 ff1 f2 ff2 f3 ff3 f4 ff4 f5 ff5 f6 ff6 f7 ff7 f8 ff8 f9 ff9 ne0_1a ne0_1b lt3_0 lt3_1 lt3_4 lt3_5
   have M4:=xQ (((M3.out).put10 (i:=4) rfl (.int .i64 aA) (.int .i64 aB) (.slice p1 n cp1) (.int .i64 free) (.int .i64 step) (.int .i64 aE) (.int .i64 aF) (.int .i64 aC) (.int .i64 aG) (.slice q1 m cq1)))
   generalize hwz:World.setCell _ _ _=wz
   rw[hwz]at M4
   clear hwz M3
   obtain⟨y0,y1,y2,y3,y4,y5,y6,y7,y8,y9⟩:=(M4.out.blk (i:=4) rfl).ten
   exact bodyPost_ret (v:= .tuple #[.agg #[aA,aB,.slice p1 n cp1,free,step,aE,aF,aC,aG,.slice q1 m cq1],amt,.bool false]) (by simp[results,Tryz.results73,go_sem, *]) rfl (by first|exact .inl ⟨p1,cp1,q1,cq1,amt,rfl,hno.out,M4.out.ext⟩|(have hno2:=hno.out;simp at hno2;first|exact .inl ⟨p1,cp1,q1,cq1,amt,rfl,hno2,M4.out.ext⟩|exact .inl ⟨p1,cp1,q1,cq1,amt,rfl,by omega,M4.out.ext⟩|exact .inl ⟨⟨p1,cp1,q1,cq1,amt,rfl⟩,hno2,M4.out.ext⟩|exact .inl ⟨⟨p1,cp1,q1,cq1,amt,rfl⟩,by omega,M4.out.ext⟩|exact .inl ⟨⟨p1,cp1,q1,cq1,amt,rfl⟩,M4.out.ext⟩|exact⟨⟨p1,cp1,q1,cq1,amt,rfl⟩,M4.out.ext⟩))
  |true=>
   obtain⟨o1,o2,o3⟩:=hok rfl
   have k1:IntKind.i64.wrap (aG+amt)=aG+amt:=IntWalk.i64_in _ (by omega)
   have k2:IntKind.i64.wrap (aG+amt-bk)=aG+amt-bk:=IntWalk.i64_in _ (by omega)
   have h8:wc.cell? ⟨w.heap.size,8,none⟩=some (.int .i64 aG):=(M3.out.blk (i:=5) rfl).cell 8
   by_cases hq:aG+amt-bk≤99999
   ·have hd:decide (99999<aG+amt-bk)=false:=by simp;omega
    have hqq:=xQ hq
    clear hq
    obtain⟨gq,rfl,hgq1,hgq2⟩:=M3.out.some (i:=3) rfl (by omega)
    obtain⟨b9,o9,x0,x1,x2,x3,e9,hx9,_,y0,y1,y2,y3⟩:=dP (M3.out.sl (i:=3) rfl) hk
    injection e9 with e9
    injection e9 with e9 e8
    subst e9 e8
    simp only[Nat.zero_add]at y1 y2 y3
    have HX9:=xQ hx9
    clear hx9 y0 hgq1
    obtain⟨d0,df0,d1,df1,d2,df2,d3,df3,d4,df4,d5,df5,d6,df6,d7,df7,d8,df8,d9,df9⟩:=(M3.out.blk (i:=1) rfl).tenf
    obtain⟨f0,ff0,f1,ff1,f2,ff2,f3,ff3,f4,ff4,f5,ff5,f6,ff6,f7,ff7,f8,ff8,f9,ff9⟩:=(M3.out.blk (i:=4) rfl).tenf
    obtain⟨sa0,sa1,sa2⟩:=(M3.out.blk (i:=0) rfl).tri
    have z1:wc.frozen? ⟨gq,k*4+1,none⟩=false:=(M3.out.own (i:=3) rfl).frozenAt (k*4+1)
    have z2:wc.frozen? ⟨gq,k*4+2,none⟩=false:=(M3.out.own (i:=3) rfl).frozenAt (k*4+2)
    have z3:wc.frozen? ⟨gq,k*4+3,none⟩=false:=(M3.out.own (i:=3) rfl).frozenAt (k*4+3)
    have ne0_1a: ¬(w.heap.size+1=w.heap.size):=M3.out.ne (i:=4) (j:=5) (by omega) rfl rfl rfl rfl
    have ne0_1b: ¬(w.heap.size=w.heap.size+1):=fun h=>ne0_1a h.symm
    have ne0_2a: ¬(w1.heap.size=w.heap.size):=M3.out.ne (i:=1) (j:=5) (by omega) rfl rfl rfl rfl
    have ne0_2b: ¬(w.heap.size=w1.heap.size):=fun h=>ne0_2a h.symm
    have ne0_3a: ¬(a=w.heap.size):=M3.out.ne (i:=0) (j:=5) (by omega) rfl rfl rfl rfl
    have ne0_3b: ¬(w.heap.size=a):=fun h=>ne0_3a h.symm
    have ne0_4a: ¬(gq=w.heap.size):=M3.out.ne (i:=3) (j:=5) (by omega) rfl rfl rfl rfl
    have ne0_4b: ¬(w.heap.size=gq):=fun h=>ne0_4a h.symm
    have ne1_2a: ¬(w1.heap.size=w.heap.size+1):=M3.out.ne (i:=1) (j:=4) (by omega) rfl rfl rfl rfl
    have ne1_2b: ¬(w.heap.size+1=w1.heap.size):=fun h=>ne1_2a h.symm
    have ne1_3a: ¬(a=w.heap.size+1):=M3.out.ne (i:=0) (j:=4) (by omega) rfl rfl rfl rfl
    have ne1_3b: ¬(w.heap.size+1=a):=fun h=>ne1_3a h.symm
    have ne1_4a: ¬(gq=w.heap.size+1):=M3.out.ne (i:=3) (j:=4) (by omega) rfl rfl rfl rfl
    have ne1_4b: ¬(w.heap.size+1=gq):=fun h=>ne1_4a h.symm
    have ne2_3a: ¬(a=w1.heap.size):=M3.out.ne (i:=0) (j:=1) (by omega) rfl rfl rfl rfl
    have ne2_3b: ¬(w1.heap.size=a):=fun h=>ne2_3a h.symm
    have ne2_4a: ¬(w1.heap.size=gq):=M3.out.ne (i:=1) (j:=3) (by omega) rfl rfl rfl rfl
    have ne2_4b: ¬(gq=w1.heap.size):=fun h=>ne2_4a h.symm
    have ne3_4a: ¬(a=gq):=M3.out.ne (i:=0) (j:=3) (by omega) rfl rfl rfl rfl
    have ne3_4b: ¬(gq=a):=fun h=>ne3_4a h.symm
    have M4:=xQ (show Mem w (((wc.setCell ⟨gq,k*4+1,none⟩ (.int .i64 S1)).setCell ⟨gq,k*4+2,none⟩ (.int .i64 S2)).setCell ⟨gq,k*4+3,none⟩ (.int .i64 S3)) [aL w.heap.size (a) TS3 #[S1,S2,S3],aL w.heap.size (w1.heap.size) aO #[aA,aB,.slice p1 n cp1,free,step,aE,aF,aC,aG,.slice (some ⟨gq,0,none⟩) m cq1],aJ w.heap.size TI 1 (p1) (n) (cp1) (ivs xs),aJ w.heap.size TV 4 (some ⟨gq,0,none⟩) (m) (cq1) ((((vs.flatMap aD).set (k*4+1) (.int .i64 S1)).set (k*4+2) (.int .i64 S2)).set (k*4+3) (.int .i64 S3)),aL w.heap.size (w.heap.size+1) aO #[(),(),((),()),(),(),(),(),(),(),((),())],aL w.heap.size (w.heap.size) aO #[aA,aB,.slice p n cap,free,step,aE,aF,aC,aG,.slice (some ⟨b,off,none⟩) m c2]]from((((((M3.out).ostore (i:=3) rfl (k*4+1) (.int .i64 S1))).ostore (i:=3) rfl (k*4+2) (.int .i64 S2))).ostore (i:=3) rfl (k*4+3) (.int .i64 S3)))
    have M5:=xQ (((M4.out).st 1 8 (.int .i64 (aG+amt-bk))))
    have hfl:Hid ((((vs.flatMap aD).set (k*4+1) (.int .i64 S1)).set (k*4+2) (.int .i64 S2)).set (k*4+3) (.int .i64 S3)=(vs.set k (a0,S1,S2,S3)).flatMap aD):=tP HV0.out S1 S2 S3
    go_wp2
    clear d0 df0 d1 df1 d2 df2 d3 df3 d4 df4 d5 df5 d6 df6 d7 df7 d8 df8 d9 df9 f0 ff0 f1 ff1 f2 ff2 f3 ff3 f4 ff4 f5 ff5 f6 ff6 f7 ff7 f8 ff8 f9 ff9 sa0 sa1 sa2 z1 z2 z3 ne0_1a ne0_1b ne0_2a ne0_2b ne0_3a ne0_3b ne0_4a ne0_4b ne1_2a ne1_2b ne1_3a ne1_3b ne1_4a ne1_4b ne2_3a ne2_3b ne2_4a ne2_4b ne3_4a ne3_4b y1 y2 y3 hgq2 h8 lt3_0 lt3_1 lt3_4 lt3_5
    have M6:=xQ (((M5.out).put10 (i:=4) rfl (.int .i64 aA) (.int .i64 aB) (.slice p1 n cp1) (.int .i64 free) (.int .i64 step) (.int .i64 aE) (.int .i64 aF) (.int .i64 aC) (.int .i64 (aG+amt-bk)) (.slice (some ⟨gq,0,none⟩) m cq1)))
    generalize hwz:World.setCell _ _ _=wz
    rw[hwz]at M6
    clear hwz M3 M4 M5
    obtain⟨y0,y1,y2,y3,y4,y5,y6,y7,y8,y9⟩:=(M6.out.blk (i:=4) rfl).ten
    exact bodyPost_ret (v:= .tuple #[.agg #[aA,aB,.slice p1 n cp1,free,step,aE,aF,aC,(aG+amt-bk:Int),.slice (some ⟨gq,0,none⟩) m cq1],bk,.bool true]) (by simp[results,Tryz.results73,go_sem, *]) rfl (by first|exact .inr ⟨rfl,hqq.out,p1,cp1,some ⟨gq,0,none⟩,cq1,rfl,(M6.out.own (i:=2) rfl),by rw[←hfl.out];exact(M6.out.own (i:=3) rfl),M6.out.ext⟩|exact .inr ⟨hqq.out,p1,cp1,some ⟨gq,0,none⟩,cq1,rfl,(M6.out.own (i:=2) rfl),by rw[←hfl.out];exact(M6.out.own (i:=3) rfl),M6.out.ext⟩)
   ·have hno:Hid (¬(true=true∧aG+amt-bk≤99999)):=by show¬_;simp[hq]
    have hd:decide (99999<aG+amt-bk)=true:=by simp;omega
    obtain⟨d0,d1,d2,d3,d4,d5,d6,d7,d8,d9⟩:=(M3.out.blk (i:=1) rfl).ten
    obtain⟨f0,ff0,f1,ff1,f2,ff2,f3,ff3,f4,ff4,f5,ff5,f6,ff6,f7,ff7,f8,ff8,f9,ff9⟩:=(M3.out.blk (i:=4) rfl).tenf
    have ne0_1a: ¬(w1.heap.size=w.heap.size+1):=M3.out.ne (i:=1) (j:=4) (by omega) rfl rfl rfl rfl
    have ne0_1b: ¬(w.heap.size+1=w1.heap.size):=fun h=>ne0_1a h.symm
    go_wp2
    clear d0 d1 d2 d3 d4 d5 d6 d7 d8 d9 f0 ff0 f1 ff1 f2 ff2 f3 ff3 f4 ff4 f5 ff5 f6 ff6 f7 ff7 f8 ff8 f9 ff9 ne0_1a ne0_1b lt3_0 lt3_1 lt3_4 lt3_5
    have M4:=xQ (((M3.out).put10 (i:=4) rfl (.int .i64 aA) (.int .i64 aB) (.slice p1 n cp1) (.int .i64 free) (.int .i64 step) (.int .i64 aE) (.int .i64 aF) (.int .i64 aC) (.int .i64 aG) (.slice q1 m cq1)))
    generalize hwz:World.setCell _ _ _=wz
    rw[hwz]at M4
    clear hwz M3
    obtain⟨y0,y1,y2,y3,y4,y5,y6,y7,y8,y9⟩:=(M4.out.blk (i:=4) rfl).ten
    exact bodyPost_ret (v:= .tuple #[.agg #[aA,aB,.slice p1 n cp1,free,step,aE,aF,aC,aG,.slice q1 m cq1],amt,.bool false]) (by simp[results,Tryz.results73,go_sem, *]) rfl (by first|exact .inl ⟨p1,cp1,q1,cq1,amt,rfl,hno.out,M4.out.ext⟩|(have hno2:=hno.out;simp at hno2;first|exact .inl ⟨p1,cp1,q1,cq1,amt,rfl,hno2,M4.out.ext⟩|exact .inl ⟨p1,cp1,q1,cq1,amt,rfl,by omega,M4.out.ext⟩|exact .inl ⟨⟨p1,cp1,q1,cq1,amt,rfl⟩,hno2,M4.out.ext⟩|exact .inl ⟨⟨p1,cp1,q1,cq1,amt,rfl⟩,by omega,M4.out.ext⟩|exact .inl ⟨⟨p1,cp1,q1,cq1,amt,rfl⟩,M4.out.ext⟩|exact⟨⟨p1,cp1,q1,cq1,amt,rfl⟩,M4.out.ext⟩))
end Go.Proofs.YtgnkoffndhmhpaaGreatDoor
namespace Go.Proofs.YtgnkoffndhmhpaaGreatDoor
open Go.RowKit
set_option linter.unusedVariables false
set_option linter.unusedSimpArgs false
theorem vL {f s p c i pd a now amt:Int}(hD:0≤bT f s p c i pd a now)(h:(fN f s p c i pd a now amt).2.2=true):0≤(fN f s p c i pd a now amt).2.1∧(fN f s p c i pd a now amt).2.1≤amt∧amt≤300:=by
 unfold fN at h⊢
 split at h
 ·rename_i h1
  rw[if_pos h1]
  split at h
  ·cases h
  ·rename_i h2
   rw[if_neg h2]
   dsimp only
   omega
 ·cases h
def nH (h:aT)(id amt:Int):Option (aT×Int):=
 match eN id h.vs with
 |none=>none
 |some v=>if(fN h.free h.step h.aE h.aF v.2.1 v.2.2.1 v.2.2.2 h.aC amt).2.2=true∧h.aG+amt-(fN h.free h.step h.aE h.aF v.2.1 v.2.2.1 v.2.2.2 h.aC amt).2.1≤99999 then
   some ({h with aG:=h.aG+amt-(fN h.free h.step h.aE h.aF v.2.1 v.2.2.1 v.2.2.2 h.aC amt).2.1,vs:=h.vs.set (vix id h.vs).toNat (id,(fN h.free h.step h.aE h.aF v.2.1 v.2.2.1 v.2.2.2 h.aC amt).1)},(fN h.free h.step h.aE h.aF v.2.1 v.2.2.1 v.2.2.2 h.aC amt).2.1)
  else none
def aHk (h:aT)(r:Option (aT×Int))(w:World)(e:Ending)(w':World):Prop:=
 match r with
 |none=> ∃p cap q c2 b,e= .returned (.tuple #[bS h p h.cells.length cap q h.vs.length c2,b,.bool false])∧Ext w w'
 |some (h',b)=> ∃p cap q c2,e= .returned (.tuple #[bS h' p h'.cells.length cap q h'.vs.length c2,b,.bool true])∧w'.ownsRow w.heap.size TI 1 (.slice p h'.cells.length cap) h'.cells.length (ivs h'.cells)∧w'.ownsRow w.heap.size TV 4 (.slice q h'.vs.length c2) h'.vs.length (h'.vs.flatMap aD)∧Ext w w'
theorem aDv (h:aT)(id amt:Int)(p:OA)(n cap:Nat)(q:OA)(m c2:Nat)(w:World)(hn:n≤1000)(hm:m≤1000)(hi:IsHouse w h p n cap q m c2)
  (ht:bH h.free h.step h.aE h.aF=true)(hvs: ∀v∈h.vs,cP v.2.1 v.2.2.1 v.2.2.2=true∧v.2.2.2≤h.aC)(hc:h.aC≤9999)(hb0:0≤h.aG)(hb:h.aG≤99999):
  Calls Tryz.prog 73 #[bS h p n cap q m c2,id,amt] w (aHk h (nH h id amt) w):=by
 have hl:=hi.clen
 have hvl:=hi.vlen
 have HL:=fun(w':World) (hx:Ext w w')=>nN h p n cap q m c2 w' hn hm (hi.ext hx)
 have HF:=fun(w':World) (hx:Ext w w')=>nM h.aA h.aB h.free h.step h.aE h.aF h.aC h.aG id p n cap q m c2 h.vs w' (hi.vs.ext hx)
 unfold RetHouse at HL
 subst hl hvl
 rcases kL id h.vs with⟨h1,h2⟩|⟨k,a1,a2,a3,hk,h1,hx,h2⟩
 ·rw[h1]at HF
  have hr:nH h id amt=none:=by unfold nH;rw[h2]
  rw[hr]
  refine(uZ h.aA h.aB h.free h.step h.aE h.aF h.aC h.aG id amt p _ cap q _ c2 h.cells h.vs w HL HF).mono ?_
  rintro e w' ⟨p',cap',q',c2',b,rfl,hE⟩
  exact⟨p',cap',q',c2',b,rfl,hE⟩
 ·rw[h1]at HF
  obtain⟨b,off,x0,x1,x2,x3,rfl,hx',hbl,_,g1,g2,g3⟩:=dP hi.vs hk
  rw[hx]at hx'
  injection hx' with hx'
  simp only[Prod.mk.injEq]at hx'
  obtain⟨_,rfl,rfl,rfl⟩:=hx'
  obtain⟨s1,s2⟩:=hvs _ (List.mem_of_getElem? hx)
  dsimp only at s1 s2
  have hD:=(jH ht s1 s2 hc).1
  have HP:=fun(w':World)=>yA h.free h.step h.aE h.aF a1 a2 a3 h.aC amt w' ht s1 s2 hc
  have hok:=vL (amt:=amt) hD
  have hr:nH h id amt=if(fN h.free h.step h.aE h.aF a1 a2 a3 h.aC amt).2.2=true∧h.aG+amt-(fN h.free h.step h.aE h.aF a1 a2 a3 h.aC amt).2.1≤99999 then some ({h with aG:=h.aG+amt-(fN h.free h.step h.aE h.aF a1 a2 a3 h.aC amt).2.1,vs:=h.vs.set k (id,(fN h.free h.step h.aE h.aF a1 a2 a3 h.aC amt).1)},(fN h.free h.step h.aE h.aF a1 a2 a3 h.aC amt).2.1)else none:=by
   unfold nH
   rw[h2,h1]
   rfl
  rw[hr]
  generalize fN h.free h.step h.aE h.aF a1 a2 a3 h.aC amt=r at*
  obtain⟨⟨S1,S2,S3⟩,bk,okb⟩:=r
  dsimp only at HP hok⊢
  refine(aD8 h.aA h.aB h.free h.step h.aE h.aF h.aC h.aG id amt p _ cap b off _ c2 k h.cells h.vs id a1 a2 a3 S1 S2 S3 bk okb w hk hm hbl hb0 hb hok hx g1 g2 g3 HL HF HP).mono ?_
  rintro e w' (⟨p',cap',q',c2',b',rfl,hno,hE⟩|⟨rfl,hle,p',cap',q',c2',rfl,ho1,ho2,hE⟩)
  ·rw[if_neg hno]
   exact⟨p',cap',q',c2',b',rfl,hE⟩
  ·rw[if_pos ⟨rfl,hle⟩]
   refine⟨p',cap',q',c2',?_,ho1,?_,hE⟩
   ·simp[bS]
   ·simpa using ho2
theorem mC {xs ys:List Int}(h:List.Perm xs ys):cZ xs=cZ ys:=
 kV ((iJ _).trans (h.filter _)) (iY _)
theorem uS (aC:Int): ∀(cs:List Int) (vs:List aQ),bU aC cs vs=true↔vs.map (·.1)=cs∧ ∀v∈vs,eM aC v=true:=by
 intro cs
 induction cs with
 |nil=>intro vs;cases vs<;>simp[bU]
 |cons c cs ih=>
  intro vs
  cases vs with
  |nil=>simp[bU]
  |cons v vs=>
   simp only[bU,Bool.and_eq_true,decide_eq_true_eq,ih,List.map_cons,List.cons.injEq,List.forall_mem_cons]
   constructor
   ·rintro⟨⟨a,b⟩,c,d⟩;exact⟨⟨a,c⟩,b,d⟩
   ·rintro⟨⟨a,c⟩,b,d⟩;exact⟨⟨a,b⟩,c,d⟩
theorem fP (h:aT):bK h=true↔aP h.aA h.aB h.cells=true∧bH h.free h.step h.aE h.aF=true∧(0≤h.aC∧h.aC≤9999∧0≤h.aG∧h.aG≤99999)∧h.vs.map (·.1)=cZ h.cells∧ ∀v∈h.vs,eM h.aC v=true:=by
 unfold bK iV
 simp only[Bool.and_eq_true,decide_eq_true_eq,uS]
 constructor
 ·rintro⟨⟨⟨a,b⟩,c⟩,d,e⟩;exact⟨a,b,c,d,e⟩
 ·rintro⟨a,b,c,d,e⟩;exact⟨⟨⟨a,b⟩,c⟩,d,e⟩
theorem iH (aC:Int)(v:aQ):eM aC v=true↔cP v.2.1 v.2.2.1 v.2.2.2=true∧v.2.2.2≤aC:=by
 unfold eM;simp
theorem rM (v:aQ): ∀vs:List aQ,(iZ v vs).map (·.1)=jL v.1 (vs.map (·.1))
 | []=>rfl
 |u::vs=>by
  by_cases hc:u.1<v.1
  ·have e:iZ v (u::vs)=u::iZ v vs:=by simp[iZ,hc]
   rw[e,List.map_cons,rM v vs,List.map_cons];simp[jL,hc]
  ·have e:iZ v (u::vs)=v::u::vs:=by simp[iZ,hc]
   rw[e];simp[jL,hc]
theorem aFz (v:aQ)(vs:List aQ): ∀u∈iZ v vs,u=v∨u∈vs:=by
 intro u hu
 unfold iZ at hu
 rcases List.mem_append.1 hu with h|h
 ·exact .inr ((List.takeWhile_sublist _).subset h)
 ·rcases List.mem_cons.1 h with h|h
  ·exact .inl h
  ·exact .inr ((List.dropWhile_sublist _).subset h)
theorem nZ (v:aQ)(vs:List aQ):(iZ v vs).length=vs.length+1:=by
 have:=congrArg List.length (rM v vs)
 rw[(kP _ _).length_eq]at this
 simpa using this
theorem aHf {zs:List Int}{id:Int}(h0:zs.getD 0 0=0)(hl:0<zs.length)(hi:1≤id):cZ (zs.set 0 id)=jL id (cZ zs):=by
 cases zs with
 |nil=>simp at hl
 |cons z t=>
  obtain rfl:z=0:=by simpa using h0
  symm
  refine kV ?_ (qF _ _ (iY _))
  have e:dA ((0::t).set 0 id)=id::dA (0::t):=by
   unfold dA
   rw[List.set_cons_zero,List.filter_cons_of_pos (by simp;omega),List.filter_cons_of_neg (by simp)]
  rw[e]
  exact(kP _ _).trans (List.Perm.cons _ (iJ _))
theorem aEn {zs:List Int}{id:Int}(h0:zs[0]? =some id) (hi:1≤id):cZ (zs.set 0 0)=(cZ zs).erase id:=by
 cases zs with
 |nil=>simp at h0
 |cons z t=>
  obtain rfl:z=id:=by simpa using h0
  symm
  refine kV ?_ ((iY _).sublist List.erase_sublist)
  have e:dA (z::t)=z::dA ((z::t).set 0 0):=by
   unfold dA
   rw[List.set_cons_zero,List.filter_cons_of_pos (by simp;omega),List.filter_cons_of_neg (by simp)]
  have hp:=(iJ (dA (z::t))).erase z
  rw[e,List.erase_cons_head,←e]at hp
  exact hp
theorem sJ (id:Int): ∀vs:List aQ,vs.any (fun v=>v.1==id)=true→(vs.eraseIdx (vs.findIdx (fun v=>v.1==id))).map (·.1)=(vs.map (·.1)).erase id
 | [],h=>by simp at h
 |v::vs,h=>by
  by_cases hv:v.1=id
  ·have e:(v::vs).findIdx (fun v=>v.1==id)=0:=by simp[List.findIdx_cons,hv]
   rw[e,List.map_cons,hv,List.erase_cons_head];rfl
  ·have hb:(v.1==id)=false:=by simpa using hv
   have e:(v::vs).findIdx (fun v=>v.1==id)=vs.findIdx (fun v=>v.1==id)+1:=by simp[List.findIdx_cons,hb]
   have h':vs.any (fun v=>v.1==id)=true:=by simpa[hv]using h
   rw[e,List.eraseIdx_cons_succ,List.map_cons,sJ id vs h',List.map_cons,List.erase_cons_tail (by simpa using hv)]
theorem jU {id:Int}{vs:List aQ}{v:aQ}(h:eN id vs=some v):vs.any (fun v=>v.1==id)=true∧v.1=id∧vs[(vix id vs).toNat]? =some v∧(vix id vs).toNat<vs.length∧vix id vs=((vix id vs).toNat:Int)∧(vix id vs).toNat=vs.findIdx (fun v=>v.1==id):=by
 have ha:vs.any (fun v=>v.1==id)=true:=by
  unfold eN at h
  exact List.any_eq_true.2 ⟨v,List.mem_of_find?_eq_some h,by simpa using List.find?_some h⟩
 rcases kL id vs with⟨h1,h2⟩|⟨k,a1,a2,a3,hk,h1,hx,h2⟩
 ·rw[h2]at h;cases h
 ·rw[h2]at h
  injection h with h
  subst h
  have e:vix id vs=(vs.findIdx (fun v=>v.1==id):Int):=by unfold vix;rw[if_pos ha]
  refine⟨ha,rfl,by rw[h1];simpa using hx,by rw[h1];simpa using hk,by rw[h1];simp,by rw[e];simp⟩
theorem aFq {α:Type}{l:List α}{k:Nat}{a:α}(h:l[k]? =some a):l.set k a=l:=by
 refine List.ext_getElem? (fun i=> ?_)
 rw[List.getElem?_set]
 split
 ·rename_i e
  subst e
  split
  ·exact h.symm
  ·rename_i hl
   rw[List.getElem?_eq_none (by omega)]at h;cases h
 ·rfl
theorem aFt {vs:List aQ}{k:Nat}{u:aQ}(s:Int×Int×Int)(hk:vs[k]? =some u):(vs.set k (u.1,s)).map (·.1)=vs.map (·.1):=by
 rw[List.map_set]
 exact aFq (by rw[List.getElem?_map,hk];rfl)
def cG (h:aT)(k a b:Int):Option (aT×Int):=
 if k=0 then
  (if 0≤(bZ h.aA h.aB h.cells a).2 then some ({h with cells:=(bZ h.aA h.aB h.cells a).1,vs:=iZ (a,h.aC,0,h.aC) h.vs},(bZ h.aA h.aB h.cells a).2)else none)
 else if k=1 then nH h a b
 else if k=2 then
  (if eC h a=true∧0≤(bQ h.aA h.aB h.cells a).2 then some ({h with cells:=(bQ h.aA h.aB h.cells a).1,vs:=h.vs.eraseIdx (vix a h.vs).toNat},(bQ h.aA h.aB h.cells a).2)else none)
 else if k=3 then(if 1≤a∧a≤9999-h.aC then some ({h with aC:=h.aC+a},h.aC+a)else none)
 else if k=4 then(if bC h.aA h.aB h.cells a b=true then some ({h with cells:=bE h.aA h.aB h.cells a b},0)else none)
 else none
theorem nF {aA aB:Int}{xs:List Int}{id:Int}(hok:aP aA aB xs=true)(h:0≤(bZ aA aB xs id).2):
  ∃zs,List.Perm zs xs∧zs.getD 0 0=0∧1≤id∧(bZ aA aB xs id).1=zs.set 0 id∧aP aA aB (zs.set 0 id)=true∧(bZ aA aB xs id).2≤5:=by
 unfold bZ jV at h⊢
 cases hr:fQ aA xs with
 |none=>rw[hr]at h;simp at h
 |some r=>
  rw[hr]at h
  obtain⟨f1,f2,f3,f4,f5⟩:=mB hok hr
  have hp:=(lP r.2 xs hok).2.2
  rw[f1]at hp
  unfold cM at h⊢
  by_cases hc:r.1.getD 0 0=0∧1≤id∧aP aA aB (r.1.set 0 id)=true
  ·simp only[hc,and_self,if_true]at h⊢
   exact⟨r.1,hp,hc.1,trivial,rfl,hc.2.2,by omega⟩
  ·simp only[if_neg hc]at h
   simp at h
theorem lD {aA aB:Int}{xs:List Int}{id:Int}(hok:aP aA aB xs=true)(h:0≤(bQ aA aB xs id).2):
  ∃ys,List.Perm ys xs∧ys[0]? =some id∧1≤id∧(bQ aA aB xs id).1=ys.set 0 0∧(bQ aA aB xs id).2≤60:=by
 unfold bQ kF at h⊢
 by_cases hc:id<1∨id∉xs
 ·rw[if_pos hc]at h;simp at h
 ·rw[if_neg hc]at h⊢
  have hm:id∈xs:=by
   by_cases hm:id∈xs
   ·exact hm
   ·exact absurd (.inr hm) hc
  have h1: ¬id<1:=fun e=>hc (.inl e)
  obtain⟨c,hx,hi⟩:=rZ hm
  rw[hi]at h⊢
  rw[Int.toNat_natCast]at h⊢
  cases hb:dD aA xs c with
  |none=>rw[hb]at h;simp at h
  |some l=>
   rw[hb]at h
   obtain⟨g1,ys,g2,g3,g4,g5⟩:=(mD hok hx (by omega)).2 l hb
   have hp:=(lP l xs hok).2.2
   rw[g2]at hp
   refine⟨ys,hp,g5,by omega,?_,?_⟩
   ·simp[g2]
   ·simp;omega
theorem zL {aA aB:Int}{xs:List Int}(h:aP aA aB xs=true):aP aA aB (xs.set 0 0)=true:=by
 unfold aP at*
 rw[Bool.and_eq_true]at*
 refine⟨by rw[List.length_set];exact h.1,?_⟩
 obtain⟨h1,h2,h3⟩:=(eI _ _).1 h.2
 refine(eI _ _).2 ⟨fun x hx=> ?_,fun x hx=>by simp,?_⟩
 ·rcases List.mem_or_eq_of_mem_set hx with hx|rfl
  ·exact h1 x hx
  ·omega
 ·cases xs with
  |nil=>simp
  |cons x t=>
   rw[List.set_cons_zero,List.filter_cons_of_neg (by simp)]
   refine h3.sublist ?_
   rw[List.filter_cons]
   split
   ·exact List.sublist_cons_self _ _
   ·exact List.Sublist.refl _
theorem aH2 {f s p c i pd a now:Int}(h:bH f s p c=true)(hi:0≤i)(h3:i≤now)(h4:now≤9999):0≤kQ f s p c (now-i)∧kQ f s p c (now-i)≤693:=by
 have hb:=lY (m:=now-i) h (by omega) (by omega)
 omega
theorem sD {h:aT}(hok:bK h=true){k a b:Int}{h':aT}{n:Int}(hd:cG h k a b=some (h',n)):
  bK h'=true∧(0≤n∧n≤9999)∧h'.cells.length=h.cells.length∧h'.aA=h.aA∧h'.aB=h.aB∧h'.free=h.free∧h'.step=h.step∧h'.aE=h.aE∧h'.aF=h.aF:=by
 obtain⟨q1,q2,q3,q4,q5⟩:=(fP h).1 hok
 have hlen:0<h.cells.length:=by have:=bR (cF q1);omega
 unfold cG at hd
 split at hd
 ·split at hd
  ·rename_i h0
   obtain⟨zs,s1,s2,s3,s4,s5,s6⟩:=nF q1 h0
   injection hd with hd
   simp only[Prod.mk.injEq]at hd
   obtain⟨rfl,rfl⟩:=hd
   rw[s4]
   refine⟨(fP _).2 ⟨s5,q2,q3,?_,?_⟩,⟨h0,by omega⟩,by rw[List.length_set,s1.length_eq],rfl,rfl,rfl,rfl,rfl,rfl⟩
   ·dsimp only
    rw[rM,aHf s2 (by rw[s1.length_eq];exact hlen) s3,q4,mC s1]
   ·intro v hv
    rcases aFz _ _ v hv with rfl|hv
    ·exact(iH _ _).2 ⟨by simp[cP];omega,Int.le_refl _⟩
    ·exact q5 v hv
  ·cases hd
 ·split at hd
  ·unfold nH at hd
   split at hd
   ·cases hd
   ·rename_i v hv
    obtain⟨v1,v2,v3,v4,v5,v6⟩:=jU hv
    obtain⟨s1,s2⟩:=(iH _ _).1 (q5 v (List.mem_of_getElem? v3))
    obtain⟨b1,b2⟩:=jH q2 s1 s2 q3.2.1
    obtain⟨t1,t2,t3,t4,t5,t6⟩:=eS s1
    split at hd
    ·rename_i hp
     have hpo:=vL b1 hp.1
     injection hd with hd
     simp only[Prod.mk.injEq]at hd
     obtain⟨rfl,rfl⟩:=hd
     refine⟨(fP _).2 ⟨q1,q2,⟨q3.1,q3.2.1,?_,hp.2⟩,?_,?_⟩,⟨hpo.1,by omega⟩,rfl,rfl,rfl,rfl,rfl,rfl,rfl⟩
     ·dsimp only;omega
     ·dsimp only
      rw[←q4,←v2]
      rw[←v2]at v3
      exact aFt _ v3
     ·intro u hu
      rcases List.mem_or_eq_of_mem_set hu with hu|rfl
      ·exact q5 u hu
      ·refine(iH _ _).2 ?_
       have hf:=aH2 (pd:=v.2.2.1) (a:=v.2.2.2) (now:=h.aC) q2 t1 (by omega) q3.2.1
       have hdue:bT h.free h.step h.aE h.aF v.2.1 v.2.2.1 v.2.2.2 h.aC=max (kQ h.free h.step h.aE h.aF (h.aC-v.2.1)-v.2.2.1) 0:=by
        unfold bT;rw[if_pos (by simp[q2,s1,s2,q3.2.1])]
       have hp1:=hp.1
       unfold fN at hp1⊢
       split at hp1
       ·rename_i ha
        rw[if_pos ha]
        split at hp1
        ·cases hp1
        ·rename_i hn
         rw[if_neg hn]
         dsimp only
         refine⟨?_,by omega⟩
         unfold cP
         simp only[decide_eq_true_eq]
         omega
       ·cases hp1
    ·cases hd
  ·split at hd
   ·split at hd
    ·rename_i hm
     obtain⟨ys,s1,s2,s3,s4,s5⟩:=lD q1 hm.2
     injection hd with hd
     simp only[Prod.mk.injEq]at hd
     obtain⟨rfl,rfl⟩:=hd
     rw[s4]
     refine⟨(fP _).2 ⟨zL (qH q1 s1),q2,q3,?_,?_⟩,⟨hm.2,by omega⟩,by rw[List.length_set,s1.length_eq],rfl,rfl,rfl,rfl,rfl,rfl⟩
     ·dsimp only
      have hv: ∃v,eN a h.vs=some v:=by
       have:=hm.1
       unfold eC dB at this
       rw[if_pos hok]at this
       cases hv:eN a h.vs with
       |none=>rw[hv]at this;simp at this
       |some v=>exact⟨v,rfl⟩
      obtain⟨v,hv⟩:=hv
      obtain⟨v1,v2,v3,v4,v5,v6⟩:=jU hv
      rw[v6,sJ a h.vs v1,aEn s2 s3,q4,mC s1]
     ·intro v hv
      exact q5 v (List.mem_of_mem_eraseIdx hv)
    ·cases hd
   ·split at hd
    ·split at hd
     ·rename_i hw
      injection hd with hd
      simp only[Prod.mk.injEq]at hd
      obtain⟨rfl,rfl⟩:=hd
      refine⟨(fP _).2 ⟨q1,q2,⟨by dsimp only;omega,by dsimp only;omega,q3.2.2⟩,q4,fun v hv=> ?_⟩,⟨by omega,by omega⟩,rfl,rfl,rfl,rfl,rfl,rfl,rfl⟩
      obtain⟨s1,s2⟩:=(iH _ _).1 (q5 v hv)
      exact(iH _ _).2 ⟨s1,by dsimp only;omega⟩
     ·cases hd
    ·split at hd
     ·split at hd
      ·injection hd with hd
       simp only[Prod.mk.injEq]at hd
       obtain⟨rfl,rfl⟩:=hd
       refine⟨(fP _).2 ⟨fZ a b q1,q2,q3,?_,q5⟩,⟨by omega,by omega⟩,cN _ _ _ _ _,rfl,rfl,rfl,rfl,rfl,rfl⟩
       dsimp only
       rw[q4,mC (kX a b)]
      ·cases hd
     ·cases hd
end Go.Proofs.YtgnkoffndhmhpaaGreatDoor
