/-
  Texts of this proof, packed (@packed).
-/
import Derived.Test.YtahglfakiobbcaaGreatDoorK11
import Derived.Test.YtahglfakiobbcaaGreatDoorK31
namespace Go.Proofs.YtahglfakiobbcaaGreatDoor
open Go.RowKit
set_option linter.unusedVariables false
set_option linter.unusedSimpArgs false
section
variable {w0 w w':World} {L:List Item}
theorem Mem.own2 {b n c sz n2 c2 sz2:Nat}{e e2:TypeId}{q q2:Option Addr}{xs xs2:List Value}(h:Mem w0 w L)(hx:Ext w w')(ho1:w'.ownsRow b e sz (.slice q n c) n xs)(ho2:w'.ownsRow b e2 sz2 (.slice q2 n2 c2) n2 xs2)(hb:w.heap.size≤b)(ht:e≠e2):
  Mem w0 w' (aJ w0.heap.size e sz q n c xs::aJ w0.heap.size e2 sz2 q2 n2 c2 xs2::L):=by
 refine(h.ownNew hx ho2 hb).cons (gS _ _ _ _ _ _ _) (gD ho1 (Nat.le_trans h.ext.sz hb)) (fun g' hg' j hj e'=> ?_)
 replace hg':(Value.slice q n c).ownBlock=Option.some g':=hg'
 have h1:=(World.ownsRow.lt ho1 g' hg').1
 rcases List.mem_cons.1 hj with rfl|hj
 ·replace e':(Value.slice q2 n2 c2).ownBlock=Option.some g':=e'
  rcases ho1.2 with⟨h2,_⟩|⟨g2,cap',cur,h2,_,h3,_⟩
  ·rw[h2]at hg';cases hg'
  ·rcases ho2.2 with⟨k2,_⟩|⟨g3,cap3,cur3,k2,_,k3,_⟩
   ·rw[k2]at e';cases e'
   ·rw[h2]at hg';rw[k2]at e'
    injection hg' with hg';injection e' with e'
    have hg'':g2=g':=hg'
    have he'':g3=g':=e'
    subst hg'';subst he''
    rw[h3]at k3
    injection k3 with k3;injection k3 with _ k3
    exact ht k3
 ·have h2:=((h.good j hj).lt w (h.ok j hj) g' e').2
  omega
end
set_option maxRecDepth 100000 in
set_option maxHeartbeats 8000000 in
theorem tI (aA aB free step aE aG aD aH id amt:Int)(p:Option Addr)(n cap:Nat)(q:Option Addr)(m c2:Nat)(xs:List Int)(vs:List aQ)(w:World)
  (HL:Hid (∀w',Ext w w'→Calls Tryz.prog 28 #[.agg #[.int .i64 aA,.int .i64 aB,.slice p n cap,.int .i64 free,.int .i64 step,.int .i64 aE,.int .i64 aG,.int .i64 aD,.int .i64 aH,.slice q m c2]] w' fun e w''=> ∃p' cap' q' c2',e= .returned (.agg #[.int .i64 aA,.int .i64 aB,.slice p' n cap',.int .i64 free,.int .i64 step,.int .i64 aE,.int .i64 aG,.int .i64 aD,.int .i64 aH,.slice q' m c2'])∧w''.ownsRow w'.heap.size TI 1 (.slice p' n cap') n (ivs xs)∧w''.ownsRow w'.heap.size TV 4 (.slice q' m c2') m (vs.flatMap aC)∧Ext w' w''))
  (HF:Hid (∀w',Ext w w'→Calls Tryz.prog 33 #[.agg #[.int .i64 aA,.int .i64 aB,.slice p n cap,.int .i64 free,.int .i64 step,.int .i64 aE,.int .i64 aG,.int .i64 aD,.int .i64 aH,.slice q m c2],.int .i64 id] w' fun e w''=>e= .returned (.int .i64 (-1))∧Ext w' w'')):
  Calls Tryz.prog 31 #[.agg #[.int .i64 aA,.int .i64 aB,.slice p n cap,.int .i64 free,.int .i64 step,.int .i64 aE,.int .i64 aG,.int .i64 aD,.int .i64 aH,.slice q m c2],.int .i64 id,.int .i64 amt] w fun e w'=> ∃p' cap' q' c2' b,e= .returned (.tuple #[.agg #[.int .i64 aA,.int .i64 aB,.slice p' n cap',.int .i64 free,.int .i64 step,.int .i64 aE,.int .i64 aG,.int .i64 aD,.int .i64 aH,.slice q' m c2'],.int .i64 b,.bool false])∧Ext w w':=by
 go_enter Tryz.func31,Tryz.ntmps31
 go_wp2_with fail
 refine(HL.out _ (Mem.b2 w).ext).mono ?_
 rintro e w1 ⟨p1,cp1,q1,cq1,rfl,ho1,hq1,hx1⟩
 have M1:=xQ ((((((Mem.start w).blkNew aO #[.int .i64 aA,.int .i64 aB,.slice p n cap,.int .i64 free,.int .i64 step,.int .i64 aE,.int .i64 aG,.int .i64 aD,.int .i64 aH,.slice q m c2] (w.heap.size) (by simp))).blkNew aO #[.int .i64 0,.int .i64 0,.slice none 0 0,.int .i64 0,.int .i64 0,.int .i64 0,.int .i64 0,.int .i64 0,.int .i64 0,.slice none 0 0] (w.heap.size+1) (by simp))).own2 hx1 ho1 hq1 (Nat.le_refl _) (by decide))
 have lt1_2:=M1.out.hi 2
 have lt1_3:=M1.out.hi 3
 clear hx1 ho1 hq1 HL
 obtain⟨ce0,ce1,ce2,ce3,ce4,ce5,ce6,ce7,ce8,ce9⟩:=(M1.out.blk (i:=3) rfl).ten
 go_wp2_with fail
 clear ce0 ce1 ce2 ce3 ce4 ce5 ce6 ce7 ce8 ce9
 refine(HF.out _ (((M1.out).blkNew aO #[.int .i64 aA,.int .i64 aB,.slice p1 n cp1,.int .i64 free,.int .i64 step,.int .i64 aE,.int .i64 aG,.int .i64 aD,.int .i64 aH,.slice q1 m cq1] (w1.heap.size) (by simp))).ext).mono ?_
 rintro e w2 ⟨rfl,hx2⟩
 have M2:=xQ ((((M1.out).blkNew aO #[.int .i64 aA,.int .i64 aB,.slice p1 n cp1,.int .i64 free,.int .i64 step,.int .i64 aE,.int .i64 aG,.int .i64 aD,.int .i64 aH,.slice q1 m cq1] (w1.heap.size) (by simp))).adv hx2)
 clear M1
 clear lt1_2 lt1_3
 have lt2_0:=M2.out.hi 0
 have lt2_3:=M2.out.hi 3
 have lt2_4:=M2.out.hi 4
 clear hx2
 clear HF
 obtain⟨d0,d1,d2,d3,d4,d5,d6,d7,d8,d9⟩:=(M2.out.blk (i:=0) rfl).ten
 obtain⟨f0,ff0,f1,ff1,f2,ff2,f3,ff3,f4,ff4,f5,ff5,f6,ff6,f7,ff7,f8,ff8,f9,ff9⟩:=(M2.out.blk (i:=3) rfl).tenf
 have ne0_1a: ¬(w1.heap.size=w.heap.size+1):=M2.out.ne (i:=0) (j:=3) (by omega) rfl rfl rfl rfl
 have ne0_1b: ¬(w.heap.size+1=w1.heap.size):=fun h=>ne0_1a h.symm
 go_wp2
 clear d0 d1 d2 d3 d4 d5 d6 d7 d8 d9 f0 ff0 f1 ff1 f2 ff2 f3 ff3 f4 ff4 f5 ff5 f6 ff6 f7 ff7 f8 ff8 f9 ff9 ne0_1a ne0_1b lt2_0 lt2_3 lt2_4
 have M3:=xQ (((M2.out).put10 (i:=3) rfl (.int .i64 aA) (.int .i64 aB) (.slice p1 n cp1) (.int .i64 free) (.int .i64 step) (.int .i64 aE) (.int .i64 aG) (.int .i64 aD) (.int .i64 aH) (.slice q1 m cq1)))
 generalize hwz:World.setCell _ _ _=wz
 rw[hwz]at M3
 clear hwz M2
 obtain⟨y0,y1,y2,y3,y4,y5,y6,y7,y8,y9⟩:=(M3.out.blk (i:=3) rfl).ten
 exact bodyPost_ret (v:= .tuple #[.agg #[.int .i64 aA,.int .i64 aB,.slice p1 n cp1,.int .i64 free,.int .i64 step,.int .i64 aE,.int .i64 aG,.int .i64 aD,.int .i64 aH,.slice q1 m cq1],.int .i64 amt,.bool false]) (by simp[results,Tryz.results31,go_sem, *]) rfl ⟨p1,cp1,q1,cq1,amt,rfl,M3.out.ext⟩
theorem rW {vs:List aQ}{k:Nat}{a0 a1 a2 a3:Int}(h:vs[k]? =some (a0,a1,a2,a3)) (S1 S2 S3:Int):
  (((vs.flatMap aC).set (k*4+1) (.int .i64 S1)).set (k*4+2) (.int .i64 S2)).set (k*4+3) (.int .i64 S3)=(vs.set k (a0,S1,S2,S3)).flatMap aC:=by
 induction vs generalizing k with
 |nil=>simp at h
 |cons v vs ih=>
  cases k with
  |zero=>
   simp at h
   subst h
   simp[aC]
  |succ k=>
   have h':vs[k]? =some (a0,a1,a2,a3):=by simpa using h
   rw[List.set_cons_succ,List.flatMap_cons,List.flatMap_cons,←ih h']
   simp only[aC,List.cons_append,List.nil_append]
   rw[show(k+1)*4+1=(k*4+1)+1+1+1+1 by omega,show(k+1)*4+2=(k*4+2)+1+1+1+1 by omega,show(k+1)*4+3=(k*4+3)+1+1+1+1 by omega]
   simp only[List.set_cons_succ]
set_option maxRecDepth 100000 in
set_option maxHeartbeats 8000000 in
theorem aB5 (aA aB free step aE aG aD aH id amt:Int)(p:Option Addr)(n cap b off m c2 k:Nat)(xs:List Int)(vs:List aQ)(a0 a1 a2 a3 S1 S2 S3 bk:Int)(okb:Bool)(w:World)(hk:k<m)(hm:m≤1000)(hb:b<w.heap.size)(hbn:0≤aH)(hbn2:aH≤99999)(hok:okb=true→0≤bk∧bk≤amt∧amt≤300)(HV0:Hid (vs[k]? =some (a0,a1,a2,a3)))
  (g1:w.cell? ⟨b,off+k*4+1,none⟩=some (.int .i64 a1)) (g2:w.cell? ⟨b,off+k*4+2,none⟩=some (.int .i64 a2)) (g3:w.cell? ⟨b,off+k*4+3,none⟩=some (.int .i64 a3))
  (HL:Hid (∀w',Ext w w'→Calls Tryz.prog 28 #[.agg #[.int .i64 aA,.int .i64 aB,.slice p n cap,.int .i64 free,.int .i64 step,.int .i64 aE,.int .i64 aG,.int .i64 aD,.int .i64 aH,.slice (some ⟨b,off,none⟩) m c2]] w' fun e w''=> ∃p' cap' q' c2',e= .returned (.agg #[.int .i64 aA,.int .i64 aB,.slice p' n cap',.int .i64 free,.int .i64 step,.int .i64 aE,.int .i64 aG,.int .i64 aD,.int .i64 aH,.slice q' m c2'])∧w''.ownsRow w'.heap.size TI 1 (.slice p' n cap') n (ivs xs)∧w''.ownsRow w'.heap.size TV 4 (.slice q' m c2') m (vs.flatMap aC)∧Ext w' w''))
  (HF:Hid (∀w',Ext w w'→Calls Tryz.prog 33 #[.agg #[.int .i64 aA,.int .i64 aB,.slice p n cap,.int .i64 free,.int .i64 step,.int .i64 aE,.int .i64 aG,.int .i64 aD,.int .i64 aH,.slice (some ⟨b,off,none⟩) m c2],.int .i64 id] w' fun e w''=>e= .returned (.int .i64 (k:Int))∧Ext w' w''))
  (HP:Hid (∀w',Calls Tryz.prog 65 #[aS free step aE aG,bK a1 a2 a3,.int .i64 aD,.int .i64 amt] w' fun e w''=>e= .returned (.tuple #[bK S1 S2 S3,.int .i64 bk,.bool okb])∧Ext w' w'')):
  Calls Tryz.prog 31 #[.agg #[.int .i64 aA,.int .i64 aB,.slice p n cap,.int .i64 free,.int .i64 step,.int .i64 aE,.int .i64 aG,.int .i64 aD,.int .i64 aH,.slice (some ⟨b,off,none⟩) m c2],.int .i64 id,.int .i64 amt] w fun e w'=>(∃p' cap' q' c2' b,e= .returned (.tuple #[.agg #[.int .i64 aA,.int .i64 aB,.slice p' n cap',.int .i64 free,.int .i64 step,.int .i64 aE,.int .i64 aG,.int .i64 aD,.int .i64 aH,.slice q' m c2'],.int .i64 b,.bool false])∧ ¬(okb=true∧aH+amt-bk≤99999)∧Ext w w')∨
   (okb=true∧aH+amt-bk≤99999∧ ∃p' cap' q' c2',e= .returned (.tuple #[.agg #[.int .i64 aA,.int .i64 aB,.slice p' n cap',.int .i64 free,.int .i64 step,.int .i64 aE,.int .i64 aG,.int .i64 aD,.int .i64 (aH+amt-bk),.slice q' m c2'],.int .i64 bk,.bool true])∧w'.ownsRow w.heap.size TI 1 (.slice p' n cap') n (ivs xs)∧w'.ownsRow w.heap.size TV 4 (.slice q' m c2') m ((vs.set k (a0,S1,S2,S3)).flatMap aC)∧Ext w w'):=by
 go_enter Tryz.func31,Tryz.ntmps31
 go_wp2_with fail
 refine(HL.out _ (Mem.b2 w).ext).mono ?_
 rintro e w1 ⟨p1,cp1,q1,cq1,rfl,ho1,hq1,hx1⟩
 have M1:=xQ ((((((Mem.start w).blkNew aO #[.int .i64 aA,.int .i64 aB,.slice p n cap,.int .i64 free,.int .i64 step,.int .i64 aE,.int .i64 aG,.int .i64 aD,.int .i64 aH,.slice (some ⟨b,off,none⟩) m c2] (w.heap.size) (by simp))).blkNew aO #[.int .i64 0,.int .i64 0,.slice none 0 0,.int .i64 0,.int .i64 0,.int .i64 0,.int .i64 0,.int .i64 0,.int .i64 0,.slice none 0 0] (w.heap.size+1) (by simp))).own2 hx1 ho1 hq1 (Nat.le_refl _) (by decide))
 have lt1_2:=M1.out.hi 2
 have lt1_3:=M1.out.hi 3
 clear hx1 ho1 hq1 HL
 obtain⟨ce0,ce1,ce2,ce3,ce4,ce5,ce6,ce7,ce8,ce9⟩:=(M1.out.blk (i:=3) rfl).ten
 go_wp2_with fail
 clear ce0 ce1 ce2 ce3 ce4 ce5 ce6 ce7 ce8 ce9
 refine(HF.out _ (((M1.out).blkNew aO #[.int .i64 aA,.int .i64 aB,.slice p1 n cp1,.int .i64 free,.int .i64 step,.int .i64 aE,.int .i64 aG,.int .i64 aD,.int .i64 aH,.slice q1 m cq1] (w1.heap.size) (by simp))).ext).mono ?_
 rintro e w2 ⟨rfl,hx2⟩
 have M2:=xQ ((((M1.out).blkNew aO #[.int .i64 aA,.int .i64 aB,.slice p1 n cp1,.int .i64 free,.int .i64 step,.int .i64 aE,.int .i64 aG,.int .i64 aD,.int .i64 aH,.slice q1 m cq1] (w1.heap.size) (by simp))).adv hx2)
 clear M1
 clear lt1_2 lt1_3
 have lt2_0:=M2.out.hi 0
 have lt2_3:=M2.out.hi 3
 have lt2_4:=M2.out.hi 4
 clear hx2
 clear HF
 obtain⟨ce0,ce1,ce2,ce3,ce4,ce5,ce6,ce7,ce8,ce9⟩:=(M2.out.blk (i:=4) rfl).ten
 have hX2:=M2.out.ext
 have g1':w2.cell? ⟨b,off+k*4+1,none⟩=some (.int .i64 a1):=(hX2.cells.1 _ _ hb).trans g1
 have g2':w2.cell? ⟨b,off+k*4+2,none⟩=some (.int .i64 a2):=(hX2.cells.1 _ _ hb).trans g2
 have g3':w2.cell? ⟨b,off+k*4+3,none⟩=some (.int .i64 a3):=(hX2.cells.1 _ _ hb).trans g3
 have hb2:b<w2.heap.size:=Nat.lt_of_lt_of_le hb hX2.sz
 clear hX2
 have i1:(0:Int)≤(k:Int):=by omega
 have i2:(k:Int)<(m:Int):=by omega
 have n1: ¬(w.heap.size=w2.heap.size):=by omega
 have n2: ¬(w2.heap.size=w.heap.size):=by omega
 have n3: ¬(b=w2.heap.size):=by omega
 have n4: ¬(w2.heap.size=b):=by omega
 go_upto_region 5 with fail
 go_cut [11,12,13] (fun s11 s12 s13 wx=> ∃a:Nat,s11= .pointer (some ⟨a,0,none⟩)∧s12= .int .i64 bk∧s13= .bool okb∧Ext w2 wx∧w2.heap.size≤a∧Blk wx a TS3 #[.int .i64 S1,.int .i64 S2,.int .i64 S3])
 case first=>
  go_region_held3 (fun w'=>w'.cell? ⟨w.heap.size,3,none⟩=some (.int .i64 free)∧w'.cell? ⟨w.heap.size,4,none⟩=some (.int .i64 step)∧w'.cell? ⟨w.heap.size,5,none⟩=some (.int .i64 aE)∧w'.cell? ⟨w.heap.size,6,none⟩=some (.int .i64 aG)∧w'.cell? ⟨w.heap.size,7,none⟩=some (.int .i64 aD)∧w'.cell? ⟨w.heap.size,9,none⟩=some (.slice (some ⟨b,off,none⟩) m c2)∧w'.cell? ⟨b,off+k*4+1,none⟩=some (.int .i64 a1)∧w'.cell? ⟨b,off+k*4+2,none⟩=some (.int .i64 a2)∧w'.cell? ⟨b,off+k*4+3,none⟩=some (.int .i64 a3))
   (first|(refine⟨?_,?_,?_,?_,?_,?_,?_,?_,?_⟩<;>assumption)|go_keep)
   ((go_at_call 65
     refine(HP.out _).mono ?_
     rintro e w5 ⟨rfl,hx5⟩
     have hy5:Ext w2 w5:=xE
     have gg3:w5.cell? ⟨w.heap.size,3,none⟩=some (.int .i64 free):=((M2.out.blk (i:=4) rfl).ext hy5).cell 3
     have gg4:w5.cell? ⟨w.heap.size,4,none⟩=some (.int .i64 step):=((M2.out.blk (i:=4) rfl).ext hy5).cell 4
     have gg5:w5.cell? ⟨w.heap.size,5,none⟩=some (.int .i64 aE):=((M2.out.blk (i:=4) rfl).ext hy5).cell 5
     have gg6:w5.cell? ⟨w.heap.size,6,none⟩=some (.int .i64 aG):=((M2.out.blk (i:=4) rfl).ext hy5).cell 6
     have gg7:w5.cell? ⟨w.heap.size,7,none⟩=some (.int .i64 aD):=((M2.out.blk (i:=4) rfl).ext hy5).cell 7
     have gg9:w5.cell? ⟨w.heap.size,9,none⟩=some (.slice (some ⟨b,off,none⟩) m c2):=((M2.out.blk (i:=4) rfl).ext hy5).cell 9
     have gv1:w5.cell? ⟨b,off+k*4+1,none⟩=some (.int .i64 a1):=(hy5.cells.1 _ _ hb2).trans g1'
     have gv2:w5.cell? ⟨b,off+k*4+2,none⟩=some (.int .i64 a2):=(hy5.cells.1 _ _ hb2).trans g2'
     have gv3:w5.cell? ⟨b,off+k*4+3,none⟩=some (.int .i64 a3):=(hy5.cells.1 _ _ hb2).trans g3'
     first
      |(have hz5:Ext (w2.alloc (.cells #[.int .i64 0,.int .i64 0,.int .i64 0] TS3)) w5:=hx5
        have BB:=(Blk.new w2 TS3 #[.int .i64 0,.int .i64 0,.int .i64 0]).ext hz5
        have zc0:w5.cell? ⟨w2.heap.size,0,none⟩=some (.int .i64 0):=BB.cell 0
        have zf0:w5.frozen? ⟨w2.heap.size,0,none⟩=false:=BB.frozen 0
        have zc1:w5.cell? ⟨w2.heap.size,1,none⟩=some (.int .i64 0):=BB.cell 1
        have zf1:w5.frozen? ⟨w2.heap.size,1,none⟩=false:=BB.frozen 1
        have zc2:w5.cell? ⟨w2.heap.size,2,none⟩=some (.int .i64 0):=BB.cell 2
        have zf2:w5.frozen? ⟨w2.heap.size,2,none⟩=false:=BB.frozen 2)
      |(have hz5:Ext (w2.alloc (.cells #[.int .i64 0,.int .i64 0,.int .i64 0] TS3)) w5:=hx5.of_drew
        have BB:=(Blk.new w2 TS3 #[.int .i64 0,.int .i64 0,.int .i64 0]).ext hz5
        have zc0:w5.cell? ⟨w2.heap.size,0,none⟩=some (.int .i64 0):=BB.cell 0
        have zf0:w5.frozen? ⟨w2.heap.size,0,none⟩=false:=BB.frozen 0
        have zc1:w5.cell? ⟨w2.heap.size,1,none⟩=some (.int .i64 0):=BB.cell 1
        have zf1:w5.frozen? ⟨w2.heap.size,1,none⟩=false:=BB.frozen 1
        have zc2:w5.cell? ⟨w2.heap.size,2,none⟩=some (.int .i64 0):=BB.cell 2
        have zf2:w5.frozen? ⟨w2.heap.size,2,none⟩=false:=BB.frozen 2)
      |skip))
  ·go_wp2_with fail
   go_meet
   exact⟨w5.heap.size,rfl,rfl,rfl,by exact .alloc hy5 _,by have:=hy5.sz;omega,Blk.new _ _ _⟩
  ·have hR:ExtR w2.heap.size w5 _:=(((ExtR.refl w2.heap.size w5).setCell (p:=⟨w2.heap.size,0,none⟩) (.inl rfl) (.int .i64 S1)).setCell (p:=⟨w2.heap.size,1,none⟩) (.inl rfl) (.int .i64 S2)).setCell (p:=⟨w2.heap.size,2,none⟩) (.inl rfl) (.int .i64 S3)
   have hY:=((BB.set 0 (.int .i64 S1)).set 1 (.int .i64 S2)).set 2 (.int .i64 S3)
   simp only[List.setIfInBounds_toArray,List.set_cons_zero,List.set_cons_succ]at hY
   go_wp2_with fail
   go_meet
   exact⟨w2.heap.size,rfl,rfl,rfl,ExtR.new hy5 hR (Nat.le_refl _),Nat.le_refl _,hY⟩
 case rest=>
  clear ce0 ce1 ce2 ce3 ce4 ce5 ce6 ce7 ce8 ce9 g1' g2' g3' hb2 HP n1 n2 n3 n4
  obtain⟨a,rfl,rfl,rfl,hE5,ha,hBa⟩:=hcut
  have M3:=xQ (M2.out.blkOf hE5 hBa ha)
  clear M2
  clear lt2_0 lt2_3 lt2_4
  have lt3_0:=M3.out.hi 0
  have lt3_1:=M3.out.hi 1
  have lt3_4:=M3.out.hi 4
  have lt3_5:=M3.out.hi 5
  clear hE5 ha hBa
  cases okb with
  |false=>
   have hno:Hid (¬(false=true∧aH+amt-bk≤99999)):=by show¬_;simp
   obtain⟨d0,d1,d2,d3,d4,d5,d6,d7,d8,d9⟩:=(M3.out.blk (i:=1) rfl).ten
   obtain⟨f0,ff0,f1,ff1,f2,ff2,f3,ff3,f4,ff4,f5,ff5,f6,ff6,f7,ff7,f8,ff8,f9,ff9⟩:=(M3.out.blk (i:=4) rfl).tenf
   have ne0_1a: ¬(w1.heap.size=w.heap.size+1):=M3.out.ne (i:=1) (j:=4) (by omega) rfl rfl rfl rfl
   have ne0_1b: ¬(w.heap.size+1=w1.heap.size):=fun h=>ne0_1a h.symm
   go_wp2
   clear d0 d1 d2 d3 d4 d5 d6 d7 d8 d9 f0 ff0 f1 ff1 f2 ff2 f3 ff3 f4 ff4 f5 ff5 f6 ff6 f7 ff7 f8 ff8 f9 ff9 ne0_1a ne0_1b lt3_0 lt3_1 lt3_4 lt3_5
   have M4:=xQ (((M3.out).put10 (i:=4) rfl (.int .i64 aA) (.int .i64 aB) (.slice p1 n cp1) (.int .i64 free) (.int .i64 step) (.int .i64 aE) (.int .i64 aG) (.int .i64 aD) (.int .i64 aH) (.slice q1 m cq1)))
   generalize hwz:World.setCell _ _ _=wz
   rw[hwz]at M4
   clear hwz M3
   obtain⟨y0,y1,y2,y3,y4,y5,y6,y7,y8,y9⟩:=(M4.out.blk (i:=4) rfl).ten
   exact bodyPost_ret (v:= .tuple #[.agg #[.int .i64 aA,.int .i64 aB,.slice p1 n cp1,.int .i64 free,.int .i64 step,.int .i64 aE,.int .i64 aG,.int .i64 aD,.int .i64 aH,.slice q1 m cq1],.int .i64 amt,.bool false]) (by simp[results,Tryz.results31,go_sem, *]) rfl (by first|exact .inl ⟨p1,cp1,q1,cq1,amt,rfl,hno.out,M4.out.ext⟩|(have hno2:=hno.out;simp at hno2;first|exact .inl ⟨p1,cp1,q1,cq1,amt,rfl,hno2,M4.out.ext⟩|exact .inl ⟨p1,cp1,q1,cq1,amt,rfl,by omega,M4.out.ext⟩|exact .inl ⟨⟨p1,cp1,q1,cq1,amt,rfl⟩,hno2,M4.out.ext⟩|exact .inl ⟨⟨p1,cp1,q1,cq1,amt,rfl⟩,by omega,M4.out.ext⟩|exact .inl ⟨⟨p1,cp1,q1,cq1,amt,rfl⟩,M4.out.ext⟩|exact⟨⟨p1,cp1,q1,cq1,amt,rfl⟩,M4.out.ext⟩))
  |true=>
   obtain⟨o1,o2,o3⟩:=hok rfl
   have k1:IntKind.i64.wrap (aH+amt)=aH+amt:=IntWalk.i64_in _ (by omega)
   have k2:IntKind.i64.wrap (aH+amt-bk)=aH+amt-bk:=IntWalk.i64_in _ (by omega)
   have h8:wc.cell? ⟨w.heap.size,8,none⟩=some (.int .i64 aH):=(M3.out.blk (i:=5) rfl).cell 8
   by_cases hq:aH+amt-bk≤99999
   ·have hd:decide (99999<aH+amt-bk)=false:=by simp;omega
    have hqq:=xQ hq
    clear hq
    obtain⟨gq,rfl,hgq1,hgq2⟩:=M3.out.some (i:=3) rfl (by omega)
    obtain⟨b9,o9,x0,x1,x2,x3,e9,hx9,_,y0,y1,y2,y3⟩:=dV (M3.out.sl (i:=3) rfl) hk
    injection e9 with e9
    injection e9 with e9 e8
    subst e9 e8
    simp only[Nat.zero_add]at y1 y2 y3
    have HX9:=xQ hx9
    clear hx9 y0 hgq1
    obtain⟨d0,df0,d1,df1,d2,df2,d3,df3,d4,df4,d5,df5,d6,df6,d7,df7,d8,df8,d9,df9⟩:=(M3.out.blk (i:=1) rfl).tenf
    obtain⟨f0,ff0,f1,ff1,f2,ff2,f3,ff3,f4,ff4,f5,ff5,f6,ff6,f7,ff7,f8,ff8,f9,ff9⟩:=(M3.out.blk (i:=4) rfl).tenf
    obtain⟨sa0,sa1,sa2⟩:=(M3.out.blk (i:=0) rfl).tri
    have z1:wc.frozen? ⟨gq,k*4+1,none⟩=false:=(M3.out.own (i:=3) rfl).frozenAt (k*4+1)
    have z2:wc.frozen? ⟨gq,k*4+2,none⟩=false:=(M3.out.own (i:=3) rfl).frozenAt (k*4+2)
    have z3:wc.frozen? ⟨gq,k*4+3,none⟩=false:=(M3.out.own (i:=3) rfl).frozenAt (k*4+3)
    have ne0_1a: ¬(w.heap.size+1=w.heap.size):=M3.out.ne (i:=4) (j:=5) (by omega) rfl rfl rfl rfl
    have ne0_1b: ¬(w.heap.size=w.heap.size+1):=fun h=>ne0_1a h.symm
    have ne0_2a: ¬(w1.heap.size=w.heap.size):=M3.out.ne (i:=1) (j:=5) (by omega) rfl rfl rfl rfl
    have ne0_2b: ¬(w.heap.size=w1.heap.size):=fun h=>ne0_2a h.symm
    have ne0_3a: ¬(a=w.heap.size):=M3.out.ne (i:=0) (j:=5) (by omega) rfl rfl rfl rfl
    have ne0_3b: ¬(w.heap.size=a):=fun h=>ne0_3a h.symm
    have ne0_4a: ¬(gq=w.heap.size):=M3.out.ne (i:=3) (j:=5) (by omega) rfl rfl rfl rfl
    have ne0_4b: ¬(w.heap.size=gq):=fun h=>ne0_4a h.symm
    have ne1_2a: ¬(w1.heap.size=w.heap.size+1):=M3.out.ne (i:=1) (j:=4) (by omega) rfl rfl rfl rfl
    have ne1_2b: ¬(w.heap.size+1=w1.heap.size):=fun h=>ne1_2a h.symm
    have ne1_3a: ¬(a=w.heap.size+1):=M3.out.ne (i:=0) (j:=4) (by omega) rfl rfl rfl rfl
    have ne1_3b: ¬(w.heap.size+1=a):=fun h=>ne1_3a h.symm
    have ne1_4a: ¬(gq=w.heap.size+1):=M3.out.ne (i:=3) (j:=4) (by omega) rfl rfl rfl rfl
    have ne1_4b: ¬(w.heap.size+1=gq):=fun h=>ne1_4a h.symm
    have ne2_3a: ¬(a=w1.heap.size):=M3.out.ne (i:=0) (j:=1) (by omega) rfl rfl rfl rfl
    have ne2_3b: ¬(w1.heap.size=a):=fun h=>ne2_3a h.symm
    have ne2_4a: ¬(w1.heap.size=gq):=M3.out.ne (i:=1) (j:=3) (by omega) rfl rfl rfl rfl
    have ne2_4b: ¬(gq=w1.heap.size):=fun h=>ne2_4a h.symm
    have ne3_4a: ¬(a=gq):=M3.out.ne (i:=0) (j:=3) (by omega) rfl rfl rfl rfl
    have ne3_4b: ¬(gq=a):=fun h=>ne3_4a h.symm
    have M4:=xQ (show Mem w (((wc.setCell ⟨gq,k*4+1,none⟩ (.int .i64 S1)).setCell ⟨gq,k*4+2,none⟩ (.int .i64 S2)).setCell ⟨gq,k*4+3,none⟩ (.int .i64 S3)) [aF w.heap.size (a) TS3 #[.int .i64 S1,.int .i64 S2,.int .i64 S3],aF w.heap.size (w1.heap.size) aO #[.int .i64 aA,.int .i64 aB,.slice p1 n cp1,.int .i64 free,.int .i64 step,.int .i64 aE,.int .i64 aG,.int .i64 aD,.int .i64 aH,.slice (some ⟨gq,0,none⟩) m cq1],aJ w.heap.size TI 1 (p1) (n) (cp1) (ivs xs),aJ w.heap.size TV 4 (some ⟨gq,0,none⟩) (m) (cq1) ((((vs.flatMap aC).set (k*4+1) (.int .i64 S1)).set (k*4+2) (.int .i64 S2)).set (k*4+3) (.int .i64 S3)),aF w.heap.size (w.heap.size+1) aO #[.int .i64 0,.int .i64 0,.slice none 0 0,.int .i64 0,.int .i64 0,.int .i64 0,.int .i64 0,.int .i64 0,.int .i64 0,.slice none 0 0],aF w.heap.size (w.heap.size) aO #[.int .i64 aA,.int .i64 aB,.slice p n cap,.int .i64 free,.int .i64 step,.int .i64 aE,.int .i64 aG,.int .i64 aD,.int .i64 aH,.slice (some ⟨b,off,none⟩) m c2]]from((((((M3.out).ostore (i:=3) rfl (k*4+1) (.int .i64 S1))).ostore (i:=3) rfl (k*4+2) (.int .i64 S2))).ostore (i:=3) rfl (k*4+3) (.int .i64 S3)))
    have M5:=xQ (show Mem w ((((wc.setCell ⟨gq,k*4+1,none⟩ (.int .i64 S1)).setCell ⟨gq,k*4+2,none⟩ (.int .i64 S2)).setCell ⟨gq,k*4+3,none⟩ (.int .i64 S3)).setCell ⟨w1.heap.size,8,none⟩ (.int .i64 (aH+amt-bk))) [aF w.heap.size (a) TS3 #[.int .i64 S1,.int .i64 S2,.int .i64 S3],aF w.heap.size (w1.heap.size) aO #[.int .i64 aA,.int .i64 aB,.slice p1 n cp1,.int .i64 free,.int .i64 step,.int .i64 aE,.int .i64 aG,.int .i64 aD,.int .i64 (aH+amt-bk),.slice (some ⟨gq,0,none⟩) m cq1],aJ w.heap.size TI 1 (p1) (n) (cp1) (ivs xs),aJ w.heap.size TV 4 (some ⟨gq,0,none⟩) (m) (cq1) ((((vs.flatMap aC).set (k*4+1) (.int .i64 S1)).set (k*4+2) (.int .i64 S2)).set (k*4+3) (.int .i64 S3)),aF w.heap.size (w.heap.size+1) aO #[.int .i64 0,.int .i64 0,.slice none 0 0,.int .i64 0,.int .i64 0,.int .i64 0,.int .i64 0,.int .i64 0,.int .i64 0,.slice none 0 0],aF w.heap.size (w.heap.size) aO #[.int .i64 aA,.int .i64 aB,.slice p n cap,.int .i64 free,.int .i64 step,.int .i64 aE,.int .i64 aG,.int .i64 aD,.int .i64 aH,.slice (some ⟨b,off,none⟩) m c2]]from((M4.out).store (i:=1) rfl 8 (.int .i64 (aH+amt-bk))))
    have hfl:Hid ((((vs.flatMap aC).set (k*4+1) (.int .i64 S1)).set (k*4+2) (.int .i64 S2)).set (k*4+3) (.int .i64 S3)=(vs.set k (a0,S1,S2,S3)).flatMap aC):=rW HV0.out S1 S2 S3
    go_wp2
    clear d0 df0 d1 df1 d2 df2 d3 df3 d4 df4 d5 df5 d6 df6 d7 df7 d8 df8 d9 df9 f0 ff0 f1 ff1 f2 ff2 f3 ff3 f4 ff4 f5 ff5 f6 ff6 f7 ff7 f8 ff8 f9 ff9 sa0 sa1 sa2 z1 z2 z3 ne0_1a ne0_1b ne0_2a ne0_2b ne0_3a ne0_3b ne0_4a ne0_4b ne1_2a ne1_2b ne1_3a ne1_3b ne1_4a ne1_4b ne2_3a ne2_3b ne2_4a ne2_4b ne3_4a ne3_4b y1 y2 y3 hgq2 h8 lt3_0 lt3_1 lt3_4 lt3_5
    have M6:=xQ (((M5.out).put10 (i:=4) rfl (.int .i64 aA) (.int .i64 aB) (.slice p1 n cp1) (.int .i64 free) (.int .i64 step) (.int .i64 aE) (.int .i64 aG) (.int .i64 aD) (.int .i64 (aH+amt-bk)) (.slice (some ⟨gq,0,none⟩) m cq1)))
    generalize hwz:World.setCell _ _ _=wz
    rw[hwz]at M6
    clear hwz M3 M4 M5
    obtain⟨y0,y1,y2,y3,y4,y5,y6,y7,y8,y9⟩:=(M6.out.blk (i:=4) rfl).ten
    exact bodyPost_ret (v:= .tuple #[.agg #[.int .i64 aA,.int .i64 aB,.slice p1 n cp1,.int .i64 free,.int .i64 step,.int .i64 aE,.int .i64 aG,.int .i64 aD,.int .i64 (aH+amt-bk),.slice (some ⟨gq,0,none⟩) m cq1],.int .i64 bk,.bool true]) (by simp[results,Tryz.results31,go_sem, *]) rfl (by first|exact .inr ⟨rfl,hqq.out,p1,cp1,some ⟨gq,0,none⟩,cq1,rfl,(M6.out.own (i:=2) rfl),by rw[←hfl.out];exact(M6.out.own (i:=3) rfl),M6.out.ext⟩|exact .inr ⟨hqq.out,p1,cp1,some ⟨gq,0,none⟩,cq1,rfl,(M6.out.own (i:=2) rfl),by rw[←hfl.out];exact(M6.out.own (i:=3) rfl),M6.out.ext⟩)
   ·have hno:Hid (¬(true=true∧aH+amt-bk≤99999)):=by show¬_;simp[hq]
    have hd:decide (99999<aH+amt-bk)=true:=by simp;omega
    obtain⟨d0,d1,d2,d3,d4,d5,d6,d7,d8,d9⟩:=(M3.out.blk (i:=1) rfl).ten
    obtain⟨f0,ff0,f1,ff1,f2,ff2,f3,ff3,f4,ff4,f5,ff5,f6,ff6,f7,ff7,f8,ff8,f9,ff9⟩:=(M3.out.blk (i:=4) rfl).tenf
    have ne0_1a: ¬(w1.heap.size=w.heap.size+1):=M3.out.ne (i:=1) (j:=4) (by omega) rfl rfl rfl rfl
    have ne0_1b: ¬(w.heap.size+1=w1.heap.size):=fun h=>ne0_1a h.symm
    go_wp2
    clear d0 d1 d2 d3 d4 d5 d6 d7 d8 d9 f0 ff0 f1 ff1 f2 ff2 f3 ff3 f4 ff4 f5 ff5 f6 ff6 f7 ff7 f8 ff8 f9 ff9 ne0_1a ne0_1b lt3_0 lt3_1 lt3_4 lt3_5
    have M4:=xQ (((M3.out).put10 (i:=4) rfl (.int .i64 aA) (.int .i64 aB) (.slice p1 n cp1) (.int .i64 free) (.int .i64 step) (.int .i64 aE) (.int .i64 aG) (.int .i64 aD) (.int .i64 aH) (.slice q1 m cq1)))
    generalize hwz:World.setCell _ _ _=wz
    rw[hwz]at M4
    clear hwz M3
    obtain⟨y0,y1,y2,y3,y4,y5,y6,y7,y8,y9⟩:=(M4.out.blk (i:=4) rfl).ten
    exact bodyPost_ret (v:= .tuple #[.agg #[.int .i64 aA,.int .i64 aB,.slice p1 n cp1,.int .i64 free,.int .i64 step,.int .i64 aE,.int .i64 aG,.int .i64 aD,.int .i64 aH,.slice q1 m cq1],.int .i64 amt,.bool false]) (by simp[results,Tryz.results31,go_sem, *]) rfl (by first|exact .inl ⟨p1,cp1,q1,cq1,amt,rfl,hno.out,M4.out.ext⟩|(have hno2:=hno.out;simp at hno2;first|exact .inl ⟨p1,cp1,q1,cq1,amt,rfl,hno2,M4.out.ext⟩|exact .inl ⟨p1,cp1,q1,cq1,amt,rfl,by omega,M4.out.ext⟩|exact .inl ⟨⟨p1,cp1,q1,cq1,amt,rfl⟩,hno2,M4.out.ext⟩|exact .inl ⟨⟨p1,cp1,q1,cq1,amt,rfl⟩,by omega,M4.out.ext⟩|exact .inl ⟨⟨p1,cp1,q1,cq1,amt,rfl⟩,M4.out.ext⟩|exact⟨⟨p1,cp1,q1,cq1,amt,rfl⟩,M4.out.ext⟩))
end Go.Proofs.YtahglfakiobbcaaGreatDoor
namespace Go.Proofs.YtahglfakiobbcaaGreatDoor
open Go.RowKit
set_option linter.unusedVariables false
set_option linter.unusedSimpArgs false
theorem tP {f s p c i pd a now amt:Int}(hD:0≤bS f s p c i pd a now)(h:(eY f s p c i pd a now amt).2.2=true):0≤(eY f s p c i pd a now amt).2.1∧(eY f s p c i pd a now amt).2.1≤amt∧amt≤300:=by
 unfold eY at h⊢
 split at h
 ·rename_i h1
  rw[if_pos h1]
  split at h
  ·cases h
  ·rename_i h2
   rw[if_neg h2]
   dsimp only
   omega
 ·cases h
def lV (h:bJ)(id amt:Int):Option (bJ×Int):=
 match eD id h.vs with
 |none=>none
 |some v=>if(eY h.free h.step h.aE h.aG v.2.1 v.2.2.1 v.2.2.2 h.aD amt).2.2=true∧h.aH+amt-(eY h.free h.step h.aE h.aG v.2.1 v.2.2.1 v.2.2.2 h.aD amt).2.1≤99999 then
   some ({h with aH:=h.aH+amt-(eY h.free h.step h.aE h.aG v.2.1 v.2.2.1 v.2.2.2 h.aD amt).2.1,vs:=h.vs.set (vix id h.vs).toNat (id,(eY h.free h.step h.aE h.aG v.2.1 v.2.2.1 v.2.2.2 h.aD amt).1)},(eY h.free h.step h.aE h.aG v.2.1 v.2.2.1 v.2.2.2 h.aD amt).2.1)
  else none
def aF2 (h:bJ)(r:Option (bJ×Int))(w:World)(e:Ending)(w':World):Prop:=
 match r with
 |none=> ∃p cap q c2 b,e= .returned (.tuple #[cC h p h.cells.length cap q h.vs.length c2,.int .i64 b,.bool false])∧Ext w w'
 |some (h',b)=> ∃p cap q c2,e= .returned (.tuple #[cC h' p h'.cells.length cap q h'.vs.length c2,.int .i64 b,.bool true])∧w'.ownsRow w.heap.size TI 1 (.slice p h'.cells.length cap) h'.cells.length (ivs h'.cells)∧w'.ownsRow w.heap.size TV 4 (.slice q h'.vs.length c2) h'.vs.length (h'.vs.flatMap aC)∧Ext w w'
theorem aBq (h:bJ)(id amt:Int)(p:Option Addr)(n cap:Nat)(q:Option Addr)(m c2:Nat)(w:World)(hn:n≤1000)(hm:m≤1000)(hi:IsHouse w h p n cap q m c2)
  (ht:bD h.free h.step h.aE h.aG=true)(hvs: ∀v∈h.vs,cI v.2.1 v.2.2.1 v.2.2.2=true∧v.2.2.2≤h.aD)(hc:h.aD≤9999)(hb0:0≤h.aH)(hb:h.aH≤99999):
  Calls Tryz.prog 31 #[cC h p n cap q m c2,.int .i64 id,.int .i64 amt] w (aF2 h (lV h id amt) w):=by
 have hl:=hi.clen
 have hvl:=hi.vlen
 have HL:=fun(w':World) (hx:Ext w w')=>qF h p n cap q m c2 w' hn hm (hi.ext hx)
 have HF:=fun(w':World) (hx:Ext w w')=>lY h.aA h.aB h.free h.step h.aE h.aG h.aD h.aH id p n cap q m c2 h.vs w' (hi.vs.ext hx)
 unfold RetHouse at HL
 subst hl hvl
 rcases jL id h.vs with⟨h1,h2⟩|⟨k,a1,a2,a3,hk,h1,hx,h2⟩
 ·rw[h1]at HF
  have hr:lV h id amt=none:=by unfold lV;rw[h2]
  rw[hr]
  refine(tI h.aA h.aB h.free h.step h.aE h.aG h.aD h.aH id amt p _ cap q _ c2 h.cells h.vs w HL HF).mono ?_
  rintro e w' ⟨p',cap',q',c2',b,rfl,hE⟩
  exact⟨p',cap',q',c2',b,rfl,hE⟩
 ·rw[h1]at HF
  obtain⟨b,off,x0,x1,x2,x3,rfl,hx',hbl,_,g1,g2,g3⟩:=dV hi.vs hk
  rw[hx]at hx'
  injection hx' with hx'
  simp only[Prod.mk.injEq]at hx'
  obtain⟨_,rfl,rfl,rfl⟩:=hx'
  obtain⟨s1,s2⟩:=hvs _ (List.mem_of_getElem? hx)
  dsimp only at s1 s2
  have hD:=(iM ht s1 s2 hc).1
  have HP:=fun(w':World)=>vO h.free h.step h.aE h.aG a1 a2 a3 h.aD amt w' ht s1 s2 hc
  have hok:=tP (amt:=amt) hD
  have hr:lV h id amt=if(eY h.free h.step h.aE h.aG a1 a2 a3 h.aD amt).2.2=true∧h.aH+amt-(eY h.free h.step h.aE h.aG a1 a2 a3 h.aD amt).2.1≤99999 then some ({h with aH:=h.aH+amt-(eY h.free h.step h.aE h.aG a1 a2 a3 h.aD amt).2.1,vs:=h.vs.set k (id,(eY h.free h.step h.aE h.aG a1 a2 a3 h.aD amt).1)},(eY h.free h.step h.aE h.aG a1 a2 a3 h.aD amt).2.1)else none:=by
   unfold lV
   rw[h2,h1]
   rfl
  rw[hr]
  generalize eY h.free h.step h.aE h.aG a1 a2 a3 h.aD amt=r at*
  obtain⟨⟨S1,S2,S3⟩,bk,okb⟩:=r
  dsimp only at HP hok⊢
  refine(aB5 h.aA h.aB h.free h.step h.aE h.aG h.aD h.aH id amt p _ cap b off _ c2 k h.cells h.vs id a1 a2 a3 S1 S2 S3 bk okb w hk hm hbl hb0 hb hok hx g1 g2 g3 HL HF HP).mono ?_
  rintro e w' (⟨p',cap',q',c2',b',rfl,hno,hE⟩|⟨rfl,hle,p',cap',q',c2',rfl,ho1,ho2,hE⟩)
  ·rw[if_neg hno]
   exact⟨p',cap',q',c2',b',rfl,hE⟩
  ·rw[if_pos ⟨rfl,hle⟩]
   refine⟨p',cap',q',c2',?_,ho1,?_,hE⟩
   ·simp[cC]
   ·simpa using ho2
end Go.Proofs.YtahglfakiobbcaaGreatDoor
