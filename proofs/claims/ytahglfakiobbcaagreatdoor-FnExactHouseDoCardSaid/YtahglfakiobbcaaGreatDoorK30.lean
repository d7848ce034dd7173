/-
  Texts of this proof, packed (@packed).
-/
import Derived.Test.YtahglfakiobbcaaGreatDoorK2
import Derived.Test.YtahglfakiobbcaaGreatDoorK5
import Derived.Test.YtahglfakiobbcaaGreatDoorK13
import Derived.Test.YtahglfakiobbcaaGreatDoorK20
import Derived.Test.YtahglfakiobbcaaGreatDoorK26
import Derived.Test.YtahglfakiobbcaaGreatDoorK29
namespace Go.Proofs.YtahglfakiobbcaaGreatDoor
open Go.RowKit
set_option linter.unusedVariables false
set_option linter.unusedSimpArgs false
set_option maxRecDepth 100000 in
set_option maxHeartbeats 4000000 in
theorem tW (aA aB id:Int)(p:Option Addr)(n cap:Nat)(xs:List Int)(w:World)(hlen:Hid (xs.length=n))
  (HV:Hid (∀w',Ext w w'→Calls Tryz.prog 73 #[aK aA aB p n cap] w' fun e w''=>e= .returned (.bool true)∧Ext w' w''))
  (HC:Hid (∀w',Ext w w'→Calls Tryz.prog 109 #[aK aA aB p n cap] w' fun e w''=> ∃v,e= .returned (.tuple #[v,.bool false])∧Ext w' w''))
  (HL:Hid (∀w',Ext w w'→Calls Tryz.prog 77 #[aK aA aB p n cap] w' fun e w''=> ∃q c,e= .returned (aK aA aB q n c)∧w''.ownsRow w'.heap.size TI 1 (.slice q n c) n (ivs xs)∧Ext w' w'')):
  Calls Tryz.prog 79 #[aK aA aB p n cap,.int .i64 id] w (bY aA aB xs (-1) w):=by
 go_enter Tryz.func79,Tryz.ntmps79
 go_wp2_with fail
 refine(HV.out _ (Mem.b2 w).ext).mono ?_
 rintro e w1 ⟨rfl,hx1⟩
 have M1:=xQ (show Mem w w1 [aF w.heap.size (w.heap.size+1) TH3 #[.int .i64 0,.int .i64 0,.slice none 0 0],aF w.heap.size (w.heap.size) TH3 #[.int .i64 aA,.int .i64 aB,.slice p n cap]]from(Mem.b2 w).adv hx1)
 have lt1_0:=M1.out.hi 0
 have lt1_1:=M1.out.hi 1
 clear hx1
 obtain⟨h0,h1,h2⟩:=((M1.out.blk (i:=1) rfl)).tri
 go_wp2_with fail
 clear h0 h1 h2
 refine(HC.out _ M1.out.ext).mono ?_
 rintro e w2 ⟨v,rfl,hx2⟩
 have M2:=xQ (show Mem w w2 [aF w.heap.size (w.heap.size+1) TH3 #[.int .i64 0,.int .i64 0,.slice none 0 0],aF w.heap.size (w.heap.size) TH3 #[.int .i64 aA,.int .i64 aB,.slice p n cap]]from(M1.out).adv hx2)
 clear M1
 clear lt1_0 lt1_1
 have lt2_0:=M2.out.hi 0
 have lt2_1:=M2.out.hi 1
 clear hx2
 obtain⟨h0,h1,h2⟩:=((M2.out.blk (i:=1) rfl)).tri
 go_wp2_with fail
 clear h0 h1 h2
 refine(HL.out _ M2.out.ext).mono ?_
 rintro e w3 ⟨q0,c0,rfl,ho3,hx3⟩
 have M3:=xQ (show Mem w w3 [aJ w.heap.size TI 1 (q0) (n) (c0) (ivs xs),aF w.heap.size (w.heap.size+1) TH3 #[.int .i64 0,.int .i64 0,.slice none 0 0],aF w.heap.size (w.heap.size) TH3 #[.int .i64 aA,.int .i64 aB,.slice p n cap]]from(M2.out).call hx3 ho3)
 clear M2
 clear lt2_0 lt2_1
 have lt3_1:=M3.out.hi 1
 have lt3_2:=M3.out.hi 2
 clear hx3 ho3
 obtain⟨z0,zf0,z1,zf1,z2,zf2⟩:=((M3.out.blk (i:=1) rfl)).trif
 go_wp2
 have M4:=xQ (show Mem w ((w3.setCell ⟨w.heap.size+1,0,none⟩ (.int .i64 aA)).setCell ⟨w.heap.size+1,1,none⟩ (.int .i64 aB)) [aJ w.heap.size TI 1 (q0) (n) (c0) (ivs xs),aF w.heap.size (w.heap.size+1) TH3 #[.int .i64 aA,.int .i64 aB,.slice none 0 0],aF w.heap.size (w.heap.size) TH3 #[.int .i64 aA,.int .i64 aB,.slice p n cap]]from((((M3.out).store (i:=1) rfl 0 (.int .i64 aA))).store (i:=1) rfl 1 (.int .i64 aB)))
 have M5:=xQ (show Mem w (((w3.setCell ⟨w.heap.size+1,0,none⟩ (.int .i64 aA)).setCell ⟨w.heap.size+1,1,none⟩ (.int .i64 aB)).setCell ⟨w.heap.size+1,2,none⟩ (.slice q0 n c0)) [aJ w.heap.size TI 1 (q0) (n) (c0) (ivs xs),aF w.heap.size (w.heap.size+1) TH3 #[.int .i64 aA,.int .i64 aB,.slice q0 n c0],aF w.heap.size (w.heap.size) TH3 #[.int .i64 aA,.int .i64 aB,.slice p n cap]]from((M4.out).store (i:=1) rfl 2 (.slice q0 n c0)))
 clear z0 zf0 z1 zf1 z2 zf2
 have M6:=xQ (show Mem w (((w3.setCell ⟨w.heap.size+1,0,none⟩ (.int .i64 aA)).setCell ⟨w.heap.size+1,1,none⟩ (.int .i64 aB)).setCell ⟨w.heap.size+1,2,none⟩ (.slice q0 n c0)) [aJ w.heap.size TI 1 (q0) (n) (c0) (ivs xs),aF w.heap.size (w.heap.size+1) TH3 #[.int .i64 aA,.int .i64 aB,.slice q0 n c0],aF w.heap.size (w.heap.size) TH3 #[.int .i64 aA,.int .i64 aB,.slice p n cap]]from M5.out)
 generalize hwz:World.setCell _ _ _=wz
 rw[hwz]at M6
 clear hwz M3 M4 M5
 obtain⟨y0,y1,y2⟩:=((M6.out.blk (i:=1) rfl)).tri
 exact bodyPost_ret (v:= .tuple #[.agg #[.int .i64 aA,.int .i64 aB,.slice q0 n c0],.int .i64 (-1)]) (by simp[results,Tryz.results79,go_sem, *]) rfl (dJ hlen.out (M6.out.own (i:=0) rfl) M6.out.ext)
set_option maxRecDepth 100000 in
set_option maxHeartbeats 4000000 in
theorem zF (aA aB id:Int)(p:Option Addr)(n cap K:Nat)(xs ys zs:List Int)(sl:List Sl2)(w:World)(hlen:Hid (xs.length=n))
  (HV:Hid (∀w',Ext w w'→Calls Tryz.prog 73 #[aK aA aB p n cap] w' fun e w''=>e= .returned (.bool true)∧Ext w' w''))
  (HC:Hid (∀w',Ext w w'→Calls Tryz.prog 109 #[aK aA aB p n cap] w' fun e w''=> ∃q c,e= .returned (.tuple #[.slice q K c,.bool true])∧w''.ownsRow w'.heap.size TSL 2 (.slice q K c) K (sl.flatMap aM)∧Ext w' w''))
  (HR:Hid (∀w' q c,Ext w w'→Sl w' q K c 2 (sl.flatMap aM)→Calls Tryz.prog 111 #[aK aA aB p n cap,.slice q K c] w' fun e w''=> ∃q c,e= .returned (aK aA aB q n c)∧w''.ownsRow w'.heap.size TI 1 (.slice q n c) n (ivs ys)∧Ext w' w''))
  (HP:Hid (∀w' q c,Ext w w'→Sl w' q n c 1 (ivs ys)→Calls Tryz.prog 110 #[aK aA aB q n c,.int .i64 0,.int .i64 id] w' fun e w''=> ∃q c,e= .returned (.tuple #[aK aA aB q n c,.bool false])∧w''.ownsRow w'.heap.size TI 1 (.slice q n c) n (ivs zs)∧Ext w' w''))
  (HL:Hid (∀w',Ext w w'→Calls Tryz.prog 77 #[aK aA aB p n cap] w' fun e w''=> ∃q c,e= .returned (aK aA aB q n c)∧w''.ownsRow w'.heap.size TI 1 (.slice q n c) n (ivs xs)∧Ext w' w'')):
  Calls Tryz.prog 79 #[aK aA aB p n cap,.int .i64 id] w (bY aA aB xs (-1) w):=by
 go_enter Tryz.func79,Tryz.ntmps79
 go_wp2_with fail
 refine(HV.out _ (Mem.b2 w).ext).mono ?_
 rintro e w1 ⟨rfl,hx1⟩
 have M1:=xQ (show Mem w w1 [aF w.heap.size (w.heap.size+1) TH3 #[.int .i64 0,.int .i64 0,.slice none 0 0],aF w.heap.size (w.heap.size) TH3 #[.int .i64 aA,.int .i64 aB,.slice p n cap]]from(Mem.b2 w).adv hx1)
 have lt1_0:=M1.out.hi 0
 have lt1_1:=M1.out.hi 1
 clear hx1
 obtain⟨h0,h1,h2⟩:=((M1.out.blk (i:=1) rfl)).tri
 go_wp2_with fail
 clear h0 h1 h2
 refine(HC.out _ M1.out.ext).mono ?_
 rintro e w2 ⟨qs,cs,rfl,ho2,hx2⟩
 have M2:=xQ (show Mem w w2 [aJ w.heap.size TSL 2 (qs) (K) (cs) (sl.flatMap aM),aF w.heap.size (w.heap.size+1) TH3 #[.int .i64 0,.int .i64 0,.slice none 0 0],aF w.heap.size (w.heap.size) TH3 #[.int .i64 aA,.int .i64 aB,.slice p n cap]]from(M1.out).call hx2 ho2)
 clear M1
 clear lt1_0 lt1_1
 have lt2_1:=M2.out.hi 1
 have lt2_2:=M2.out.hi 2
 clear hx2 ho2
 obtain⟨h0,h1,h2⟩:=((M2.out.blk (i:=2) rfl)).tri
 go_wp2_with fail
 clear h0 h1 h2
 refine(HR.out _ qs cs M2.out.ext (M2.out.sl (i:=0) rfl)).mono ?_
 rintro e w3 ⟨q1,c1,rfl,ho3,hx3⟩
 have M3:=xQ (show Mem w w3 [aJ w.heap.size TI 1 (q1) (n) (c1) (ivs ys),aJ w.heap.size TSL 2 (qs) (K) (cs) (sl.flatMap aM),aF w.heap.size (w.heap.size+1) TH3 #[.int .i64 0,.int .i64 0,.slice none 0 0],aF w.heap.size (w.heap.size) TH3 #[.int .i64 aA,.int .i64 aB,.slice p n cap]]from(M2.out).call hx3 ho3)
 clear M2
 clear lt2_1 lt2_2
 have lt3_2:=M3.out.hi 2
 have lt3_3:=M3.out.hi 3
 clear hx3 ho3
 go_wp2_with fail
 refine(HP.out _ q1 c1 M3.out.ext (M3.out.sl (i:=0) rfl)).mono ?_
 rintro e w4 ⟨q2,c2,rfl,ho4,hx4⟩
 have M4:=xQ (show Mem w w4 [aJ w.heap.size TI 1 (q2) (n) (c2) (ivs zs),aJ w.heap.size TI 1 (q1) (n) (c1) (ivs ys),aJ w.heap.size TSL 2 (qs) (K) (cs) (sl.flatMap aM),aF w.heap.size (w.heap.size+1) TH3 #[.int .i64 0,.int .i64 0,.slice none 0 0],aF w.heap.size (w.heap.size) TH3 #[.int .i64 aA,.int .i64 aB,.slice p n cap]]from(M3.out).call hx4 ho4)
 clear M3
 clear lt3_2 lt3_3
 have lt4_3:=M4.out.hi 3
 have lt4_4:=M4.out.hi 4
 clear hx4 ho4
 go_upto_region 7 with fail
 obtain⟨gV,hgV⟩: ∃gV,gV=w4.heap.size:=⟨_,rfl⟩
 rw[←hgV]
 have M5:=xQ (show Mem w (w4.alloc (.cells #[.int .i64 aA,.int .i64 aB,.slice q2 n c2] TH3)) [aF w.heap.size (gV) TH3 #[.int .i64 aA,.int .i64 aB,.slice q2 n c2],aJ w.heap.size TI 1 (q2) (n) (c2) (ivs zs),aJ w.heap.size TI 1 (q1) (n) (c1) (ivs ys),aJ w.heap.size TSL 2 (qs) (K) (cs) (sl.flatMap aM),aF w.heap.size (w.heap.size+1) TH3 #[.int .i64 0,.int .i64 0,.slice none 0 0],aF w.heap.size (w.heap.size) TH3 #[.int .i64 aA,.int .i64 aB,.slice p n cap]]from((M4.out).blkNew TH3 #[.int .i64 aA,.int .i64 aB,.slice q2 n c2] gV hgV.symm))
 generalize World.alloc _ _=w7 at M5⊢
 clear M4
 clear lt4_3 lt4_4
 have lt5_0:=M5.out.hi 0
 have lt5_4:=M5.out.hi 4
 have lt5_5:=M5.out.hi 5
 clear hgV
 obtain⟨h0,h1,h2⟩:=((M5.out.blk (i:=5) rfl)).tri
 go_wp2_with fail
 clear h0 h1 h2
 refine(HL.out _ M5.out.ext).mono ?_
 rintro e w6 ⟨q0,c0,rfl,ho6,hx6⟩
 have M6:=xQ (show Mem w w6 [aJ w.heap.size TI 1 (q0) (n) (c0) (ivs xs),aF w.heap.size (gV) TH3 #[.int .i64 aA,.int .i64 aB,.slice q2 n c2],aJ w.heap.size TI 1 (q2) (n) (c2) (ivs zs),aJ w.heap.size TI 1 (q1) (n) (c1) (ivs ys),aJ w.heap.size TSL 2 (qs) (K) (cs) (sl.flatMap aM),aF w.heap.size (w.heap.size+1) TH3 #[.int .i64 0,.int .i64 0,.slice none 0 0],aF w.heap.size (w.heap.size) TH3 #[.int .i64 aA,.int .i64 aB,.slice p n cap]]from(M5.out).call hx6 ho6)
 clear M5
 clear lt5_0 lt5_4 lt5_5
 have lt6_1:=M6.out.hi 1
 have lt6_5:=M6.out.hi 5
 have lt6_6:=M6.out.hi 6
 clear hx6 ho6
 obtain⟨z0,zf0,z1,zf1,z2,zf2⟩:=((M6.out.blk (i:=5) rfl)).trif
 go_wp2
 have M7:=xQ (show Mem w ((w6.setCell ⟨w.heap.size+1,0,none⟩ (.int .i64 aA)).setCell ⟨w.heap.size+1,1,none⟩ (.int .i64 aB)) [aJ w.heap.size TI 1 (q0) (n) (c0) (ivs xs),aF w.heap.size (gV) TH3 #[.int .i64 aA,.int .i64 aB,.slice q2 n c2],aJ w.heap.size TI 1 (q2) (n) (c2) (ivs zs),aJ w.heap.size TI 1 (q1) (n) (c1) (ivs ys),aJ w.heap.size TSL 2 (qs) (K) (cs) (sl.flatMap aM),aF w.heap.size (w.heap.size+1) TH3 #[.int .i64 aA,.int .i64 aB,.slice none 0 0],aF w.heap.size (w.heap.size) TH3 #[.int .i64 aA,.int .i64 aB,.slice p n cap]]from((((M6.out).store (i:=5) rfl 0 (.int .i64 aA))).store (i:=5) rfl 1 (.int .i64 aB)))
 have M8:=xQ (show Mem w (((w6.setCell ⟨w.heap.size+1,0,none⟩ (.int .i64 aA)).setCell ⟨w.heap.size+1,1,none⟩ (.int .i64 aB)).setCell ⟨w.heap.size+1,2,none⟩ (.slice q0 n c0)) [aJ w.heap.size TI 1 (q0) (n) (c0) (ivs xs),aF w.heap.size (gV) TH3 #[.int .i64 aA,.int .i64 aB,.slice q2 n c2],aJ w.heap.size TI 1 (q2) (n) (c2) (ivs zs),aJ w.heap.size TI 1 (q1) (n) (c1) (ivs ys),aJ w.heap.size TSL 2 (qs) (K) (cs) (sl.flatMap aM),aF w.heap.size (w.heap.size+1) TH3 #[.int .i64 aA,.int .i64 aB,.slice q0 n c0],aF w.heap.size (w.heap.size) TH3 #[.int .i64 aA,.int .i64 aB,.slice p n cap]]from((M7.out).store (i:=5) rfl 2 (.slice q0 n c0)))
 clear z0 zf0 z1 zf1 z2 zf2
 have M9:=xQ (show Mem w (((w6.setCell ⟨w.heap.size+1,0,none⟩ (.int .i64 aA)).setCell ⟨w.heap.size+1,1,none⟩ (.int .i64 aB)).setCell ⟨w.heap.size+1,2,none⟩ (.slice q0 n c0)) [aJ w.heap.size TI 1 (q0) (n) (c0) (ivs xs),aF w.heap.size (gV) TH3 #[.int .i64 aA,.int .i64 aB,.slice q2 n c2],aJ w.heap.size TI 1 (q2) (n) (c2) (ivs zs),aJ w.heap.size TI 1 (q1) (n) (c1) (ivs ys),aJ w.heap.size TSL 2 (qs) (K) (cs) (sl.flatMap aM),aF w.heap.size (w.heap.size+1) TH3 #[.int .i64 aA,.int .i64 aB,.slice q0 n c0],aF w.heap.size (w.heap.size) TH3 #[.int .i64 aA,.int .i64 aB,.slice p n cap]]from M8.out)
 generalize hwz:World.setCell _ _ _=wz
 rw[hwz]at M9
 clear hwz M6 M7 M8
 obtain⟨y0,y1,y2⟩:=((M9.out.blk (i:=5) rfl)).tri
 exact bodyPost_ret (v:= .tuple #[.agg #[.int .i64 aA,.int .i64 aB,.slice q0 n c0],.int .i64 (-1)]) (by simp[results,Tryz.results79,go_sem, *]) rfl (dJ hlen.out (M9.out.own (i:=0) rfl) M9.out.ext)
set_option maxRecDepth 100000 in
set_option maxHeartbeats 4000000 in
theorem wE (aA aB id:Int)(p:Option Addr)(n cap K:Nat)(ys zs:List Int)(sl:List Sl2)(w:World)(hlen:Hid (zs.length=n))
  (HV:Hid (∀w',Ext w w'→Calls Tryz.prog 73 #[aK aA aB p n cap] w' fun e w''=>e= .returned (.bool true)∧Ext w' w''))
  (HC:Hid (∀w',Ext w w'→Calls Tryz.prog 109 #[aK aA aB p n cap] w' fun e w''=> ∃q c,e= .returned (.tuple #[.slice q K c,.bool true])∧w''.ownsRow w'.heap.size TSL 2 (.slice q K c) K (sl.flatMap aM)∧Ext w' w''))
  (HR:Hid (∀w' q c,Ext w w'→Sl w' q K c 2 (sl.flatMap aM)→Calls Tryz.prog 111 #[aK aA aB p n cap,.slice q K c] w' fun e w''=> ∃q c,e= .returned (aK aA aB q n c)∧w''.ownsRow w'.heap.size TI 1 (.slice q n c) n (ivs ys)∧Ext w' w''))
  (HP:Hid (∀w' q c,Ext w w'→Sl w' q n c 1 (ivs ys)→Calls Tryz.prog 110 #[aK aA aB q n c,.int .i64 0,.int .i64 id] w' fun e w''=> ∃q c,e= .returned (.tuple #[aK aA aB q n c,.bool true])∧w''.ownsRow w'.heap.size TI 1 (.slice q n c) n (ivs zs)∧Ext w' w'')):
  Calls Tryz.prog 79 #[aK aA aB p n cap,.int .i64 id] w (bY aA aB zs (K:Int) w):=by
 go_enter Tryz.func79,Tryz.ntmps79
 go_wp2_with fail
 refine(HV.out _ (Mem.b2 w).ext).mono ?_
 rintro e w1 ⟨rfl,hx1⟩
 have M1:=xQ (show Mem w w1 [aF w.heap.size (w.heap.size+1) TH3 #[.int .i64 0,.int .i64 0,.slice none 0 0],aF w.heap.size (w.heap.size) TH3 #[.int .i64 aA,.int .i64 aB,.slice p n cap]]from(Mem.b2 w).adv hx1)
 have lt1_0:=M1.out.hi 0
 have lt1_1:=M1.out.hi 1
 clear hx1
 obtain⟨h0,h1,h2⟩:=((M1.out.blk (i:=1) rfl)).tri
 go_wp2_with fail
 clear h0 h1 h2
 refine(HC.out _ M1.out.ext).mono ?_
 rintro e w2 ⟨qs,cs,rfl,ho2,hx2⟩
 have M2:=xQ (show Mem w w2 [aJ w.heap.size TSL 2 (qs) (K) (cs) (sl.flatMap aM),aF w.heap.size (w.heap.size+1) TH3 #[.int .i64 0,.int .i64 0,.slice none 0 0],aF w.heap.size (w.heap.size) TH3 #[.int .i64 aA,.int .i64 aB,.slice p n cap]]from(M1.out).call hx2 ho2)
 clear M1
 clear lt1_0 lt1_1
 have lt2_1:=M2.out.hi 1
 have lt2_2:=M2.out.hi 2
 clear hx2 ho2
 obtain⟨h0,h1,h2⟩:=((M2.out.blk (i:=2) rfl)).tri
 go_wp2_with fail
 clear h0 h1 h2
 refine(HR.out _ qs cs M2.out.ext (M2.out.sl (i:=0) rfl)).mono ?_
 rintro e w3 ⟨q1,c1,rfl,ho3,hx3⟩
 have M3:=xQ (show Mem w w3 [aJ w.heap.size TI 1 (q1) (n) (c1) (ivs ys),aJ w.heap.size TSL 2 (qs) (K) (cs) (sl.flatMap aM),aF w.heap.size (w.heap.size+1) TH3 #[.int .i64 0,.int .i64 0,.slice none 0 0],aF w.heap.size (w.heap.size) TH3 #[.int .i64 aA,.int .i64 aB,.slice p n cap]]from(M2.out).call hx3 ho3)
 clear M2
 clear lt2_1 lt2_2
 have lt3_2:=M3.out.hi 2
 have lt3_3:=M3.out.hi 3
 clear hx3 ho3
 go_wp2_with fail
 refine(HP.out _ q1 c1 M3.out.ext (M3.out.sl (i:=0) rfl)).mono ?_
 rintro e w4 ⟨q2,c2,rfl,ho4,hx4⟩
 have M4:=xQ (show Mem w w4 [aJ w.heap.size TI 1 (q2) (n) (c2) (ivs zs),aJ w.heap.size TI 1 (q1) (n) (c1) (ivs ys),aJ w.heap.size TSL 2 (qs) (K) (cs) (sl.flatMap aM),aF w.heap.size (w.heap.size+1) TH3 #[.int .i64 0,.int .i64 0,.slice none 0 0],aF w.heap.size (w.heap.size) TH3 #[.int .i64 aA,.int .i64 aB,.slice p n cap]]from(M3.out).call hx4 ho4)
 clear M3
 clear lt3_2 lt3_3
 have lt4_3:=M4.out.hi 3
 have lt4_4:=M4.out.hi 4
 clear hx4 ho4
 go_upto_region 7 with fail
 obtain⟨gV,hgV⟩: ∃gV,gV=w4.heap.size:=⟨_,rfl⟩
 rw[←hgV]
 have M5:=xQ (show Mem w (w4.alloc (.cells #[.int .i64 aA,.int .i64 aB,.slice q2 n c2] TH3)) [aF w.heap.size (gV) TH3 #[.int .i64 aA,.int .i64 aB,.slice q2 n c2],aJ w.heap.size TI 1 (q2) (n) (c2) (ivs zs),aJ w.heap.size TI 1 (q1) (n) (c1) (ivs ys),aJ w.heap.size TSL 2 (qs) (K) (cs) (sl.flatMap aM),aF w.heap.size (w.heap.size+1) TH3 #[.int .i64 0,.int .i64 0,.slice none 0 0],aF w.heap.size (w.heap.size) TH3 #[.int .i64 aA,.int .i64 aB,.slice p n cap]]from((M4.out).blkNew TH3 #[.int .i64 aA,.int .i64 aB,.slice q2 n c2] gV hgV.symm))
 generalize World.alloc _ _=w7 at M5⊢
 clear M4
 clear lt4_3 lt4_4
 have lt5_0:=M5.out.hi 0
 have lt5_4:=M5.out.hi 4
 have lt5_5:=M5.out.hi 5
 clear hgV
 obtain⟨v0,v1,v2⟩:=((M5.out.blk (i:=0) rfl)).tri
 obtain⟨z0,zf0,z1,zf1,z2,zf2⟩:=((M5.out.blk (i:=4) rfl)).trif
 have ne0_1a: ¬(gV=w.heap.size+1):=M5.out.ne (i:=0) (j:=4) (by omega) rfl rfl rfl rfl
 have ne0_1b: ¬(w.heap.size+1=gV):=fun h=>ne0_1a h.symm
 go_wp2
 have M6:=xQ (show Mem w ((w7.setCell ⟨w.heap.size+1,0,none⟩ (.int .i64 aA)).setCell ⟨w.heap.size+1,1,none⟩ (.int .i64 aB)) [aF w.heap.size (gV) TH3 #[.int .i64 aA,.int .i64 aB,.slice q2 n c2],aJ w.heap.size TI 1 (q2) (n) (c2) (ivs zs),aJ w.heap.size TI 1 (q1) (n) (c1) (ivs ys),aJ w.heap.size TSL 2 (qs) (K) (cs) (sl.flatMap aM),aF w.heap.size (w.heap.size+1) TH3 #[.int .i64 aA,.int .i64 aB,.slice none 0 0],aF w.heap.size (w.heap.size) TH3 #[.int .i64 aA,.int .i64 aB,.slice p n cap]]from((((M5.out).store (i:=4) rfl 0 (.int .i64 aA))).store (i:=4) rfl 1 (.int .i64 aB)))
 have M7:=xQ (show Mem w (((w7.setCell ⟨w.heap.size+1,0,none⟩ (.int .i64 aA)).setCell ⟨w.heap.size+1,1,none⟩ (.int .i64 aB)).setCell ⟨w.heap.size+1,2,none⟩ (.slice q2 n c2)) [aF w.heap.size (gV) TH3 #[.int .i64 aA,.int .i64 aB,.slice q2 n c2],aJ w.heap.size TI 1 (q2) (n) (c2) (ivs zs),aJ w.heap.size TI 1 (q1) (n) (c1) (ivs ys),aJ w.heap.size TSL 2 (qs) (K) (cs) (sl.flatMap aM),aF w.heap.size (w.heap.size+1) TH3 #[.int .i64 aA,.int .i64 aB,.slice q2 n c2],aF w.heap.size (w.heap.size) TH3 #[.int .i64 aA,.int .i64 aB,.slice p n cap]]from((M6.out).store (i:=4) rfl 2 (.slice q2 n c2)))
 clear v0 v1 v2 z0 zf0 z1 zf1 z2 zf2 ne0_1a ne0_1b
 have M8:=xQ (show Mem w (((w7.setCell ⟨w.heap.size+1,0,none⟩ (.int .i64 aA)).setCell ⟨w.heap.size+1,1,none⟩ (.int .i64 aB)).setCell ⟨w.heap.size+1,2,none⟩ (.slice q2 n c2)) [aF w.heap.size (gV) TH3 #[.int .i64 aA,.int .i64 aB,.slice q2 n c2],aJ w.heap.size TI 1 (q2) (n) (c2) (ivs zs),aJ w.heap.size TI 1 (q1) (n) (c1) (ivs ys),aJ w.heap.size TSL 2 (qs) (K) (cs) (sl.flatMap aM),aF w.heap.size (w.heap.size+1) TH3 #[.int .i64 aA,.int .i64 aB,.slice q2 n c2],aF w.heap.size (w.heap.size) TH3 #[.int .i64 aA,.int .i64 aB,.slice p n cap]]from M7.out)
 generalize hwz:World.setCell _ _ _=wz
 rw[hwz]at M8
 clear hwz M5 M6 M7
 obtain⟨y0,y1,y2⟩:=((M8.out.blk (i:=4) rfl)).tri
 exact bodyPost_ret (v:= .tuple #[.agg #[.int .i64 aA,.int .i64 aB,.slice q2 n c2],.int .i64 (K:Int)]) (by simp[results,Tryz.results79,go_sem, *]) rfl (dJ hlen.out (M8.out.own (i:=1) rfl) M8.out.ext)
theorem mC {aA aB:Int}: ∀(l:List Sl2) (xs ys:List Int),aW aA aB xs l=(ys,l.length)→cP aA aB xs l=ys
 | [],xs,ys,h=>by
   simp only[aW,Prod.mk.injEq]at h
   exact h.1
 |s::l,xs,ys,h=>by
  show cP aA aB (bA aA aB xs s.1 s.2) l=ys
  cases hm:aZ aA aB xs s.1 s.2 with
  |false=>rw[gZ hm]at h;simp at h
  |true=>
   rw[dG hm]at h
   simp only[Prod.mk.injEq,List.length_cons]at h
   exact mC l _ ys (Prod.ext h.1 (by have:=h.2;dsimp only;omega))
theorem aBt (aA aB id:Int)(p:Option Addr)(n cap:Nat)(xs:List Int)(w:World)(hS:Sl w p n cap 1 (ivs xs))(hok:aP aA aB xs=true):
  Calls Tryz.prog 79 #[aK aA aB p n cap,.int .i64 id] w (bY aA aB (bT aA aB xs id).1 (bT aA aB xs id).2 w):=by
 have hl:=hS.ilen
 subst hl
 obtain⟨g1,g2,g3,g4,g5,g6,g7⟩:=bU (bW hok)
 have HV: ∀w',Ext w w'→Calls Tryz.prog 73 #[aK aA aB p xs.length cap] w' fun e w''=>e= .returned (.bool true)∧Ext w' w'':=fun w' hy=>by
  have:=eR aA aB p xs.length cap xs w' (hS.ext hy)
  rwa[hok]at this
 have HL:=fun(w':World) (hy:Ext w w')=>iS aA aB p xs.length cap xs w' (by omega) (hS.ext hy)
 have HC:=fun(w':World) (hy:Ext w w')=>aGg aA aB p xs.length cap xs w' (hS.ext hy) hok
 cases hr:fA aA xs with
 |none=>
  have e:bT aA aB xs id=(xs,-1):=by unfold bT iX;rw[hr]
  rw[e]
  rw[hr]at HC
  exact tW aA aB id p xs.length cap xs w rfl HV HC HL
 |some r=>
  rw[hr]at HC
  obtain⟨f1,f2,f3,f4,f5⟩:=kX hok hr
  have hdo:cP aA aB xs r.2=r.1:=mC _ _ _ f1
  have HR: ∀w' q c,Ext w w'→Sl w' q r.2.length c 2 (r.2.flatMap aM)→Calls Tryz.prog 111 #[aK aA aB p xs.length cap,.slice q r.2.length c] w' fun e w''=> ∃q c,e= .returned (aK aA aB q xs.length c)∧w''.ownsRow w'.heap.size TI 1 (.slice q xs.length c) xs.length (ivs r.1)∧Ext w' w'':=fun w' q c hy hL=>by
   have:=sL aA aB p xs.length cap xs q r.2.length c r.2 w' rfl (hS.ext hy) hok hL
   rw[hdo]at this
   unfold cW at this
   rw[f3]at this
   exact this
  have HP: ∀w' q c,Ext w w'→Sl w' q xs.length c 1 (ivs r.1)→Calls Tryz.prog 110 #[aK aA aB q xs.length c,.int .i64 0,.int .i64 id] w' fun e w''=> ∃q c,e= .returned (.tuple #[aK aA aB q xs.length c,.bool (cD aA aB r.1 id).2])∧w''.ownsRow w'.heap.size TI 1 (.slice q xs.length c) xs.length (ivs (cD aA aB r.1 id).1)∧Ext w' w'':=fun w' q c hy hL=>by
   have:=aGc aA aB id q xs.length c r.1 w' hL f2
   unfold bZ at this
   rw[jC,f3]at this
   exact this
  cases hb:(cD aA aB r.1 id).2 with
  |false=>
   have e:bT aA aB xs id=(xs,-1):=by simp[bT,iX,hr,hb]
   rw[e]
   rw[hb]at HP
   exact zF aA aB id p xs.length cap r.2.length xs r.1 (cD aA aB r.1 id).1 r.2 w rfl HV HC HR HP HL
  |true=>
   have e:bT aA aB xs id=((cD aA aB r.1 id).1,(r.2.length:Int)):=by simp[bT,iX,hr,hb]
   rw[e]
   rw[hb]at HP
   exact wE aA aB id p xs.length cap r.2.length r.1 (cD aA aB r.1 id).1 r.2 w (show _=_ by rw[jC,f3]) HV HC HR HP
set_option maxRecDepth 100000 in
set_option maxHeartbeats 1000000 in
theorem yP (id:Int)(p:Option Addr)(n cap:Nat)(xs:List Int)(w:World)(hS:Sl w p n cap 1 (ivs xs)):
  Calls Tryz.prog 159 #[.slice p n cap,.int .i64 id] w fun e w'=>e= .returned (.int .i64 (lL xs id))∧Ext w w':=by
 have hbd:=hS.bd
 have HS:=xQ hS
 have hl:=xQ hS.ilen
 clear hS
 go_enter Tryz.func159,Tryz.ntmps159
 go_wp2
 go_loop [8] (fun i=> ∃k:Nat,k≤n∧i= .int .i64 k∧id∉xs.take k) (fun i=>n-(intOf i).toNat)
 case atStart=>exact⟨0,Nat.zero_le _,rfl,by simp⟩
 case round=>
  obtain⟨k,hk,rfl,hc⟩:=hrel
  have HC:=xQ hc
  clear hc
  by_cases hlt:k<n
  ·obtain⟨b,off,y,rfl,hx,hb,hcell⟩:=HS.out.int_at hlt
   have HX:=xQ hx
   clear hx
   by_cases hy:y=id
   ·have t1:(id==y)=true:=by simp[hy]
    have hfin:Hid (lL xs id=k):=mU (by rw[HX.out,hy]) HC.out
    clear hy
    go_wp2
    go_ret
    exact⟨dR hfin.out.symm,by exact .refl _⟩
   ·have t1:(id==y)=false:=by simp;exact fun e=>hy e.symm
    have hfin:Hid (id∉xs.take (k+1)):=by
     show _∉_
     rw[bH HX.out,List.mem_append,List.mem_singleton]
     exact fun h=>h.elim HC.out (fun e=>hy e.symm)
    clear hy
    go_wp2
    go_round
    case rel=>exact⟨k+1,by omega,by go_num,hfin.out⟩
    case measure=>simp[intOf];omega
  ·have hfin:Hid (lL xs id= -1):=nY (by have:=HC.out;rwa[List.take_of_length_le (by rw[hl.out];omega)]at this)
   go_wp2
   go_ret
   exact⟨dR hfin.out.symm,by exact .refl _⟩
set_option maxRecDepth 100000 in
set_option maxHeartbeats 1000000 in
theorem rI (aA aB id:Int)(p:Option Addr)(n cap:Nat)(b:Bool)(w:World)(hb:b=false∨b=true∧id<1)(HV:Hid (∀w',Ext w w'→Calls Tryz.prog 73 #[aK aA aB p n cap] w' fun e w''=>e= .returned (.bool b)∧Ext w' w'')):
  Calls Tryz.prog 137 #[aK aA aB p n cap,.int .i64 id] w fun e w'=>e= .returned (.int .i64 (-1))∧Ext w w':=by
 rcases hb with rfl|⟨rfl,hi⟩
 all_goals
  go_enter Tryz.func137,Tryz.ntmps137
  go_wp2_with fail
  refine(HV.out _ (by exact .alloc (.refl _) _)).mono ?_
  rintro e w1 ⟨rfl,hh1⟩
  go_wp2
  go_ret
  exact⟨rfl,by exact .trans (.alloc (.refl _) _) hh1⟩
set_option maxRecDepth 100000 in
set_option maxHeartbeats 1000000 in
theorem tY (aA aB id:Int)(p:Option Addr)(n cap:Nat)(xs:List Int)(w:World)(hi:1≤id)(HI:Hid (∀w',Ext w w'→Calls Tryz.prog 159 #[.slice p n cap,.int .i64 id] w' fun e w''=>e= .returned (.int .i64 (lL xs id))∧Ext w' w''))(HV:Hid (∀w',Ext w w'→Calls Tryz.prog 73 #[aK aA aB p n cap] w' fun e w''=>e= .returned (.bool true)∧Ext w' w'')):
  Calls Tryz.prog 137 #[aK aA aB p n cap,.int .i64 id] w fun e w'=>e= .returned (.int .i64 (lL xs id))∧Ext w w':=by
 go_enter Tryz.func137,Tryz.ntmps137
 go_wp2_with fail
 refine(HV.out _ (by exact .alloc (.refl _) _)).mono ?_
 rintro e w1 ⟨rfl,hh1⟩
 have hB:=(Blk.new w TH3 #[.int .i64 aA,.int .i64 aB,.slice p n cap]).ext hh1
 have X1:=xQ (show Ext w w1 by exact .trans (.alloc (.refl _) _) hh1)
 obtain⟨b0,b1,b2⟩:=hB.cells3
 have hsz:w.heap.size<w1.heap.size:=hB.lt
 clear hh1 hB
 go_wp2_with fail
 refine(HI.out _ X1.out).mono ?_
 rintro e w2 ⟨rfl,hh2⟩
 have X2:=X1.out.trans hh2
 go_wp2
 go_ret
 exact⟨rfl,X2⟩
theorem sK (aA aB id:Int)(p:Option Addr)(n cap:Nat)(xs:List Int)(w:World)(hS:Sl w p n cap 1 (ivs xs)):
  Calls Tryz.prog 137 #[aK aA aB p n cap,.int .i64 id] w fun e w'=>e= .returned (.int .i64 (fM aA aB xs id))∧Ext w w':=by
 have HV:=fun(w':World) (hx:Ext w w')=>eR aA aB p n cap xs w' (hS.ext hx)
 unfold fM
 by_cases h:aP aA aB xs=true∧1≤id
 ·rw[if_pos h]
  rw[h.1]at HV
  exact tY aA aB id p n cap xs w h.2 (xQ fun w' hx=>yP id p n cap xs w' (hS.ext hx)) (xQ HV)
 ·rw[if_neg h]
  refine rI aA aB id p n cap (aP aA aB xs) w ?_ (xQ HV)
  cases hh:aP aA aB xs with
  |false=>exact .inl rfl
  |true=>
   refine .inr ⟨rfl,?_⟩
   by_cases h1:1≤id
   ·exact absurd ⟨hh,h1⟩ h
   ·omega
theorem aGi (aA aB:Int)(c:Nat)(id:Int)(p:Option Addr)(n cap:Nat)(xs:List Int)(w:World)(hS:Sl w p n cap 1 (ivs xs))(hok:aP aA aB xs=true)(hc:xs[c]? =some id) (h0:id≠0) (hE:BitTab w):
  Calls Tryz.prog 138 #[aK aA aB p n cap,.int .i64 (c:Int)] w (gI (cR aA xs c) w):=by
 have hl:=hS.ilen
 subst hl
 obtain⟨g1,g2,g3,g4,g5,g6,g7,g8,g9⟩:=bL hok
 have hpow:(2:Nat) ^ xs.length≤4096:=Nat.le_trans (Nat.pow_le_pow_right (by omega) g6) (by decide)
 have hpos:=Nat.two_pow_pos xs.length
 have hcl:=(List.getElem?_eq_some_iff.1 hc).1
 have hN:xs.length*2 ^ xs.length≤12*4096:=Nat.mul_le_mul g6 hpow
 have hC:c*2 ^ xs.length≤12*4096:=Nat.mul_le_mul (by omega) hpow
 have hnN:xs.length≤xs.length*2 ^ xs.length:=Nat.le_mul_of_pos_right _ hpos
 obtain⟨p1,p2,p3⟩:=nK hok hc h0
 have hD:=iT (aA:=aA) (many:=(bE xs).length) g6
 have hbd:=(mX g5 g6 hD).bd
 obtain⟨pb,po,rfl,hb,hcc⟩:=hS.rd (by omega)
 have hSOK: ∀(k:Nat) (B:List Int) (Q:List Nat),aF1 aA xs c k B Q→SOk (xs.length*2 ^ xs.length) B Q:=fun k B Q hr=>(hr.ok p1 hbd).1
 refine aEc aA aB pb po xs.length cap (xs.length*2 ^ xs.length) (2 ^ xs.length) c (c*2 ^ xs.length) (dP xs.length (st0 xs c)) xs (cG xs) (fun u=>kG aA xs.length (2 ^ xs.length) u) w g5 g6 rfl hb hE (by omega) hnN hC rfl rfl rfl rfl p1 (by simp) ?_ ?_ (fun k x hx=> ?_) rfl (fun k x hx=> ?_) (fun k hk w' hx=> ?_) (fun u v hu hv=>hbd u v hu hv) (fun k B Q hr=>hSOK k B Q hr) (fun k u B Q hr hu hz=> ?_) (fun k B Q hr hk=>yO hok g5 g6 hc h0 hr hk)
 ·have e:(c:Int)*((2 ^ xs.length:Nat):Int)=((c*2 ^ xs.length:Nat):Int):=by push_cast;rfl
  rw[e];exact IntWalk.i64_in _ (by omega)
 ·have e:(xs.length:Int)*((2 ^ xs.length:Nat):Int)=((xs.length*2 ^ xs.length:Nat):Int):=by push_cast;rfl
  rw[e];exact IntWalk.i64_in _ (by omega)
 ·have hk:=(List.getElem?_eq_some_iff.1 hx).1
  rw[eH hk,List.getD_eq_getElem?_getD,hx];rfl
 ·have hk:=(List.getElem?_eq_some_iff.1 hx).1
  rw[hcc k (by omega)]
  simp only[ivs,List.getElem?_map,hx,Option.map_some]
 ·have:=zU aA aB k _ xs.length cap xs w' (hS.ext hx) hok (by omega) (by omega)
  rwa[iK]at this
 ·obtain⟨d,hd⟩:=vM hok g5 g6 hc h0 hr hu hz
  exact⟨d,_,_,hd.d60,hd.trail g6 (hSOK k B Q hr).len,rfl,hd.last.symm,hd.way⟩
set_option maxRecDepth 100000 in
set_option maxHeartbeats 4000000 in
theorem aC9 (aA aB id:Int)(p:Option Addr)(n cap:Nat)(w:World)
  (HF:Hid (∀w',Ext w w'→Calls Tryz.prog 137 #[aK aA aB p n cap,.int .i64 id] w' fun e w''=>e= .returned (.int .i64 (-1))∧Ext w' w'')):
  Calls Tryz.prog 119 #[aK aA aB p n cap,.int .i64 id] w (gI none w):=by
 go_enter Tryz.func119,Tryz.ntmps119
 go_wp2_with fail
 refine(HF.out _ (Mem.b1 w).ext).mono ?_
 rintro e w1 ⟨rfl,hx1⟩
 have M1:=xQ (show Mem w w1 [aF w.heap.size (w.heap.size) TH3 #[.int .i64 aA,.int .i64 aB,.slice p n cap]]from(Mem.b1 w).adv hx1)
 have lt1_0:=M1.out.hi 0
 clear hx1
 have HX:=xQ (M1.out.ext)
 go_wp2
 exact bodyPost_ret (v:= .tuple #[.slice none 0 0,.bool false]) (by simp[results,Tryz.results119,go_sem, *]) rfl ⟨_,rfl,HX.out⟩
set_option maxRecDepth 100000 in
set_option maxHeartbeats 4000000 in
theorem zV (aA aB id:Int)(c:Nat)(p:Option Addr)(n cap:Nat)(r:Option (List Sl2))(w:World)
  (HF:Hid (∀w',Ext w w'→Calls Tryz.prog 137 #[aK aA aB p n cap,.int .i64 id] w' fun e w''=>e= .returned (.int .i64 (c:Int))∧Ext w' w''))
  (HB:Hid (∀w',Ext w w'→Calls Tryz.prog 138 #[aK aA aB p n cap,.int .i64 (c:Int)] w' (gI r w'))):
  Calls Tryz.prog 119 #[aK aA aB p n cap,.int .i64 id] w (gI r w):=by
 have t0: ¬((c:Int)<0):=by omega
 go_enter Tryz.func119,Tryz.ntmps119
 go_wp2_with fail
 refine(HF.out _ (Mem.b1 w).ext).mono ?_
 rintro e w1 ⟨rfl,hx1⟩
 have M1:=xQ (show Mem w w1 [aF w.heap.size (w.heap.size) TH3 #[.int .i64 aA,.int .i64 aB,.slice p n cap]]from(Mem.b1 w).adv hx1)
 have lt1_0:=M1.out.hi 0
 clear hx1
 obtain⟨h0,h1,h2⟩:=((M1.out.blk (i:=0) rfl)).tri
 go_wp2_with fail
 clear h0 h1 h2
 have HX:=xQ (M1.out.ext)
 refine(HB.out _ HX.out).mono ?_
 intro e w9 hr
 have HB2:=xQ hr
 clear hr HB
 cases r with
 |none=>
  obtain⟨v,rfl,hx9⟩:=HB2.out
  go_wp2
  exact bodyPost_ret (v:= .tuple #[v,.bool false]) (by simp[results,Tryz.results119,go_sem, *]) rfl ⟨_,rfl,HX.out.trans hx9⟩
 |some l=>
  obtain⟨q9,c9,rfl,o9,hx9⟩:=HB2.out
  go_wp2
  exact bodyPost_ret (v:= .tuple #[.slice q9 l.length c9,.bool true]) (by simp[results,Tryz.results119,go_sem, *]) rfl ⟨q9,c9,rfl,bG o9 HX.out.sz,HX.out.trans hx9⟩
set_option maxRecDepth 100000 in
set_option maxHeartbeats 4000000 in
theorem qI (aA aB id:Int)(p:Option Addr)(n cap:Nat)(xs:List Int)(w:World)(hlen:Hid (xs.length=n))
  (HV:Hid (∀w',Ext w w'→Calls Tryz.prog 73 #[aK aA aB p n cap] w' fun e w''=>e= .returned (.bool true)∧Ext w' w''))
  (HB:Hid (∀w',Ext w w'→Calls Tryz.prog 119 #[aK aA aB p n cap,.int .i64 id] w' fun e w''=> ∃v,e= .returned (.tuple #[v,.bool false])∧Ext w' w''))
  (HL:Hid (∀w',Ext w w'→Calls Tryz.prog 77 #[aK aA aB p n cap] w' fun e w''=> ∃q c,e= .returned (aK aA aB q n c)∧w''.ownsRow w'.heap.size TI 1 (.slice q n c) n (ivs xs)∧Ext w' w'')):
  Calls Tryz.prog 84 #[aK aA aB p n cap,.int .i64 id] w (bY aA aB xs (-1) w):=by
 go_enter Tryz.func84,Tryz.ntmps84
 go_wp2_with fail
 refine(HV.out _ (Mem.b2 w).ext).mono ?_
 rintro e w1 ⟨rfl,hx1⟩
 have M1:=xQ (show Mem w w1 [aF w.heap.size (w.heap.size+1) TH3 #[.int .i64 0,.int .i64 0,.slice none 0 0],aF w.heap.size (w.heap.size) TH3 #[.int .i64 aA,.int .i64 aB,.slice p n cap]]from(Mem.b2 w).adv hx1)
 have lt1_0:=M1.out.hi 0
 have lt1_1:=M1.out.hi 1
 clear hx1
 obtain⟨h0,h1,h2⟩:=((M1.out.blk (i:=1) rfl)).tri
 go_wp2_with fail
 clear h0 h1 h2
 refine(HB.out _ M1.out.ext).mono ?_
 rintro e w2 ⟨v,rfl,hx2⟩
 have M2:=xQ (show Mem w w2 [aF w.heap.size (w.heap.size+1) TH3 #[.int .i64 0,.int .i64 0,.slice none 0 0],aF w.heap.size (w.heap.size) TH3 #[.int .i64 aA,.int .i64 aB,.slice p n cap]]from(M1.out).adv hx2)
 clear M1
 clear lt1_0 lt1_1
 have lt2_0:=M2.out.hi 0
 have lt2_1:=M2.out.hi 1
 clear hx2
 obtain⟨h0,h1,h2⟩:=((M2.out.blk (i:=1) rfl)).tri
 go_wp2_with fail
 clear h0 h1 h2
 refine(HL.out _ M2.out.ext).mono ?_
 rintro e w3 ⟨q0,c0,rfl,ho3,hx3⟩
 have M3:=xQ (show Mem w w3 [aJ w.heap.size TI 1 (q0) (n) (c0) (ivs xs),aF w.heap.size (w.heap.size+1) TH3 #[.int .i64 0,.int .i64 0,.slice none 0 0],aF w.heap.size (w.heap.size) TH3 #[.int .i64 aA,.int .i64 aB,.slice p n cap]]from(M2.out).call hx3 ho3)
 clear M2
 clear lt2_0 lt2_1
 have lt3_1:=M3.out.hi 1
 have lt3_2:=M3.out.hi 2
 clear hx3 ho3
 obtain⟨z0,zf0,z1,zf1,z2,zf2⟩:=((M3.out.blk (i:=1) rfl)).trif
 go_wp2
 have M4:=xQ (show Mem w ((w3.setCell ⟨w.heap.size+1,0,none⟩ (.int .i64 aA)).setCell ⟨w.heap.size+1,1,none⟩ (.int .i64 aB)) [aJ w.heap.size TI 1 (q0) (n) (c0) (ivs xs),aF w.heap.size (w.heap.size+1) TH3 #[.int .i64 aA,.int .i64 aB,.slice none 0 0],aF w.heap.size (w.heap.size) TH3 #[.int .i64 aA,.int .i64 aB,.slice p n cap]]from((((M3.out).store (i:=1) rfl 0 (.int .i64 aA))).store (i:=1) rfl 1 (.int .i64 aB)))
 have M5:=xQ (show Mem w (((w3.setCell ⟨w.heap.size+1,0,none⟩ (.int .i64 aA)).setCell ⟨w.heap.size+1,1,none⟩ (.int .i64 aB)).setCell ⟨w.heap.size+1,2,none⟩ (.slice q0 n c0)) [aJ w.heap.size TI 1 (q0) (n) (c0) (ivs xs),aF w.heap.size (w.heap.size+1) TH3 #[.int .i64 aA,.int .i64 aB,.slice q0 n c0],aF w.heap.size (w.heap.size) TH3 #[.int .i64 aA,.int .i64 aB,.slice p n cap]]from((M4.out).store (i:=1) rfl 2 (.slice q0 n c0)))
 clear z0 zf0 z1 zf1 z2 zf2
 have M6:=xQ (show Mem w (((w3.setCell ⟨w.heap.size+1,0,none⟩ (.int .i64 aA)).setCell ⟨w.heap.size+1,1,none⟩ (.int .i64 aB)).setCell ⟨w.heap.size+1,2,none⟩ (.slice q0 n c0)) [aJ w.heap.size TI 1 (q0) (n) (c0) (ivs xs),aF w.heap.size (w.heap.size+1) TH3 #[.int .i64 aA,.int .i64 aB,.slice q0 n c0],aF w.heap.size (w.heap.size) TH3 #[.int .i64 aA,.int .i64 aB,.slice p n cap]]from M5.out)
 generalize hwz:World.setCell _ _ _=wz
 rw[hwz]at M6
 clear hwz M3 M4 M5
 obtain⟨y0,y1,y2⟩:=((M6.out.blk (i:=1) rfl)).tri
 exact bodyPost_ret (v:= .tuple #[.agg #[.int .i64 aA,.int .i64 aB,.slice q0 n c0],.int .i64 (-1)]) (by simp[results,Tryz.results84,go_sem, *]) rfl (dJ hlen.out (M6.out.own (i:=0) rfl) M6.out.ext)
set_option maxRecDepth 100000 in
set_option maxHeartbeats 4000000 in
theorem wR (aA aB id:Int)(p:Option Addr)(n cap K:Nat)(y0:Int)(ys:List Int)(sl:List Sl2)(w:World)(hn0:0<n)(hlen:Hid (ys.length=n))(HY0:Hid (ys[0]? =some y0))
  (HV:Hid (∀w',Ext w w'→Calls Tryz.prog 73 #[aK aA aB p n cap] w' fun e w''=>e= .returned (.bool true)∧Ext w' w''))
  (HB:Hid (∀w',Ext w w'→Calls Tryz.prog 119 #[aK aA aB p n cap,.int .i64 id] w' fun e w''=> ∃q c,e= .returned (.tuple #[.slice q K c,.bool true])∧w''.ownsRow w'.heap.size TSL 2 (.slice q K c) K (sl.flatMap aM)∧Ext w' w''))
  (HR:Hid (∀w' q c,Ext w w'→Sl w' q K c 2 (sl.flatMap aM)→Calls Tryz.prog 111 #[aK aA aB p n cap,.slice q K c] w' fun e w''=> ∃q c,e= .returned (aK aA aB q n c)∧w''.ownsRow w'.heap.size TI 1 (.slice q n c) n (ivs ys)∧Ext w' w'')):
  Calls Tryz.prog 84 #[aK aA aB p n cap,.int .i64 id] w (bY aA aB (ys.set 0 0) (K:Int) w):=by
 go_enter Tryz.func84,Tryz.ntmps84
 go_wp2_with fail
 refine(HV.out _ (Mem.b2 w).ext).mono ?_
 rintro e w1 ⟨rfl,hx1⟩
 have M1:=xQ (show Mem w w1 [aF w.heap.size (w.heap.size+1) TH3 #[.int .i64 0,.int .i64 0,.slice none 0 0],aF w.heap.size (w.heap.size) TH3 #[.int .i64 aA,.int .i64 aB,.slice p n cap]]from(Mem.b2 w).adv hx1)
 have lt1_0:=M1.out.hi 0
 have lt1_1:=M1.out.hi 1
 clear hx1
 obtain⟨h0,h1,h2⟩:=((M1.out.blk (i:=1) rfl)).tri
 go_wp2_with fail
 clear h0 h1 h2
 refine(HB.out _ M1.out.ext).mono ?_
 rintro e w2 ⟨qs,cs,rfl,ho2,hx2⟩
 have M2:=xQ (show Mem w w2 [aJ w.heap.size TSL 2 (qs) (K) (cs) (sl.flatMap aM),aF w.heap.size (w.heap.size+1) TH3 #[.int .i64 0,.int .i64 0,.slice none 0 0],aF w.heap.size (w.heap.size) TH3 #[.int .i64 aA,.int .i64 aB,.slice p n cap]]from(M1.out).call hx2 ho2)
 clear M1
 clear lt1_0 lt1_1
 have lt2_1:=M2.out.hi 1
 have lt2_2:=M2.out.hi 2
 clear hx2 ho2
 obtain⟨h0,h1,h2⟩:=((M2.out.blk (i:=2) rfl)).tri
 go_wp2_with fail
 clear h0 h1 h2
 refine(HR.out _ qs cs M2.out.ext (M2.out.sl (i:=0) rfl)).mono ?_
 rintro e w3 ⟨q1,c1,rfl,ho3,hx3⟩
 have M3:=xQ (show Mem w w3 [aJ w.heap.size TI 1 (q1) (n) (c1) (ivs ys),aJ w.heap.size TSL 2 (qs) (K) (cs) (sl.flatMap aM),aF w.heap.size (w.heap.size+1) TH3 #[.int .i64 0,.int .i64 0,.slice none 0 0],aF w.heap.size (w.heap.size) TH3 #[.int .i64 aA,.int .i64 aB,.slice p n cap]]from(M2.out).call hx3 ho3)
 clear M2
 clear lt2_1 lt2_2
 have lt3_2:=M3.out.hi 2
 have lt3_3:=M3.out.hi 3
 clear hx3 ho3
 obtain⟨g,rfl,hg1,hg2⟩:=M3.out.some (i:=0) rfl (by omega)
 clear hg1 hg2
 go_upto_region 7 with fail
 obtain⟨gV,hgV⟩: ∃gV,gV=w3.heap.size:=⟨_,rfl⟩
 rw[←hgV]
 have M4:=xQ (show Mem w (w3.alloc (.cells #[.int .i64 aA,.int .i64 aB,.slice (some ⟨g,0,none⟩) n c1] TH3)) [aF w.heap.size (gV) TH3 #[.int .i64 aA,.int .i64 aB,.slice (some ⟨g,0,none⟩) n c1],aJ w.heap.size TI 1 (some ⟨g,0,none⟩) (n) (c1) (ivs ys),aJ w.heap.size TSL 2 (qs) (K) (cs) (sl.flatMap aM),aF w.heap.size (w.heap.size+1) TH3 #[.int .i64 0,.int .i64 0,.slice none 0 0],aF w.heap.size (w.heap.size) TH3 #[.int .i64 aA,.int .i64 aB,.slice p n cap]]from((M3.out).blkNew TH3 #[.int .i64 aA,.int .i64 aB,.slice (some ⟨g,0,none⟩) n c1] gV hgV.symm))
 generalize World.alloc _ _=w7 at M4⊢
 clear M3
 clear lt3_2 lt3_3
 have lt4_0:=M4.out.hi 0
 have lt4_3:=M4.out.hi 3
 have lt4_4:=M4.out.hi 4
 clear hgV
 obtain⟨v0,v1,v2⟩:=((M4.out.blk (i:=0) rfl)).tri
 have gi:w7.cell? ⟨g,0,none⟩=some (.int .i64 y0):=by have:=(M4.out.own (i:=1) rfl).cellAt 0 (by omega);rw[this];simpa[ivs]using HY0.out
 have gif:w7.frozen? ⟨g,0,none⟩=false:=(M4.out.own (i:=1) rfl).frozenAt 0
 have nc0_1a: ¬(gV=g):=M4.out.ne (i:=0) (j:=1) (by omega) rfl rfl rfl rfl
 have nc0_1b: ¬(g=gV):=fun h=>nc0_1a h.symm
 go_upto_region 8 with fail
 clear v0 v1 v2 nc0_1a nc0_1b gi gif
 have MX:=xQ (show Mem w (w7.setCell ⟨g,0,none⟩ (.int .i64 0)) [aF w.heap.size (gV) TH3 #[.int .i64 aA,.int .i64 aB,.slice (some ⟨g,0,none⟩) n c1],aJ w.heap.size TI 1 (some ⟨g,0,none⟩) (n) (c1) (ivs (ys.set 0 0)),aJ w.heap.size TSL 2 (qs) (K) (cs) (sl.flatMap aM),aF w.heap.size (w.heap.size+1) TH3 #[.int .i64 0,.int .i64 0,.slice none 0 0],aF w.heap.size (w.heap.size) TH3 #[.int .i64 aA,.int .i64 aB,.slice p n cap]]from by rw[←cZ];exact M4.out.ostore (i:=1) rfl 0 (.int .i64 0))
 generalize hw5:World.setCell _ _ _=w8
 rw[hw5]at MX
 clear hw5 M4 lt4_0 lt4_3 lt4_4
 have lt9_0:gV<w8.heap.size:=(MX.out.lt (i:=0) rfl rfl).2
 have lt9_3:w.heap.size+1<w8.heap.size:=(MX.out.lt (i:=3) rfl rfl).2
 have lt9_4:w.heap.size<w8.heap.size:=(MX.out.lt (i:=4) rfl rfl).2
 obtain⟨v0,v1,v2⟩:=((MX.out.blk (i:=0) rfl)).tri
 obtain⟨z0,zf0,z1,zf1,z2,zf2⟩:=((MX.out.blk (i:=3) rfl)).trif
 have ne0_1a: ¬(gV=w.heap.size+1):=MX.out.ne (i:=0) (j:=3) (by omega) rfl rfl rfl rfl
 have ne0_1b: ¬(w.heap.size+1=gV):=fun h=>ne0_1a h.symm
 go_wp2
 have M10:=xQ (show Mem w ((w8.setCell ⟨w.heap.size+1,0,none⟩ (.int .i64 aA)).setCell ⟨w.heap.size+1,1,none⟩ (.int .i64 aB)) [aF w.heap.size (gV) TH3 #[.int .i64 aA,.int .i64 aB,.slice (some ⟨g,0,none⟩) n c1],aJ w.heap.size TI 1 (some ⟨g,0,none⟩) (n) (c1) (ivs (ys.set 0 0)),aJ w.heap.size TSL 2 (qs) (K) (cs) (sl.flatMap aM),aF w.heap.size (w.heap.size+1) TH3 #[.int .i64 aA,.int .i64 aB,.slice none 0 0],aF w.heap.size (w.heap.size) TH3 #[.int .i64 aA,.int .i64 aB,.slice p n cap]]from((((MX.out).store (i:=3) rfl 0 (.int .i64 aA))).store (i:=3) rfl 1 (.int .i64 aB)))
 have M11:=xQ (show Mem w (((w8.setCell ⟨w.heap.size+1,0,none⟩ (.int .i64 aA)).setCell ⟨w.heap.size+1,1,none⟩ (.int .i64 aB)).setCell ⟨w.heap.size+1,2,none⟩ (.slice (some ⟨g,0,none⟩) n c1)) [aF w.heap.size (gV) TH3 #[.int .i64 aA,.int .i64 aB,.slice (some ⟨g,0,none⟩) n c1],aJ w.heap.size TI 1 (some ⟨g,0,none⟩) (n) (c1) (ivs (ys.set 0 0)),aJ w.heap.size TSL 2 (qs) (K) (cs) (sl.flatMap aM),aF w.heap.size (w.heap.size+1) TH3 #[.int .i64 aA,.int .i64 aB,.slice (some ⟨g,0,none⟩) n c1],aF w.heap.size (w.heap.size) TH3 #[.int .i64 aA,.int .i64 aB,.slice p n cap]]from((M10.out).store (i:=3) rfl 2 (.slice (some ⟨g,0,none⟩) n c1)))
 clear v0 v1 v2 z0 zf0 z1 zf1 z2 zf2 ne0_1a ne0_1b
 have M12:=xQ (show Mem w (((w8.setCell ⟨w.heap.size+1,0,none⟩ (.int .i64 aA)).setCell ⟨w.heap.size+1,1,none⟩ (.int .i64 aB)).setCell ⟨w.heap.size+1,2,none⟩ (.slice (some ⟨g,0,none⟩) n c1)) [aF w.heap.size (gV) TH3 #[.int .i64 aA,.int .i64 aB,.slice (some ⟨g,0,none⟩) n c1],aJ w.heap.size TI 1 (some ⟨g,0,none⟩) (n) (c1) (ivs (ys.set 0 0)),aJ w.heap.size TSL 2 (qs) (K) (cs) (sl.flatMap aM),aF w.heap.size (w.heap.size+1) TH3 #[.int .i64 aA,.int .i64 aB,.slice (some ⟨g,0,none⟩) n c1],aF w.heap.size (w.heap.size) TH3 #[.int .i64 aA,.int .i64 aB,.slice p n cap]]from M11.out)
 generalize hwz:World.setCell _ _ _=wz
 rw[hwz]at M12
 clear hwz MX M10 M11
 obtain⟨y0,y1,y2⟩:=((M12.out.blk (i:=3) rfl)).tri
 exact bodyPost_ret (v:= .tuple #[.agg #[.int .i64 aA,.int .i64 aB,.slice (some ⟨g,0,none⟩) n c1],.int .i64 (K:Int)]) (by simp[results,Tryz.results84,go_sem, *]) rfl (dJ (by rw[List.length_set];exact hlen.out) (M12.out.own (i:=1) rfl) M12.out.ext)
theorem aC5 (aA aB id:Int)(p:Option Addr)(n cap:Nat)(xs:List Int)(w:World)(hS:Sl w p n cap 1 (ivs xs))(hok:aP aA aB xs=true)(hE:BitTab w):
  Calls Tryz.prog 84 #[aK aA aB p n cap,.int .i64 id] w (bY aA aB (bN aA aB xs id).1 (bN aA aB xs id).2 w):=by
 have hl:=hS.ilen
 subst hl
 obtain⟨g1,g2,g3,g4,g5,g6,g7⟩:=bU (bW hok)
 have HV: ∀w',Ext w w'→Calls Tryz.prog 73 #[aK aA aB p xs.length cap] w' fun e w''=>e= .returned (.bool true)∧Ext w' w'':=fun w' hy=>by
  have:=eR aA aB p xs.length cap xs w' (hS.ext hy)
  rwa[hok]at this
 have HL:=fun(w':World) (hy:Ext w w')=>iS aA aB p xs.length cap xs w' (by omega) (hS.ext hy)
 by_cases hno:id<1∨id∉xs
 ·have e:bN aA aB xs id=(xs,-1):=by unfold bN jD;rw[if_pos hno]
  rw[e]
  refine qI aA aB id p xs.length cap xs w rfl HV (fun w' hy=> ?_) HL
  refine aC9 aA aB id p xs.length cap w' (fun w2 hy2=> ?_)
  have:=sK aA aB id p xs.length cap xs w2 (hS.ext (hy.trans hy2))
  rwa[aAk hno]at this
 ·have hid0:1≤id:=by omega
  have hm:id∈xs:=by
   by_cases hm:id∈xs
   ·exact hm
   ·exact absurd (.inr hm) hno
  obtain⟨c,hc,hci⟩:=qL hm
  have hf:fM aA aB xs id=(c:Int):=by unfold fM;rw[if_pos ⟨hok,hid0⟩];exact hci
  have HB: ∀w',Ext w w'→Calls Tryz.prog 119 #[aK aA aB p xs.length cap,.int .i64 id] w' (gI (cR aA xs c) w'):=fun w' hy=>by
   refine zV aA aB id c p xs.length cap _ w' (fun w2 hy2=> ?_) (fun w2 hy2=>aGi aA aB c id p xs.length cap xs w2 (hS.ext (hy.trans hy2)) hok hc (by omega) (hE.ext (hy.trans hy2)))
   have:=sK aA aB id p xs.length cap xs w2 (hS.ext (hy.trans hy2))
   rwa[hf]at this
  have hcn:(lL xs id).toNat=c:=by rw[hci];simp
  cases hb:cR aA xs c with
  |none=>
   have e:bN aA aB xs id=(xs,-1):=by unfold bN jD;rw[if_neg hno,hcn,hb];rfl
   rw[e]
   rw[hb]at HB
   exact qI aA aB id p xs.length cap xs w rfl HV HB HL
  |some l=>
   obtain⟨b1,ys,b2,b3,b4,b5⟩:=(kZ hok hc (by omega)).2 l hb
   have e:bN aA aB xs id=(ys.set 0 0,(l.length:Int)):=by unfold bN jD;rw[if_neg hno,hcn,hb];simp[b2]
   rw[e]
   rw[hb]at HB
   have hdo:cP aA aB xs l=ys:=mC _ _ _ b2
   refine wR aA aB id p xs.length cap l.length id ys l w (by omega) b4 b5 HV HB (fun w' q c' hy hL=> ?_)
   have:=sL aA aB p xs.length cap xs q l.length c' l w' rfl (hS.ext hy) hok hL
   rw[hdo]at this
   unfold cW at this
   rw[b4]at this
   exact this
end Go.Proofs.YtahglfakiobbcaaGreatDoor
