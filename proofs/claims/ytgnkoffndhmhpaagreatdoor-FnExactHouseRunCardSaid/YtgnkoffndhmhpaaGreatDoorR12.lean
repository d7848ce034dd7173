/-
  Texts of this proof, packed (@packed).
-/
import Derived.Test.YtgnkoffndhmhpaaGreatDoorR9
import Derived.Test.YtgnkoffndhmhpaaGreatDoorR10
import Derived.Test.YtgnkoffndhmhpaaGreatDoorR11
namespace Go.Proofs.YtgnkoffndhmhpaaGreatDoor
open Go.RowKit
set_option linter.unusedVariables false
set_option linter.unusedSimpArgs false
set_option maxHeartbeats 8000000
set_option maxRecDepth 100000
def mF (r:Option (List Int×List Sl2))(w:World)(e:Ending)(w':World):Prop:=
 match r with
 |none=> ∃v,e= .returned (.tuple #[v,.bool false])∧Ext w w'
 |some r=> ∃q c,e= .returned (.tuple #[.slice q r.2.length c,.bool true])∧w'.ownsRow w.heap.size TSL 2 (.slice q r.2.length c) r.2.length (r.2.flatMap aM)∧Ext w w'
theorem aDf (aA aB:Int)(p:OA)(n cap:Nat)(w:World)
  (HV:xB 90 #[aI aA aB p n cap] w true)
  (HN:xC 154 #[aI aA aB p n cap,(),(-1:Int)] w fun w' e w''=> ∃q c,e= .returned (.slice q 0 c)∧w''.ownsRow w'.heap.size TI 1 (.slice q 0 c) 0 []∧Ext w' w''):
  Calls Tryz.prog 119 #[aI aA aB p n cap] w (mF none w):=by
 go_enter Tryz.func119,Tryz.ntmps119
 have ME:=xQ (((((Mem.start w).blkNew TH3 #[aA,aB,.slice p n cap] (w.heap.size) (by simp))).made0 TI 1 (w.heap.size+1) (by simp)))
 go_wp2_with fail
 refine(HV.out _ ME.out.ext).mono ?_
 rintro e w1 ⟨rfl,hx1⟩
 have M1:=xQ ((ME.out).adv hx1)
 clear ME
 have lt1_1:=M1.out.hi 1
 clear hx1
 obtain⟨ce0,ce1,ce2⟩:=(M1.out.blk (i:=1) rfl).tri
 go_wp2_with fail
 clear ce0 ce1 ce2
 refine(HN.out _ M1.out.ext).mono ?_
 rintro e w2 ⟨qw,cw,rfl,ho2,hx2⟩
 have M2:=xQ ((M1.out).call hx2 ho2)
 clear M1 lt1_1
 have lt2_2:=M2.out.hi 2
 clear hx2 ho2
 have HX:=xQ (M2.out.ext)
 go_wp2
 exact bodyPost_ret (v:= .tuple #[.slice (some ⟨w2.heap.size,0,none⟩) 0 0,.bool false]) (by simp[results,Tryz.results119,go_sem, *]) rfl ⟨_,rfl,by have:=HX.out;exact .alloc this _⟩
theorem aAq (aA aB:Int)(p:OA)(n cap:Nat)(way:List Nat)(W:Nat)(r:List Int×List Sl2)(w:World)(h0:0<W)
  (HV:xB 90 #[aI aA aB p n cap] w true)
  (HN:xC 154 #[aI aA aB p n cap,(),(-1:Int)] w fun w' e w''=> ∃q c,e= .returned (.slice q W c)∧w''.ownsRow w'.heap.size TI 1 (.slice q W c) W (ivs (bD way))∧Ext w' w'')
  (HS:Hid (∀w' q c,Ext w w'→Sl w' q W c 1 (ivs (bD way))→Calls Tryz.prog 155 #[aI aA aB p n cap,.slice q W c] w' (fR r.2 w'))):
  Calls Tryz.prog 119 #[aI aA aB p n cap] w (mF (some r) w):=by
 have t0:((W:Int)==0)=false:=by simp;omega
 go_enter Tryz.func119,Tryz.ntmps119
 have ME:=xQ (((((Mem.start w).blkNew TH3 #[aA,aB,.slice p n cap] (w.heap.size) (by simp))).made0 TI 1 (w.heap.size+1) (by simp)))
 go_wp2_with fail
 refine(HV.out _ ME.out.ext).mono ?_
 rintro e w1 ⟨rfl,hx1⟩
 have M1:=xQ ((ME.out).adv hx1)
 clear ME
 have lt1_1:=M1.out.hi 1
 clear hx1
 obtain⟨ce0,ce1,ce2⟩:=(M1.out.blk (i:=1) rfl).tri
 go_wp2_with fail
 clear ce0 ce1 ce2
 refine(HN.out _ M1.out.ext).mono ?_
 rintro e w2 ⟨qw,cw,rfl,ho2,hx2⟩
 have M2:=xQ ((M1.out).call hx2 ho2)
 clear M1 lt1_1
 have lt2_2:=M2.out.hi 2
 clear hx2 ho2
 obtain⟨ce0,ce1,ce2⟩:=(M2.out.blk (i:=2) rfl).tri
 go_wp2_with fail
 clear ce0 ce1 ce2
 have HH:=xQ (HS.out _ qw cw M2.out.ext (M2.out.sl (i:=0) rfl))
 refine(HH.out).mono ?_
 rintro e w9 ⟨q9,c9,rfl,o9,hx9⟩
 have HX:=xQ (M2.out.ext)
 go_wp2
 exact bodyPost_ret (v:= .tuple #[.slice q9 r.2.length c9,.bool true]) (by simp[results,Tryz.results119,go_sem, *]) rfl ⟨q9,c9,rfl,bG o9 HX.out.sz,HX.out.trans hx9⟩
theorem tG (aA aB:Int)(p:OA)(n cap:Nat)(xs:List Int)(w:World)(hS:Sl w p n cap 1 (ivs xs))(hok:aP aA aB xs=true):
  Calls Tryz.prog 119 #[aI aA aB p n cap] w (mF (fQ aA xs) w):=by
 have hl:=hS.ilen
 subst hl
 have hg:=iL hok
 have HV: ∀w',Ext w w'→Calls Tryz.prog 90 #[aI aA aB p xs.length cap] w' fun e w''=>e= .returned (.bool true)∧Ext w' w'':=fun w' hy=>by
  have:=fV aA aB p xs.length cap xs w' (hS.ext hy)
  rwa[hok]at this
 unfold fQ
 cases hn:cL aA (bI xs)with
 |none=>
  refine aDf aA aB p xs.length cap w HV (fun w' hy=> ?_)
  have:=nC aA aB p xs.length cap xs w' (hS.ext hy) hok
  rw[hn]at this
  exact this
 |some u=>
  obtain⟨hu,hu0⟩:=iM ((gK aA _).2 u hn)
  obtain⟨k1,k2,k3⟩:=gU hg hu
  refine aAq aA aB p xs.length cap (cR aA xs.length 12 u) _ (bW xs u (cR aA xs.length 12 u).tail) w k1 HV (fun w' hy=> ?_) (fun w' q c hy hL=>sE aA aB p xs.length cap xs q _ c u w' (hS.ext hy) hok hu hu0 hL)
  have:=nC aA aB p xs.length cap xs w' (hS.ext hy) hok
  rw[hn]at this
  refine this.mono fun e w'' h=> ?_
  obtain⟨q,c,h1,h2,h3⟩:=h
  simp only[iO,List.length_map]at h1 h2
  exact⟨q,c,h1,h2,h3⟩
def bZ (aA aB:Int)(xs:List Int)(id:Int):List Int×Int:=
 match jV aA aB xs id with
 |none=>(xs,-1)
 |some r=>(r.1,(r.2:Int))
theorem uX (aA aB id:Int)(p:OA)(n cap:Nat)(xs:List Int)(w:World)(hlen:Hid (xs.length=n))
  (HV:xB 90 #[aI aA aB p n cap] w true)
  (HC:xC 119 #[aI aA aB p n cap] w fun w' e w''=> ∃v,e= .returned (.tuple #[v,.bool false])∧Ext w' w'')
  (HL:xC 104 #[aI aA aB p n cap] w fun w' e w''=> ∃q c,e= .returned (aI aA aB q n c)∧w''.ownsRow w'.heap.size TI 1 (.slice q n c) n (ivs xs)∧Ext w' w''):
  Calls Tryz.prog 71 #[aI aA aB p n cap,id] w (cI aA aB xs (-1) w):=by
 go_enter Tryz.func71,Tryz.ntmps71
 go_wp2_with fail
 refine(HV.out _ (Mem.b2 w).ext).mono ?_
 rintro e w1 ⟨rfl,hx1⟩
 have M1:=xQ ((Mem.b2 w).adv hx1)
 have lt1_0:=M1.out.hi 0
 have lt1_1:=M1.out.hi 1
 clear hx1
 obtain⟨ce0,ce1,ce2⟩:=(M1.out.blk (i:=1) rfl).tri
 go_wp2_with fail
 clear ce0 ce1 ce2
 refine(HC.out _ M1.out.ext).mono ?_
 rintro e w2 ⟨v,rfl,hx2⟩
 have M2:=xQ ((M1.out).adv hx2)
 clear M1 lt1_0 lt1_1
 have lt2_0:=M2.out.hi 0
 have lt2_1:=M2.out.hi 1
 clear hx2
 obtain⟨ce0,ce1,ce2⟩:=(M2.out.blk (i:=1) rfl).tri
 go_wp2_with fail
 clear ce0 ce1 ce2
 refine(HL.out _ M2.out.ext).mono ?_
 rintro e w3 ⟨q0,c0,rfl,ho3,hx3⟩
 have M3:=xQ ((M2.out).call hx3 ho3)
 clear M2 lt2_0 lt2_1
 have lt3_1:=M3.out.hi 1
 have lt3_2:=M3.out.hi 2
 clear hx3 ho3
 obtain⟨z0,zf0,z1,zf1,z2,zf2⟩:=(M3.out.blk (i:=1) rfl).trif
 go_wp2
 clear z0 zf0 z1 zf1 z2 zf2
 have M4:=xQ (((((((M3.out).st 1 0 (.int .i64 aA))).st 1 1 (.int .i64 aB))).st 1 2 (.slice q0 n c0)))
 generalize hwz:World.setCell _ _ _=wz
 rw[hwz]at M4
 clear hwz M3
 obtain⟨y0_0,y0_1,y0_2⟩:=(M4.out.blk (i:=1) rfl).tri
 exact bodyPost_ret (v:= .tuple #[.agg #[aA,aB,.slice q0 n c0],(-1:Int)]) (by simp[results,Tryz.results71,go_sem, *]) rfl (dX hlen.out (M4.out.own (i:=0) rfl) M4.out.ext)
theorem aA9 (aA aB id:Int)(p:OA)(n cap K:Nat)(xs ys zs:List Int)(sl:List Sl2)(w:World)(hlen:Hid (xs.length=n))
  (HV:xB 90 #[aI aA aB p n cap] w true)
  (HC:xC 119 #[aI aA aB p n cap] w fun w' e w''=> ∃q c,e= .returned (.tuple #[.slice q K c,.bool true])∧w''.ownsRow w'.heap.size TSL 2 (.slice q K c) K (sl.flatMap aM)∧Ext w' w'')
  (HR:Hid (∀w' q c,Ext w w'→Sl w' q K c 2 (sl.flatMap aM)→Calls Tryz.prog 120 #[aI aA aB p n cap,.slice q K c] w' fun e w''=> ∃q c,e= .returned (.tuple #[aI aA aB q n c,(K:Int)])∧w''.ownsRow w'.heap.size TI 1 (.slice q n c) n (ivs ys)∧Ext w' w''))
  (HP:Hid (∀w' q c,Ext w w'→Sl w' q n c 1 (ivs ys)→Calls Tryz.prog 121 #[aI aA aB q n c,(),id] w' fun e w''=> ∃q c,e= .returned (.tuple #[aI aA aB q n c,.bool false])∧w''.ownsRow w'.heap.size TI 1 (.slice q n c) n (ivs zs)∧Ext w' w''))
  (HL:xC 104 #[aI aA aB p n cap] w fun w' e w''=> ∃q c,e= .returned (aI aA aB q n c)∧w''.ownsRow w'.heap.size TI 1 (.slice q n c) n (ivs xs)∧Ext w' w''):
  Calls Tryz.prog 71 #[aI aA aB p n cap,id] w (cI aA aB xs (-1) w):=by
 go_enter Tryz.func71,Tryz.ntmps71
 go_wp2_with fail
 refine(HV.out _ (Mem.b2 w).ext).mono ?_
 rintro e w1 ⟨rfl,hx1⟩
 have M1:=xQ ((Mem.b2 w).adv hx1)
 have lt1_0:=M1.out.hi 0
 have lt1_1:=M1.out.hi 1
 clear hx1
 obtain⟨ce0,ce1,ce2⟩:=(M1.out.blk (i:=1) rfl).tri
 go_wp2_with fail
 clear ce0 ce1 ce2
 refine(HC.out _ M1.out.ext).mono ?_
 rintro e w2 ⟨qs,cs,rfl,ho2,hx2⟩
 have M2:=xQ ((M1.out).call hx2 ho2)
 clear M1 lt1_0 lt1_1
 have lt2_1:=M2.out.hi 1
 have lt2_2:=M2.out.hi 2
 clear hx2 ho2
 obtain⟨ce0,ce1,ce2⟩:=(M2.out.blk (i:=2) rfl).tri
 go_wp2_with fail
 clear ce0 ce1 ce2
 refine(HR.out _ qs cs M2.out.ext (M2.out.sl (i:=0) rfl)).mono ?_
 rintro e w3 ⟨q1,c1,rfl,ho3,hx3⟩
 have M3:=xQ ((M2.out).call hx3 ho3)
 clear M2 lt2_1 lt2_2
 have lt3_2:=M3.out.hi 2
 have lt3_3:=M3.out.hi 3
 clear hx3 ho3
 go_wp2_with fail
 refine(HP.out _ q1 c1 (((M3.out).blkNew TH3 #[aA,aB,.slice q1 n c1] (w3.heap.size) (by simp))).ext ((((M3.out).blkNew TH3 #[aA,aB,.slice q1 n c1] (w3.heap.size) (by simp))).sl (i:=1) rfl)).mono ?_
 rintro e w4 ⟨q2,c2,rfl,ho4,hx4⟩
 have M4:=xQ ((((M3.out).blkNew TH3 #[aA,aB,.slice q1 n c1] (w3.heap.size) (by simp))).call hx4 ho4)
 clear M3 lt3_2 lt3_3
 have lt4_1:=M4.out.hi 1
 have lt4_4:=M4.out.hi 4
 have lt4_5:=M4.out.hi 5
 clear hx4 ho4
 obtain⟨ce0,ce1,ce2⟩:=(M4.out.blk (i:=5) rfl).tri
 go_wp2_with fail
 clear ce0 ce1 ce2
 refine(HL.out _ (((M4.out).blkNew TH3 #[aA,aB,.slice q2 n c2] (w4.heap.size) (by simp))).ext).mono ?_
 rintro e w5 ⟨q0,c0,rfl,ho5,hx5⟩
 have M5:=xQ ((((M4.out).blkNew TH3 #[aA,aB,.slice q2 n c2] (w4.heap.size) (by simp))).call hx5 ho5)
 clear M4 lt4_1 lt4_4 lt4_5
 have lt5_1:=M5.out.hi 1
 have lt5_3:=M5.out.hi 3
 have lt5_6:=M5.out.hi 6
 have lt5_7:=M5.out.hi 7
 clear hx5 ho5
 obtain⟨z0,zf0,z1,zf1,z2,zf2⟩:=(M5.out.blk (i:=6) rfl).trif
 go_wp2
 clear z0 zf0 z1 zf1 z2 zf2
 have M6:=xQ (((((((M5.out).st 6 0 (.int .i64 aA))).st 6 1 (.int .i64 aB))).st 6 2 (.slice q0 n c0)))
 generalize hwz:World.setCell _ _ _=wz
 rw[hwz]at M6
 clear hwz M5
 obtain⟨y0_0,y0_1,y0_2⟩:=(M6.out.blk (i:=6) rfl).tri
 exact bodyPost_ret (v:= .tuple #[.agg #[aA,aB,.slice q0 n c0],(-1:Int)]) (by simp[results,Tryz.results71,go_sem, *]) rfl (dX hlen.out (M6.out.own (i:=0) rfl) M6.out.ext)
theorem wX (aA aB id:Int)(p:OA)(n cap K:Nat)(ys zs:List Int)(sl:List Sl2)(w:World)(hlen:Hid (zs.length=n))
  (HV:xB 90 #[aI aA aB p n cap] w true)
  (HC:xC 119 #[aI aA aB p n cap] w fun w' e w''=> ∃q c,e= .returned (.tuple #[.slice q K c,.bool true])∧w''.ownsRow w'.heap.size TSL 2 (.slice q K c) K (sl.flatMap aM)∧Ext w' w'')
  (HR:Hid (∀w' q c,Ext w w'→Sl w' q K c 2 (sl.flatMap aM)→Calls Tryz.prog 120 #[aI aA aB p n cap,.slice q K c] w' fun e w''=> ∃q c,e= .returned (.tuple #[aI aA aB q n c,(K:Int)])∧w''.ownsRow w'.heap.size TI 1 (.slice q n c) n (ivs ys)∧Ext w' w''))
  (HP:Hid (∀w' q c,Ext w w'→Sl w' q n c 1 (ivs ys)→Calls Tryz.prog 121 #[aI aA aB q n c,(),id] w' fun e w''=> ∃q c,e= .returned (.tuple #[aI aA aB q n c,.bool true])∧w''.ownsRow w'.heap.size TI 1 (.slice q n c) n (ivs zs)∧Ext w' w'')):
  Calls Tryz.prog 71 #[aI aA aB p n cap,id] w (cI aA aB zs (K:Int) w):=by
 go_enter Tryz.func71,Tryz.ntmps71
 go_wp2_with fail
 refine(HV.out _ (Mem.b2 w).ext).mono ?_
 rintro e w1 ⟨rfl,hx1⟩
 have M1:=xQ ((Mem.b2 w).adv hx1)
 have lt1_0:=M1.out.hi 0
 have lt1_1:=M1.out.hi 1
 clear hx1
 obtain⟨ce0,ce1,ce2⟩:=(M1.out.blk (i:=1) rfl).tri
 go_wp2_with fail
 clear ce0 ce1 ce2
 refine(HC.out _ M1.out.ext).mono ?_
 rintro e w2 ⟨qs,cs,rfl,ho2,hx2⟩
 have M2:=xQ ((M1.out).call hx2 ho2)
 clear M1 lt1_0 lt1_1
 have lt2_1:=M2.out.hi 1
 have lt2_2:=M2.out.hi 2
 clear hx2 ho2
 obtain⟨ce0,ce1,ce2⟩:=(M2.out.blk (i:=2) rfl).tri
 go_wp2_with fail
 clear ce0 ce1 ce2
 refine(HR.out _ qs cs M2.out.ext (M2.out.sl (i:=0) rfl)).mono ?_
 rintro e w3 ⟨q1,c1,rfl,ho3,hx3⟩
 have M3:=xQ ((M2.out).call hx3 ho3)
 clear M2 lt2_1 lt2_2
 have lt3_2:=M3.out.hi 2
 have lt3_3:=M3.out.hi 3
 clear hx3 ho3
 go_wp2_with fail
 refine(HP.out _ q1 c1 (((M3.out).blkNew TH3 #[aA,aB,.slice q1 n c1] (w3.heap.size) (by simp))).ext ((((M3.out).blkNew TH3 #[aA,aB,.slice q1 n c1] (w3.heap.size) (by simp))).sl (i:=1) rfl)).mono ?_
 rintro e w4 ⟨q2,c2,rfl,ho4,hx4⟩
 have M4:=xQ ((((M3.out).blkNew TH3 #[aA,aB,.slice q1 n c1] (w3.heap.size) (by simp))).call hx4 ho4)
 clear M3 lt3_2 lt3_3
 have lt4_1:=M4.out.hi 1
 have lt4_4:=M4.out.hi 4
 have lt4_5:=M4.out.hi 5
 clear hx4 ho4
 obtain⟨z0,zf0,z1,zf1,z2,zf2⟩:=(M4.out.blk (i:=4) rfl).trif
 go_wp2
 clear z0 zf0 z1 zf1 z2 zf2
 have M5:=xQ (((((((((M4.out).st 4 0 (.int .i64 aA))).st 4 1 (.int .i64 aB))).st 4 2 (.slice q2 n c2))).blkNew TH3 #[aA,aB,.slice q2 n c2] (w4.heap.size) (by simp)))
 generalize hwz:World.alloc _ _=wz
 rw[hwz]at M5
 clear hwz M4
 obtain⟨y0_0,y0_1,y0_2⟩:=(M5.out.blk (i:=5) rfl).tri
 exact bodyPost_ret (v:= .tuple #[.agg #[aA,aB,.slice q2 n c2],(K:Int)]) (by simp[results,Tryz.results71,go_sem, *]) rfl (dX hlen.out (M5.out.own (i:=1) rfl) M5.out.ext)
theorem kD (aA aB:Int)(xs:List Int)(id:Int):(cM aA aB xs id).1.length=xs.length:=by
 unfold cM;split<;>simp
theorem wU (aA aB id:Int)(p:OA)(n cap:Nat)(xs:List Int)(w:World)(hS:Sl w p n cap 1 (ivs xs))(hok:aP aA aB xs=true):
  Calls Tryz.prog 71 #[aI aA aB p n cap,id] w (cI aA aB (bZ aA aB xs id).1 (bZ aA aB xs id).2 w):=by
 have hl:=hS.ilen
 subst hl
 obtain⟨g1,g2,g3,g4,g5,g6,g7⟩:=bR (cF hok)
 have HV: ∀w',Ext w w'→Calls Tryz.prog 90 #[aI aA aB p xs.length cap] w' fun e w''=>e= .returned (.bool true)∧Ext w' w'':=fun w' hy=>by
  have:=fV aA aB p xs.length cap xs w' (hS.ext hy)
  rwa[hok]at this
 have HL:=fun(w':World) (hy:Ext w w')=>eU aA aB p xs.length cap xs w' (by omega) (hS.ext hy)
 have HC:=fun(w':World) (hy:Ext w w')=>tG aA aB p xs.length cap xs w' (hS.ext hy) hok
 cases hr:fQ aA xs with
 |none=>
  have e:bZ aA aB xs id=(xs,-1):=by unfold bZ jV;rw[hr]
  rw[e]
  rw[hr]at HC
  exact uX aA aB id p xs.length cap xs w rfl HV HC HL
 |some r=>
  rw[hr]at HC
  obtain⟨f1,f2,f3,f4,f5⟩:=mB hok hr
  have HR: ∀w' q c,Ext w w'→Sl w' q r.2.length c 2 (r.2.flatMap aM)→Calls Tryz.prog 120 #[aI aA aB p xs.length cap,.slice q r.2.length c] w' fun e w''=> ∃q c,e= .returned (.tuple #[aI aA aB q xs.length c,(r.2.length:Int)])∧w''.ownsRow w'.heap.size TI 1 (.slice q xs.length c) xs.length (ivs r.1)∧Ext w' w'':=fun w' q c hy hL=>by
   have:=nX aA aB p xs.length cap xs q r.2.length c r.2 w' (by omega) (hS.ext hy) hL hok
   rw[f1]at this
   unfold cI at this
   dsimp only at this
   rw[f3]at this
   exact this
  have HP: ∀w' q c,Ext w w'→Sl w' q xs.length c 1 (ivs r.1)→Calls Tryz.prog 121 #[aI aA aB q xs.length c,(),id] w' fun e w''=> ∃q c,e= .returned (.tuple #[aI aA aB q xs.length c,.bool (cM aA aB r.1 id).2])∧w''.ownsRow w'.heap.size TI 1 (.slice q xs.length c) xs.length (ivs (cM aA aB r.1 id).1)∧Ext w' w'':=fun w' q c hy hL=>by
   have:=zK aA aB id q xs.length c r.1 w' hL f2
   unfold cJ at this
   rw[kD,f3]at this
   exact this
  cases hb:(cM aA aB r.1 id).2 with
  |false=>
   have e:bZ aA aB xs id=(xs,-1):=by simp[bZ,jV,hr,hb]
   rw[e]
   rw[hb]at HP
   exact aA9 aA aB id p xs.length cap r.2.length xs r.1 (cM aA aB r.1 id).1 r.2 w rfl HV HC HR HP HL
  |true=>
   have e:bZ aA aB xs id=((cM aA aB r.1 id).1,(r.2.length:Int)):=by simp[bZ,jV,hr,hb]
   rw[e]
   rw[hb]at HP
   exact wX aA aB id p xs.length cap r.2.length r.1 (cM aA aB r.1 id).1 r.2 w (show _=_ by rw[kD,f3]) HV HC HR HP
end Go.Proofs.YtgnkoffndhmhpaaGreatDoor
namespace Go.Proofs.YtgnkoffndhmhpaaGreatDoor
open Go.RowKit
set_option linter.unusedVariables false
set_option linter.unusedSimpArgs false
def fI:Nat→Nat
 |0=>0
 |n+1=>(n+1)%2+fI ((n+1)/2)
decreasing_by omega
theorem oB (n:Nat):fI n=n%2+fI (n/2):=by
 cases n with
 |zero=>rw[fI]
 |succ n=>rw[fI]
theorem qX: ∀(f S:Nat),S.testBit f=false→ ∀k,(S+2 ^ f).testBit k=(S.testBit k || decide (k=f)):=by
 intro f
 induction f with
 |zero=>
  intro S h k
  rw[Nat.testBit_zero]at h
  have h0:S%2=0:=by simp at h;omega
  cases k with
  |zero=>rw[Nat.testBit_zero,Nat.testBit_zero];simp;omega
  |succ k=>rw[Nat.testBit_succ,Nat.testBit_succ,show(S+2 ^ 0)/2=S/2 by simp;omega];simp
 |succ f ih=>
  intro S h k
  rw[Nat.testBit_succ]at h
  have e:(S+2 ^ (f+1))/2=S/2+2 ^ f:=by rw[Nat.pow_succ];omega
  cases k with
  |zero=>rw[Nat.testBit_zero,Nat.testBit_zero];simp[Nat.pow_succ]<;>omega
  |succ k=>rw[Nat.testBit_succ,Nat.testBit_succ,e,ih _ h];simp
theorem rO: ∀(f S:Nat),S.testBit f=false→fI (S+2 ^ f)=fI S+1:=by
 intro f
 induction f with
 |zero=>
  intro S h
  rw[Nat.testBit_zero]at h
  have h0:S%2=0:=by simp at h;omega
  rw[oB (S+2 ^ 0),oB S,show(S+2 ^ 0)/2=S/2 by simp;omega]
  simp;omega
 |succ f ih=>
  intro S h
  rw[Nat.testBit_succ]at h
  have e:(S+2 ^ (f+1))/2=S/2+2 ^ f:=by rw[Nat.pow_succ];omega
  rw[oB (S+2 ^ (f+1)),oB S,e,ih _ h]
  have:(S+2 ^ (f+1))%2=S%2:=by rw[Nat.pow_succ];omega
  omega
theorem aEp: ∀(t S:Nat),S.testBit t=true→ ∃R,S=R+2 ^ t∧R.testBit t=false:=by
 intro t
 induction t with
 |zero=>
  intro S h
  rw[Nat.testBit_zero]at h
  have h0:S%2=1:=by simpa using h
  exact⟨S-1,by simp;omega,by rw[Nat.testBit_zero];simp;omega⟩
 |succ t ih=>
  intro S h
  rw[Nat.testBit_succ]at h
  obtain⟨R,h1,h2⟩:=ih _ h
  refine⟨2*R+S%2,by rw[Nat.pow_succ];omega,?_⟩
  rw[Nat.testBit_succ,show(2*R+S%2)/2=R by omega];exact h2
theorem qW {t S:Nat}(h:S.testBit t=true):2 ^ t≤S∧(∀k,(S-2 ^ t).testBit k=(S.testBit k&& !decide (k=t)))∧fI S=fI (S-2 ^ t)+1:=by
 obtain⟨R,rfl,h2⟩:=aEp t S h
 rw[Nat.add_sub_cancel]
 refine⟨Nat.le_add_left _ _,fun k=> ?_,rO _ _ h2⟩
 rw[qX _ _ h2]
 by_cases hk:k=t
 ·subst hk;simp[h2]
 ·simp[hk]
def cO (S f t:Nat):Nat:=S-2 ^ t+2 ^ f
theorem dY {S f t:Nat}(ht:S.testBit t=true)(hf:S.testBit f=false)(k:Nat):(cO S f t).testBit k=(decide (k=f) || (S.testBit k&& !decide (k=t))):=by
 obtain⟨a,b,c⟩:=qW ht
 unfold cO
 have hne:f≠t:=fun e=>by subst e;rw[ht]at hf;cases hf
 rw[qX _ _ (by rw[b,hf];rfl),b]
 cases S.testBit k<;>cases decide (k=f)<;>cases decide (k=t)<;>rfl
theorem aB4 {S f t:Nat}(ht:S.testBit t=true)(hf:S.testBit f=false):fI (cO S f t)=fI S:=by
 obtain⟨a,b,c⟩:=qW ht
 unfold cO
 rw[rO _ _ (by rw[b,hf];rfl),c]
theorem aCs {a b:Nat}(h: ∀k,a.testBit k=b.testBit k):a=b:=Nat.eq_of_testBit_eq h
theorem aI0 {n a:Nat}(h: ∀k,n≤k→a.testBit k=false):a<2 ^ n:=Nat.lt_pow_two_of_testBit a h
theorem pU {n a:Nat}(h:a<2 ^ n){k:Nat}(hk:n≤k):a.testBit k=false:=Nat.testBit_lt_two_pow (Nat.lt_of_lt_of_le h (Nat.pow_le_pow_right (by omega) hk))
theorem oE {n S f t:Nat}(hS:S<2 ^ n)(hfn:f<n)(ht:S.testBit t=true)(hf:S.testBit f=false):cO S f t<2 ^ n:=by
 refine aI0 fun k hk=> ?_
 rw[dY ht hf,pU hS hk]
 have:k≠f:=by omega
 simp[this]
theorem aB5 {S f t:Nat}(ht:S.testBit t=true)(hf:S.testBit f=false):cO (cO S f t) t f=S:=by
 have hne:f≠t:=fun e=>by subst e;rw[ht]at hf;cases hf
 refine aCs fun k=> ?_
 rw[dY (by rw[dY ht hf];simp) (by rw[dY ht hf];simp[Ne.symm hne]),dY ht hf]
 by_cases h1:k=t
 ·subst h1;simp[ht]
 ·by_cases h2:k=f
  ·subst h2;simp[h1,hf]
  ·simp[h1,h2]
def gS (p:Nat→Bool):Nat→Nat
 |0=>0
 |k+1=>gS p k+(if p k then 2 ^ k else 0)
theorem mJ (p:Nat→Bool)(k:Nat):gS p k<2 ^ k:=by
 induction k with
 |zero=>simp[gS]
 |succ k ih=>unfold gS;rw[Nat.pow_succ];split<;>omega
theorem aFu (p:Nat→Bool)(k j:Nat):(gS p k).testBit j=(decide (j<k)&&p j):=by
 induction k with
 |zero=>simp[gS]
 |succ k ih=>
  have hk:(gS p k).testBit k=false:=pU (mJ p k) (Nat.le_refl _)
  unfold gS
  cases hp:p k with
  |false=>
   simp only[Bool.false_eq_true,if_false,Nat.add_zero]
   rw[ih]
   by_cases h:j=k
   ·subst h;simp[hp]
   ·have:(j<k+1)↔j<k:=by omega
    simp[this]
  |true=>
   simp only[if_true]
   rw[qX _ _ hk,ih]
   by_cases h:j=k
   ·subst h;simp[hp]
   ·have:(j<k+1)↔j<k:=by omega
    simp[this,h]
theorem aDi (p:Nat→Bool)(k:Nat):fI (gS p k)=((List.range k).filter p).length:=by
 induction k with
 |zero=>simp[gS,fI]
 |succ k ih=>
  have hk:(gS p k).testBit k=false:=pU (mJ p k) (Nat.le_refl _)
  rw[List.range_succ,List.filter_append,List.length_append,←ih,show gS p (k+1)=gS p k+(if p k then 2 ^ k else 0)from rfl]
  cases hp:p k with
  |false=>simp[hp]
  |true=>simp only[if_true];rw[rO _ _ hk];simp[hp]
def aN (xs:List Int):Nat:=gS (cK xs) xs.length
theorem dW (xs:List Int)(k:Nat):(aN xs).testBit k=cK xs k:=by
 unfold aN
 rw[aFu]
 by_cases h:k<xs.length
 ·simp[h]
 ·have:cK xs k=false:=by
   unfold cK;rw[List.getElem?_eq_none (by omega)];rfl
  rw[this];simp
theorem lC (xs:List Int):aN xs<2 ^ xs.length:=mJ _ _
theorem wI (xs:List Int):fI (aN xs)=(bI xs).length:=aDi _ _
def dO (aA:Int)(n S:Nat):List (Nat×Nat):=(List.range n).flatMap fun f=>if S.testBit f then []else((aS aA n f).filter (fun t=>S.testBit t)).map (fun t=>(f,t))
theorem eJ {aA:Int}{n S:Nat}{e:Nat×Nat}:e∈dO aA n S↔e.1<n∧e.2<n∧e.2∈aS aA n e.1∧S.testBit e.1=false∧S.testBit e.2=true:=by
 obtain⟨f,t⟩:=e
 simp only[dO,List.mem_flatMap,List.mem_range]
 constructor
 ·rintro⟨a,ha,hm⟩
  cases hb:S.testBit a with
  |true=>rw[hb]at hm;simp at hm
  |false=>
   rw[hb]at hm
   simp only[Bool.false_eq_true,if_false,List.mem_map,List.mem_filter]at hm
   obtain⟨x,⟨h1,h2⟩,h3⟩:=hm
   injection h3 with h3 h4
   subst h3 h4
   exact⟨ha,(bM.1 h1).1,h1,hb,h2⟩
 ·rintro⟨h1,h2,h3,h4,h5⟩
  refine⟨f,h1,?_⟩
  rw[h4]
  simp only[Bool.false_eq_true,if_false,List.mem_map,List.mem_filter]
  exact⟨t,⟨h3,h5⟩,rfl⟩
def dC (c f t:Nat):Nat:=if f=c then t else c
def eZ (M c S f t:Nat):Nat:=dC c f t*M+cO S f t
def lF (aA:Int)(n M s:Nat):List Nat:=(dO aA n (s%M)).map (fun e=>eZ M (s/M) (s%M) e.1 e.2)
def sR (aA:Int)(n M s:Nat):List Nat:=(List.range n).flatMap fun h=>if(s%M).testBit h then((aS aA n h).filter (fun f=> !(s%M).testBit f)).map (fun f=>eZ M (s/M) (s%M) f h)else []
def nS (aA:Int)(n M s v:Nat):Prop:= ∃f t,f<n∧t<n∧t∈aS aA n f∧(s%M).testBit f=false∧(s%M).testBit t=true∧v=eZ M (s/M) (s%M) f t
theorem mE {aA:Int}{n M s v:Nat}:v∈lF aA n M s↔nS aA n M s v:=by
 unfold lF nS
 rw[List.mem_map]
 constructor
 ·rintro⟨⟨f,t⟩,h,rfl⟩
  obtain⟨h1,h2,h3,h4,h5⟩:=eJ.1 h
  exact⟨f,t,h1,h2,h3,h4,h5,rfl⟩
 ·rintro⟨f,t,h1,h2,h3,h4,h5,rfl⟩
  exact⟨(f,t),eJ.2 ⟨h1,h2,h3,h4,h5⟩,rfl⟩
theorem kS {aA:Int}{n M s v:Nat}:v∈sR aA n M s↔nS aA n M s v:=by
 unfold sR nS
 rw[List.mem_flatMap]
 constructor
 ·rintro⟨h,hh,hm⟩
  rw[List.mem_range]at hh
  cases hb:(s%M).testBit h with
  |false=>rw[hb]at hm;simp at hm
  |true=>
   rw[hb]at hm
   simp only[if_true,List.mem_map,List.mem_filter,Bool.not_eq_true']at hm
   obtain⟨f,⟨h1,h2⟩,rfl⟩:=hm
   exact⟨f,h,(bM.1 h1).1,hh,eW hh h1,h2,hb,rfl⟩
 ·rintro⟨f,t,h1,h2,h3,h4,h5,rfl⟩
  refine⟨t,List.mem_range.2 h2,?_⟩
  rw[h5]
  simp only[if_true,List.mem_map,List.mem_filter,Bool.not_eq_true']
  exact⟨f,⟨eW h1 h3,h4⟩,rfl⟩
structure tI (n M s:Nat):Prop where
 car:s/M<n
 set:s%M<2 ^ n
 occ:(s%M).testBit (s/M)=false
theorem jR {M c S:Nat}(h:S<M):(c*M+S)/M=c:=by
 rw[Nat.mul_comm,Nat.mul_add_div (by omega),Nat.div_eq_of_lt h,Nat.add_zero]
theorem fL {M c S:Nat}(h:S<M):(c*M+S)%M=S:=by
 rw[Nat.mul_comm,Nat.mul_add_mod,Nat.mod_eq_of_lt h]
theorem zW {n c f t:Nat}(hc:c<n)(ht:t<n):dC c f t<n:=by unfold dC;split<;>omega
theorem jE {aA:Int}{n M s v:Nat}(hM:2 ^ n≤M)(hS:s%M<2 ^ n)(h:nS aA n M s v): ∃f t,f<n∧t<n∧t∈aS aA n f∧(s%M).testBit f=false∧(s%M).testBit t=true∧v/M=dC (s/M) f t∧v%M=cO (s%M) f t∧cO (s%M) f t<2 ^ n:=by
 obtain⟨f,t,h1,h2,h3,h4,h5,rfl⟩:=h
 have hl:=oE hS h1 h5 h4
 exact⟨f,t,h1,h2,h3,h4,h5,jR (by omega),fL (by omega),hl⟩
theorem aCp {aA:Int}{n M s v:Nat}(hM:2 ^ n≤M)(hc:s/M<n)(hS:s%M<2 ^ n)(h:nS aA n M s v):v/M<n∧v%M<2 ^ n:=by
 obtain⟨f,t,h1,h2,h3,h4,h5,h6,h7,h8⟩:=jE hM hS h
 exact⟨by rw[h6];exact zW hc h2,by rw[h7];exact h8⟩
theorem oO {aA:Int}{n M s v:Nat}(hM:2 ^ n≤M)(hs:tI n M s)(h:nS aA n M s v):tI n M v:=by
 obtain⟨a,b⟩:=aCp hM hs.car hs.set h
 obtain⟨f,t,h1,h2,h3,h4,h5,h6,h7,h8⟩:=jE hM hs.set h
 refine⟨a,b,?_⟩
 rw[h6,h7,dY h5 h4]
 unfold dC
 have hne:f≠t:=fun e=>by subst e;rw[h5]at h4;cases h4
 split
 ·simp[Ne.symm hne]
 ·have:=hs.occ
  have h9:s/M≠f:=fun e=>by omega
  simp[this,h9]
theorem mR {aA:Int}{n M s v:Nat}(hM:2 ^ n≤M)(hS:s%M<2 ^ n)(h:nS aA n M s v):fI (v%M)=fI (s%M):=by
 obtain⟨f,t,h1,h2,h3,h4,h5,h6,h7,h8⟩:=jE hM hS h
 rw[h7,aB4 h5 h4]
theorem uH {aA:Int}{n M s v:Nat}(hM:2 ^ n≤M)(hs:tI n M s)(h:nS aA n M s v):nS aA n M v s:=by
 obtain⟨f,t,h1,h2,h3,h4,h5,h6,h7,h8⟩:=jE hM hs.set h
 have hne:f≠t:=fun e=>by subst e;rw[h5]at h4;cases h4
 refine⟨t,f,h2,h1,eW h1 h3,by rw[h7,dY h5 h4];simp[Ne.symm hne],by rw[h7,dY h5 h4];simp,?_⟩
 have hcar:dC (v/M) t f=s/M:=by
  rw[h6]
  unfold dC
  by_cases hf:f=s/M
  ·simp[hf]
  ·have ht: ¬t=s/M:=fun e=>by have:=hs.occ;rw[←e,h5]at this;cases this
   simp[hf,ht]
 unfold eZ
 rw[hcar,h7,aB5 h5 h4]
 rw[Nat.mul_comm];exact(Nat.div_add_mod s M).symm
def aIo:List ((Int×Nat)×List Nat):= [
 ((2,4),[0,0,0,0,1,0,2,3,1,2,0,3,5,4,4,0]),
 ((2,6),[0,0,0,0,0,0,1,0,2,3,3,4,1,2,0,3,5,4,5,4,4,0,5,6,7,8,6,7,0,8,9,8,8,7,9,0]),
 ((3,6),[0,0,0,0,0,0,1,0,5,2,3,4,7,6,0,8,7,8,1,2,3,0,3,4,5,4,5,4,0,6,9,8,9,8,7,0]),
 ((3,9),[0,0,0,0,0,0,0,0,0,1,0,5,2,3,4,3,4,5,7,6,0,8,7,8,9,8,9,1,2,3,0,3,4,5,4,5,5,4,5,4,0,6,5,6,7,9,8,9,8,7,0,9,8,9,7,8,9,6,7,8,0,8,9,9,8,9,8,7,8,9,0,9,13,12,11,12,11,10,11,10,0]),
 ((4,8),[0,0,0,0,0,0,0,0,1,0,5,6,2,3,4,5,7,6,0,10,8,7,8,9,13,12,11,0,14,13,12,13,1,2,3,4,0,3,4,5,5,4,5,6,4,0,6,7,9,8,9,10,8,7,0,11,15,14,13,14,14,13,12,0]),
 ((4,12),[0,0,0,0,0,0,0,0,0,0,0,0,1,0,5,6,2,3,4,5,3,4,5,6,7,6,0,10,8,7,8,9,9,8,9,10,13,12,11,0,14,13,12,13,15,14,13,14,1,2,3,4,0,3,4,5,5,4,5,6,5,4,5,6,4,0,6,7,5,6,7,8,9,8,9,10,8,7,0,11,9,8,9,10,15,14,13,14,14,13,12,0,15,14,13,14,7,8,9,10,6,7,8,9,0,8,9,10,9,8,9,10,8,7,8,9,9,0,9,10,13,12,11,12,12,11,10,11,11,10,0,12,17,16,15,16,16,15,14,15,15,14,13,0])]
def pot (aA:Int)(n c h:Nat):Nat:=((aIo.find? (fun g=>g.1==(aA,n))).map (fun g=>g.2.getD (c*n+h) 0)).getD 0
def aJd (aA:Int)(n:Nat):Bool:=(List.range n).all fun c=>(List.range n).all fun h=>decide (pot aA n c h≤60)&&(c==0 || c==h || (aS aA n h).any fun t=>decide (pot aA n (if t=c then h else c) t<pot aA n c h))
theorem aHv:(fY.all fun g=>aJd g.1 g.2)=true:=by decide+kernel
theorem rN {aA:Int}{n c h:Nat}(hg:(aA,n)∈fY)(hc:c<n)(hh:h<n):pot aA n c h≤60∧(c≠0→c≠h→ ∃t,t∈aS aA n h∧pot aA n (if t=c then h else c) t<pot aA n c h):=by
 have h1:=List.all_eq_true.1 aHv _ hg
 have h2:=List.all_eq_true.1 (List.all_eq_true.1 h1 c (List.mem_range.2 hc)) h (List.mem_range.2 hh)
 simp only[Bool.and_eq_true,Bool.or_eq_true,decide_eq_true_eq,beq_iff_eq,List.any_eq_true]at h2
 refine⟨h2.1,fun a b=> ?_⟩
 rcases h2.2 with(h3|h3)|⟨t,h3,h4⟩
 ·exact absurd h3 a
 ·exact absurd h3 b
 ·exact⟨t,h3,h4⟩
def rE (n many:Nat):List Nat:=(List.range (2 ^ n)).filter (fun s=> !s.testBit 0&&decide (fI s=many))
theorem hU {n many s:Nat}:s∈rE n many↔s<2 ^ n∧s.testBit 0=false∧fI s=many:=by
 simp[rE]
section
variable {aA:Int} {n many:Nat} {D:List Int}
abbrev MM:Nat:=4096
abbrev NN:Nat:=49152
abbrev eE (aA:Int)(n many:Nat)(D:List Int):Prop:=oU (sR aA n MM) (rE n many) NN D
theorem fW (hn:n≤12):2 ^ n≤MM:=Nat.pow_le_pow_right (n:=2) (by omega) hn
theorem lS (hn:n≤12){s:Nat}(h:tI n MM s):s<NN:=by
 have h1:=h.car;have h2:=Nat.div_add_mod s MM;have h3:s%MM<MM:=Nat.mod_lt _ (by decide)
 show s<49152
 have:s/4096<n:=h1
 omega
theorem aIr {s:Nat}(h:s<NN):s/MM<12:=by have:s<49152:=h;show s/4096<12;omega
theorem aCq (hn0:4≤n)(hn:n≤12)(hD:eE aA n many D): ∀(k s:Nat),s<NN→D.getD s 0=k→tI n MM s∧fI (s%MM)=many:=by
 intro k
 induction k with
 |zero=>
  intro s hs h0
  have hm:=(hD.zero s hs).1 (by omega)
  obtain⟨h1,h2,h3⟩:=hU.1 hm
  have h4:=fW hn
  have h5:s%MM=s:=Nat.mod_eq_of_lt (by omega)
  have h6:s/MM=0:=Nat.div_eq_of_lt (by omega)
  exact⟨⟨by rw[h6];omega,by rw[h5];exact h1,by rw[h5,h6];exact h2⟩,by rw[h5];exact h3⟩
 |succ k ih=>
  intro s hs h0
  obtain⟨u,hu,hv,hd⟩:=hD.back s hs (by omega)
  obtain⟨a,b⟩:=ih u hu (by omega)
  have he:=kS.1 hv
  exact⟨oO (fW hn) a he,by rw[mR (fW hn) a.set he];exact b⟩
theorem uL (hn0:4≤n)(hn:n≤12)(hD:eE aA n many D){s v:Nat}(hs:tI n MM s)(he:nS aA n MM s v):(0≤D.getD s 0↔0≤D.getD v 0)∧(0≤D.getD s 0→D.getD s 0≤D.getD v 0+1∧D.getD v 0≤D.getD s 0+1):=by
 have hv:=oO (fW hn) hs he
 have he':=uH (fW hn) hs he
 have l1:=lS hn hs;have l2:=lS hn hv
 have e1:=fun h=>hD.edge s v l1 h (kS.2 he)
 have e2:=fun h=>hD.edge v s l2 h (kS.2 he')
 exact⟨⟨fun h=>(e1 h).1,fun h=>(e2 h).1⟩,fun h=>⟨(e2 (e1 h).1).2,(e1 h).2⟩⟩
theorem aHb (hg:(aA,n)∈fY)(hn0:4≤n)(hn:n≤12)(hD:eE aA n many D): ∀(P s h:Nat),pot aA n (s/MM) h≤P→tI n MM s→fI (s%MM)=many→(s%MM).testBit h=true→0≤D.getD s 0∧D.getD s 0≤pot aA n (s/MM) h:=by
 intro P
 induction P with
 |zero=>
  intro s h hP hs hm hh
  by_cases h0:s/MM=0
  ·have h1:s=s%MM:=by have:=Nat.div_add_mod s MM;rw[h0]at this;omega
   have:D.getD s 0=0:=(hD.zero s (lS hn hs)).2 (hU.2 ⟨by rw[h1];exact hs.set,by rw[h1,←h0];exact hs.occ,by rw[h1];exact hm⟩)
   rw[this];exact⟨Int.le_refl _,by omega⟩
  ·have hhn:h<n:=by
    rcases Nat.lt_or_ge h n with h1|h1
    ·exact h1
    ·rw[pU hs.set h1]at hh;cases hh
   obtain⟨t,ht,hlt⟩:=(rN hg hs.car hhn).2 h0 (fun e=>by rw[←e,hs.occ]at hh;cases hh)
   omega
 |succ P ih=>
  intro s h hP hs hm hh
  by_cases h0:s/MM=0
  ·have h1:s=s%MM:=by have:=Nat.div_add_mod s MM;rw[h0]at this;omega
   have:D.getD s 0=0:=(hD.zero s (lS hn hs)).2 (hU.2 ⟨by rw[h1];exact hs.set,by rw[h1,←h0];exact hs.occ,by rw[h1];exact hm⟩)
   rw[this];exact⟨Int.le_refl _,by omega⟩
  ·have hhn:h<n:=by
    rcases Nat.lt_or_ge h n with h1|h1
    ·exact h1
    ·rw[pU hs.set h1]at hh;cases hh
   obtain⟨t,ht,hlt⟩:=(rN hg hs.car hhn).2 h0 (fun e=>by rw[←e,hs.occ]at hh;cases hh)
   have htn:=(bM.1 ht).1
   cases hb:(s%MM).testBit t with
   |true=>
    have hne:t≠s/MM:=fun e=>by rw[e,hs.occ]at hb;cases hb
    rw[if_neg hne]at hlt
    obtain⟨a,b⟩:=ih s t (by omega) hs hm hb
    exact⟨a,by omega⟩
   |false=>
    have he:nS aA n MM s (eZ MM (s/MM) (s%MM) t h):=⟨t,h,htn,hhn,eW hhn ht,hb,hh,rfl⟩
    obtain⟨f',t',k1,k2,k3,k4,k5,k6,k7,k8⟩:=jE (fW hn) hs.set he
    have hl:=oE hs.set htn hh hb
    have e1:eZ MM (s/MM) (s%MM) t h/MM=dC (s/MM) t h:=jR (Nat.lt_of_lt_of_le hl (fW hn))
    have e2:eZ MM (s/MM) (s%MM) t h%MM=cO (s%MM) t h:=fL (Nat.lt_of_lt_of_le hl (fW hn))
    have hok:=oO (fW hn) hs he
    have hpc:=mR (fW hn) hs.set he
    have hne:t≠h:=fun e=>by subst e;rw[hh]at hb;cases hb
    have hp:pot aA n (eZ MM (s/MM) (s%MM) t h/MM) t=pot aA n (if t=s/MM then h else s/MM) t:=by rw[e1];rfl
    obtain⟨a,b⟩:=ih _ t (by rw[hp];omega) hok (by rw[hpc];exact hm) (by rw[e2,dY hh hb];simp)
    rw[hp]at b
    obtain⟨c1,c2⟩:=uL hn0 hn hD hs he
    have c3:=c1.2 a
    have:=c2 c3
    exact⟨c3,by omega⟩
theorem aIc {adj:Nat→List Nat}{src:List Nat}{N:Nat}{D E:List Int}(hD:oU adj src N D)(hE:oU adj src N E): ∀(k v:Nat),v<N→D.getD v 0=k→0≤E.getD v 0∧E.getD v 0≤k:=by
 intro k
 induction k with
 |zero=>
  intro v hv h
  have:E.getD v 0=0:=(hE.zero v hv).2 ((hD.zero v hv).1 (by omega))
  rw[this];simp
 |succ k ih=>
  intro v hv h
  obtain⟨u,hu,hm,hd⟩:=hD.back v hv (by omega)
  obtain⟨a,b⟩:=ih u hu (by omega)
  obtain⟨c,d⟩:=hE.edge u v hu a hm
  exact⟨c,by omega⟩
theorem uJ {adj:Nat→List Nat}{src:List Nat}{N:Nat}{D E:List Int}(hD:oU adj src N D)(hE:oU adj src N E){v:Nat}(hv:v<N):(0≤D.getD v 0↔0≤E.getD v 0)∧(0≤D.getD v 0→D.getD v 0=E.getD v 0):=by
 have h1: ∀(A B:List Int),oU adj src N A→oU adj src N B→0≤A.getD v 0→0≤B.getD v 0∧B.getD v 0≤A.getD v 0:=by
  intro A B hA hB h
  obtain⟨k,hk⟩:=Int.eq_ofNat_of_zero_le h
  have:=aIc hA hB k v hv hk
  rw[hk];exact this
 refine⟨⟨fun h=>(h1 D E hD hE h).1,fun h=>(h1 E D hE hD h).1⟩,fun h=> ?_⟩
 obtain⟨a,b⟩:=h1 D E hD hE h
 obtain⟨c,d⟩:=h1 E D hE hD a
 omega
def gG (N:Nat)(src:List Nat):List Int:=src.foldl (fun A v=>A.set v 0) (List.replicate N (-1))
theorem aAu (N:Nat)(src:List Nat)(v:Nat):gG N (src++ [v])=(gG N src).set v 0:=by simp[gG]
theorem tQ (N:Nat)(src:List Nat):(gG N src).length=N:=by
 unfold gG
 suffices h: ∀(l:List Nat) (A:List Int),(l.foldl (fun A v=>A.set v 0) A).length=A.length by rw[h];simp
 intro l
 induction l with
 |nil=>intro A;rfl
 |cons x l ih=>intro A;simp only[List.foldl_cons];rw[ih];simp
theorem tR (N:Nat)(src:List Nat)(v:Nat)(hv:v<N):(v∈src→(gG N src).getD v 0=0)∧(v∉src→(gG N src).getD v 0= -1):=by
 unfold gG
 suffices h: ∀(l:List Nat) (A:List Int),A.length=N→(v∈l→(l.foldl (fun A v=>A.set v 0) A).getD v 0=0)∧(v∉l→(l.foldl (fun A v=>A.set v 0) A).getD v 0=A.getD v 0) by
  obtain⟨a,b⟩:=h src (List.replicate N (-1)) (by simp)
  exact⟨a,fun h=>by rw[b h];simp[List.getD,hv]⟩
 intro l
 induction l with
 |nil=>intro A _;simp
 |cons x l ih=>
  intro A hA
  simp only[List.foldl_cons]
  obtain⟨a,b⟩:=ih (A.set x 0) (by simpa using hA)
  constructor
  ·intro hm
   by_cases hl:v∈l
   ·exact a hl
   ·have:v=x:=by simpa[hl]using hm
    subst this
    rw[b hl,bY (by omega)]
  ·intro hm
   have h1:v≠x:=fun e=>hm (by simp[e])
   have h2:v∉l:=fun e=>hm (by simp[e])
   rw[b h2,bV (Ne.symm h1)]
theorem Inv.begin {adj:Nat→List Nat}{src:List Nat}{N:Nat}(hb: ∀v∈src,v<N)(hnd:src.Nodup):Inv adj src N 0 (gG N src,src):=by
 have h0: ∀v∈src,(gG N src).getD v 0=0:=fun v hv=>(tR N src v (hb v hv)).1 hv
 refine⟨tQ _ _,hb,fun v hv=> ?_,hnd,?_,?_,?_,fun v hv=>⟨hv,h0 v hv⟩,fun i u hi=>absurd hi (by omega)⟩
 ·by_cases hm:v∈src
  ·rw[h0 v hm];simp[hm]
  ·rw[(tR N src v hv).2 hm];simp[hm]
 ·refine List.pairwise_iff_getElem.2 fun i j hi hj _=> ?_
  dsimp only
  rw[h0 _ (List.getElem_mem hi),h0 _ (List.getElem_mem hj)];exact Int.le_refl _
 ·intro u hu v hv
  dsimp only
  rw[h0 v hv,h0 u (List.mem_of_getElem? hu)];omega
 ·intro v hv
  dsimp only
  rw[h0 v hv]
  exact hv
theorem oT (hn:n≤12): ∀u v,u<NN→v∈sR aA n MM u→v<NN:=by
 intro u v hu hv
 obtain⟨f,t,h1,h2,h3,h4,h5,rfl⟩:=kS.1 hv
 have hc:dC (u/MM) f t<12:=zW (aIr hu) (by omega)
 have hS:u%MM<2 ^ 12:=Nat.mod_lt _ (by decide)
 have:=oE hS (by omega:f<12) h5 h4
 show dC (u/MM) f t*4096+cO (u%MM) f t<49152
 have h12:(2:Nat) ^ 12=4096:=by decide
 omega
theorem aCc (hn:n≤12): ∀v∈rE n many,v<NN:=fun v hv=>by
 have:=(hU.1 hv).1
 have h:=fW hn
 have h2:(MM:Nat)<NN:=by decide
 omega
theorem rD:(rE n many).Nodup:=List.Pairwise.filter _ List.nodup_range
end
end Go.Proofs.YtgnkoffndhmhpaaGreatDoor
