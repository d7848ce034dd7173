/-
  Texts of this proof, packed (@packed).
-/
import Derived.Test.YteejdnmmpmcmeaaGreatDoorK4
import Derived.Test.YteejdnmmpmcmeaaGreatDoorK13
import Derived.Test.YteejdnmmpmcmeaaGreatDoorK14
namespace Go.Proofs.YteejdnmmpmcmeaaGreatDoor
open Go.RowKit
set_option linter.unusedVariables false
set_option linter.unusedSimpArgs false
def RetClear (r:Option (List Int×List Sl2))(w:World)(e:Ending)(w':World):Prop:=
 match r with
 |none=> ∃v,e= .returned (.tuple #[v,.bool false])∧Ext w w'
 |some r=> ∃q c,e= .returned (.tuple #[.slice q r.2.length c,.bool true])∧w'.ownsRow w.heap.size TSL 2 (.slice q r.2.length c) r.2.length (r.2.flatMap slideCells)∧Ext w w'
set_option maxRecDepth 100000 in
set_option maxHeartbeats 4000000 in
theorem specCg_no (wide deep:Int)(p:Option Addr)(n cap:Nat)(w:World)
  (HV:Hid (∀w',Ext w w'→Calls Tryz.prog 64 #[hallV wide deep p n cap] w' fun e w''=>e= .returned (.bool true)∧Ext w' w''))
  (HN:Hid (∀w',Ext w w'→Calls Tryz.prog 213 #[hallV wide deep p n cap,.int .i64 0,.int .i64 (-1)] w' fun e w''=> ∃q c,e= .returned (.slice q 0 c)∧w''.ownsRow w'.heap.size TI 1 (.slice q 0 c) 0 []∧Ext w' w'')):
  Calls Tryz.prog 183 #[hallV wide deep p n cap] w (RetClear none w):=by
 go_enter Tryz.func183,Tryz.ntmps183
 have ME:=Lib.hid (show Mem w ((w.alloc (.cells #[.int .i64 wide,.int .i64 deep,.slice p n cap] TH3)).alloc (.cells #[] TI)) [ownI w.heap.size TI 1 (some ⟨w.heap.size+1,0,none⟩) (0) (0) ([]),blkI w.heap.size (w.heap.size) TH3 #[.int .i64 wide,.int .i64 deep,.slice p n cap]]from((((Mem.start w).blkNew TH3 #[.int .i64 wide,.int .i64 deep,.slice p n cap] (w.heap.size) (by simp))).made0 TI 1 (w.heap.size+1) (by simp)))
 go_wp2_with fail
 refine(HV.out _ ME.out.ext).mono ?_
 rintro e w1 ⟨rfl,hx1⟩
 have M1:=Lib.hid ((ME.out).adv hx1)
 clear ME
 have lt1_1:w.heap.size<w1.heap.size:=(M1.out.lt (i:=1) rfl rfl).2
 clear hx1
 obtain⟨ce0,ce1,ce2⟩:=(M1.out.blk (i:=1) rfl).tri
 go_wp2_with fail
 clear ce0 ce1 ce2
 refine(HN.out _ M1.out.ext).mono ?_
 rintro e w2 ⟨qw,cw,rfl,ho2,hx2⟩
 have M2:=Lib.hid ((M1.out).call hx2 ho2)
 clear M1
 clear lt1_1
 have lt2_2:w.heap.size<w2.heap.size:=(M2.out.lt (i:=2) rfl rfl).2
 clear hx2 ho2
 have HX:=Lib.hid (M2.out.ext)
 go_wp2
 exact bodyPost_ret (v:= .tuple #[.slice (some ⟨w2.heap.size,0,none⟩) 0 0,.bool false]) (by simp[results,Tryz.results183,go_sem, *]) rfl ⟨_,rfl,by have:=HX.out;exact .alloc this _⟩
set_option maxRecDepth 100000 in
set_option maxHeartbeats 4000000 in
theorem specCg_yes (wide deep:Int)(p:Option Addr)(n cap:Nat)(way:List Nat)(W:Nat)(r:List Int×List Sl2)(w:World)(h0:0<W)
  (HV:Hid (∀w',Ext w w'→Calls Tryz.prog 64 #[hallV wide deep p n cap] w' fun e w''=>e= .returned (.bool true)∧Ext w' w''))
  (HN:Hid (∀w',Ext w w'→Calls Tryz.prog 213 #[hallV wide deep p n cap,.int .i64 0,.int .i64 (-1)] w' fun e w''=> ∃q c,e= .returned (.slice q W c)∧w''.ownsRow w'.heap.size TI 1 (.slice q W c) W (ivs (natI way))∧Ext w' w''))
  (HS:Hid (∀w' q c,Ext w w'→Sl w' q W c 1 (ivs (natI way))→Calls Tryz.prog 214 #[hallV wide deep p n cap,.slice q W c] w' (RetSlides r.2 w'))):
  Calls Tryz.prog 183 #[hallV wide deep p n cap] w (RetClear (some r) w):=by
 have t0:((W:Int)==0)=false:=by simp;omega
 go_enter Tryz.func183,Tryz.ntmps183
 have ME:=Lib.hid (show Mem w ((w.alloc (.cells #[.int .i64 wide,.int .i64 deep,.slice p n cap] TH3)).alloc (.cells #[] TI)) [ownI w.heap.size TI 1 (some ⟨w.heap.size+1,0,none⟩) (0) (0) ([]),blkI w.heap.size (w.heap.size) TH3 #[.int .i64 wide,.int .i64 deep,.slice p n cap]]from((((Mem.start w).blkNew TH3 #[.int .i64 wide,.int .i64 deep,.slice p n cap] (w.heap.size) (by simp))).made0 TI 1 (w.heap.size+1) (by simp)))
 go_wp2_with fail
 refine(HV.out _ ME.out.ext).mono ?_
 rintro e w1 ⟨rfl,hx1⟩
 have M1:=Lib.hid ((ME.out).adv hx1)
 clear ME
 have lt1_1:w.heap.size<w1.heap.size:=(M1.out.lt (i:=1) rfl rfl).2
 clear hx1
 obtain⟨ce0,ce1,ce2⟩:=(M1.out.blk (i:=1) rfl).tri
 go_wp2_with fail
 clear ce0 ce1 ce2
 refine(HN.out _ M1.out.ext).mono ?_
 rintro e w2 ⟨qw,cw,rfl,ho2,hx2⟩
 have M2:=Lib.hid ((M1.out).call hx2 ho2)
 clear M1
 clear lt1_1
 have lt2_2:w.heap.size<w2.heap.size:=(M2.out.lt (i:=2) rfl rfl).2
 clear hx2 ho2
 obtain⟨ce0,ce1,ce2⟩:=(M2.out.blk (i:=2) rfl).tri
 go_wp2_with fail
 clear ce0 ce1 ce2
 have HH:=Lib.hid (HS.out _ qw cw M2.out.ext (M2.out.sl (i:=0) rfl))
 refine(HH.out).mono ?_
 rintro e w9 ⟨q9,c9,rfl,o9,hx9⟩
 have HX:=Lib.hid (M2.out.ext)
 go_wp2
 exact bodyPost_ret (v:= .tuple #[.slice q9 r.2.length c9,.bool true]) (by simp[results,Tryz.results183,go_sem, *]) rfl ⟨q9,c9,rfl,own_base o9 HX.out.sz,HX.out.trans hx9⟩
theorem clearGate_any (wide deep:Int)(p:Option Addr)(n cap:Nat)(xs:List Int)(w:World)(hS:Sl w p n cap 1 (ivs xs))(hok:hallOk wide deep xs=true):
  Calls Tryz.prog 183 #[hallV wide deep p n cap] w (RetClear (clearGate wide xs) w):=by
 have hl:=hS.ilen
 subst hl
 have hg:=hall_grid hok
 have HV: ∀w',Ext w w'→Calls Tryz.prog 64 #[hallV wide deep p xs.length cap] w' fun e w''=>e= .returned (.bool true)∧Ext w' w'':=fun w' hy=>by
  have:=specHv wide deep p xs.length cap xs w' (hS.ext hy)
  rwa[hok]at this
 unfold clearGate
 cases hn:nearest wide (freeN xs)with
 |none=>
  refine specCg_no wide deep p xs.length cap w HV (fun w' hy=> ?_)
  have:=l2Nearest_any wide deep p xs.length cap xs w' (hS.ext hy) hok
  rw[hn]at this
  exact this
 |some u=>
  obtain⟨hu,hu0⟩:=freeN_mem ((nearest_mem wide _).2 u hn)
  obtain⟨k1,k2,k3⟩:=way_len6 hg hu
  refine specCg_yes wide deep p xs.length cap (wayN wide xs.length 12 u) _ (holeRun xs u (wayN wide xs.length 12 u).tail) w k1 HV (fun w' hy=> ?_) (fun w' q c hy hL=>holeSlides_any wide deep p xs.length cap xs q _ c u w' (hS.ext hy) hok hu hu0 hL)
  have:=l2Nearest_any wide deep p xs.length cap xs w' (hS.ext hy) hok
  rw[hn]at this
  refine this.mono fun e w'' h=> ?_
  obtain⟨q,c,h1,h2,h3⟩:=h
  simp only[wayOf,List.length_map]at h1 h2
  exact⟨q,c,h1,h2,h3⟩
def storeI (wide deep:Int)(xs:List Int)(id:Int):List Int×Int:=
 match storeDo wide deep xs id with
 |none=>(xs,-1)
 |some r=>(r.1,(r.2:Int))
set_option maxRecDepth 100000 in
set_option maxHeartbeats 4000000 in
theorem specSto_none (wide deep id:Int)(p:Option Addr)(n cap:Nat)(xs:List Int)(w:World)(hlen:Hid (xs.length=n))
  (HV:Hid (∀w',Ext w w'→Calls Tryz.prog 64 #[hallV wide deep p n cap] w' fun e w''=>e= .returned (.bool true)∧Ext w' w''))
  (HC:Hid (∀w',Ext w w'→Calls Tryz.prog 183 #[hallV wide deep p n cap] w' fun e w''=> ∃v,e= .returned (.tuple #[v,.bool false])∧Ext w' w''))
  (HL:Hid (∀w',Ext w w'→Calls Tryz.prog 182 #[hallV wide deep p n cap] w' fun e w''=> ∃q c,e= .returned (hallV wide deep q n c)∧w''.ownsRow w'.heap.size TI 1 (.slice q n c) n (ivs xs)∧Ext w' w'')):
  Calls Tryz.prog 147 #[hallV wide deep p n cap,.int .i64 id] w (RetHallI wide deep xs (-1) w):=by
 go_enter Tryz.func147,Tryz.ntmps147
 go_wp2_with fail
 refine(HV.out _ (((((Mem.start w).blkNew TH3 #[.int .i64 wide,.int .i64 deep,.slice p n cap] (w.heap.size) (by simp))).blkNew TH3 #[.int .i64 0,.int .i64 0,.slice none 0 0] (w.heap.size+1) (by simp))).ext).mono ?_
 rintro e w1 ⟨rfl,hx1⟩
 have M1:=Lib.hid ((((((Mem.start w).blkNew TH3 #[.int .i64 wide,.int .i64 deep,.slice p n cap] (w.heap.size) (by simp))).blkNew TH3 #[.int .i64 0,.int .i64 0,.slice none 0 0] (w.heap.size+1) (by simp))).adv hx1)
 have lt1_0:w.heap.size+1<w1.heap.size:=(M1.out.lt (i:=0) rfl rfl).2
 have lt1_1:w.heap.size<w1.heap.size:=(M1.out.lt (i:=1) rfl rfl).2
 clear hx1
 obtain⟨ce0,ce1,ce2⟩:=(M1.out.blk (i:=1) rfl).tri
 go_wp2_with fail
 clear ce0 ce1 ce2
 refine(HC.out _ M1.out.ext).mono ?_
 rintro e w2 ⟨v,rfl,hx2⟩
 have M2:=Lib.hid ((M1.out).adv hx2)
 clear M1
 clear lt1_0 lt1_1
 have lt2_0:w.heap.size+1<w2.heap.size:=(M2.out.lt (i:=0) rfl rfl).2
 have lt2_1:w.heap.size<w2.heap.size:=(M2.out.lt (i:=1) rfl rfl).2
 clear hx2
 obtain⟨ce0,ce1,ce2⟩:=(M2.out.blk (i:=1) rfl).tri
 go_wp2_with fail
 clear ce0 ce1 ce2
 refine(HL.out _ M2.out.ext).mono ?_
 rintro e w3 ⟨q0,c0,rfl,ho3,hx3⟩
 have M3:=Lib.hid ((M2.out).call hx3 ho3)
 clear M2
 clear lt2_0 lt2_1
 have lt3_1:w.heap.size+1<w3.heap.size:=(M3.out.lt (i:=1) rfl rfl).2
 have lt3_2:w.heap.size<w3.heap.size:=(M3.out.lt (i:=2) rfl rfl).2
 clear hx3 ho3
 obtain⟨z0,zf0,z1,zf1,z2,zf2⟩:=(M3.out.blk (i:=1) rfl).trif
 go_wp2
 clear z0 zf0 z1 zf1 z2 zf2
 have M4:=Lib.hid (show Mem w (((w3.setCell ⟨w.heap.size+1,0,none⟩ (.int .i64 wide)).setCell ⟨w.heap.size+1,1,none⟩ (.int .i64 deep)).setCell ⟨w.heap.size+1,2,none⟩ (.slice q0 n c0)) [ownI w.heap.size TI 1 (q0) (n) (c0) (ivs xs),blkI w.heap.size (w.heap.size+1) TH3 #[.int .i64 wide,.int .i64 deep,.slice q0 n c0],blkI w.heap.size (w.heap.size) TH3 #[.int .i64 wide,.int .i64 deep,.slice p n cap]]from((((((M3.out).store (i:=1) rfl 0 (.int .i64 wide))).store (i:=1) rfl 1 (.int .i64 deep))).store (i:=1) rfl 2 (.slice q0 n c0)))
 generalize hwz:World.setCell _ _ _=wz
 rw[hwz]at M4
 clear hwz M3
 obtain⟨y0_0,y0_1,y0_2⟩:=(M4.out.blk (i:=1) rfl).tri
 exact bodyPost_ret (v:= .tuple #[.agg #[.int .i64 wide,.int .i64 deep,.slice q0 n c0],.int .i64 (-1)]) (by simp[results,Tryz.results147,go_sem, *]) rfl (ret_hallI hlen.out (M4.out.own (i:=0) rfl) M4.out.ext)
set_option maxRecDepth 100000 in
set_option maxHeartbeats 4000000 in
theorem specSto_no (wide deep id:Int)(p:Option Addr)(n cap K:Nat)(xs ys zs:List Int)(sl:List Sl2)(w:World)(hlen:Hid (xs.length=n))
  (HV:Hid (∀w',Ext w w'→Calls Tryz.prog 64 #[hallV wide deep p n cap] w' fun e w''=>e= .returned (.bool true)∧Ext w' w''))
  (HC:Hid (∀w',Ext w w'→Calls Tryz.prog 183 #[hallV wide deep p n cap] w' fun e w''=> ∃q c,e= .returned (.tuple #[.slice q K c,.bool true])∧w''.ownsRow w'.heap.size TSL 2 (.slice q K c) K (sl.flatMap slideCells)∧Ext w' w''))
  (HR:Hid (∀w' q c,Ext w w'→Sl w' q K c 2 (sl.flatMap slideCells)→Calls Tryz.prog 184 #[hallV wide deep p n cap,.slice q K c] w' fun e w''=> ∃q c,e= .returned (.tuple #[hallV wide deep q n c,.int .i64 (K:Int)])∧w''.ownsRow w'.heap.size TI 1 (.slice q n c) n (ivs ys)∧Ext w' w''))
  (HP:Hid (∀w' q c,Ext w w'→Sl w' q n c 1 (ivs ys)→Calls Tryz.prog 185 #[hallV wide deep q n c,.int .i64 0,.int .i64 id] w' fun e w''=> ∃q c,e= .returned (.tuple #[hallV wide deep q n c,.bool false])∧w''.ownsRow w'.heap.size TI 1 (.slice q n c) n (ivs zs)∧Ext w' w''))
  (HL:Hid (∀w',Ext w w'→Calls Tryz.prog 182 #[hallV wide deep p n cap] w' fun e w''=> ∃q c,e= .returned (hallV wide deep q n c)∧w''.ownsRow w'.heap.size TI 1 (.slice q n c) n (ivs xs)∧Ext w' w'')):
  Calls Tryz.prog 147 #[hallV wide deep p n cap,.int .i64 id] w (RetHallI wide deep xs (-1) w):=by
 go_enter Tryz.func147,Tryz.ntmps147
 go_wp2_with fail
 refine(HV.out _ (((((Mem.start w).blkNew TH3 #[.int .i64 wide,.int .i64 deep,.slice p n cap] (w.heap.size) (by simp))).blkNew TH3 #[.int .i64 0,.int .i64 0,.slice none 0 0] (w.heap.size+1) (by simp))).ext).mono ?_
 rintro e w1 ⟨rfl,hx1⟩
 have M1:=Lib.hid ((((((Mem.start w).blkNew TH3 #[.int .i64 wide,.int .i64 deep,.slice p n cap] (w.heap.size) (by simp))).blkNew TH3 #[.int .i64 0,.int .i64 0,.slice none 0 0] (w.heap.size+1) (by simp))).adv hx1)
 have lt1_0:w.heap.size+1<w1.heap.size:=(M1.out.lt (i:=0) rfl rfl).2
 have lt1_1:w.heap.size<w1.heap.size:=(M1.out.lt (i:=1) rfl rfl).2
 clear hx1
 obtain⟨ce0,ce1,ce2⟩:=(M1.out.blk (i:=1) rfl).tri
 go_wp2_with fail
 clear ce0 ce1 ce2
 refine(HC.out _ M1.out.ext).mono ?_
 rintro e w2 ⟨qs,cs,rfl,ho2,hx2⟩
 have M2:=Lib.hid ((M1.out).call hx2 ho2)
 clear M1
 clear lt1_0 lt1_1
 have lt2_1:w.heap.size+1<w2.heap.size:=(M2.out.lt (i:=1) rfl rfl).2
 have lt2_2:w.heap.size<w2.heap.size:=(M2.out.lt (i:=2) rfl rfl).2
 clear hx2 ho2
 obtain⟨ce0,ce1,ce2⟩:=(M2.out.blk (i:=2) rfl).tri
 go_wp2_with fail
 clear ce0 ce1 ce2
 refine(HR.out _ qs cs M2.out.ext (M2.out.sl (i:=0) rfl)).mono ?_
 rintro e w3 ⟨q1,c1,rfl,ho3,hx3⟩
 have M3:=Lib.hid ((M2.out).call hx3 ho3)
 clear M2
 clear lt2_1 lt2_2
 have lt3_2:w.heap.size+1<w3.heap.size:=(M3.out.lt (i:=2) rfl rfl).2
 have lt3_3:w.heap.size<w3.heap.size:=(M3.out.lt (i:=3) rfl rfl).2
 clear hx3 ho3
 go_wp2_with fail
 refine(HP.out _ q1 c1 (((M3.out).blkNew TH3 #[.int .i64 wide,.int .i64 deep,.slice q1 n c1] (w3.heap.size) (by simp))).ext ((((M3.out).blkNew TH3 #[.int .i64 wide,.int .i64 deep,.slice q1 n c1] (w3.heap.size) (by simp))).sl (i:=1) rfl)).mono ?_
 rintro e w4 ⟨q2,c2,rfl,ho4,hx4⟩
 have M4:=Lib.hid ((((M3.out).blkNew TH3 #[.int .i64 wide,.int .i64 deep,.slice q1 n c1] (w3.heap.size) (by simp))).call hx4 ho4)
 clear M3
 clear lt3_2 lt3_3
 have lt4_1:w3.heap.size<w4.heap.size:=(M4.out.lt (i:=1) rfl rfl).2
 have lt4_4:w.heap.size+1<w4.heap.size:=(M4.out.lt (i:=4) rfl rfl).2
 have lt4_5:w.heap.size<w4.heap.size:=(M4.out.lt (i:=5) rfl rfl).2
 clear hx4 ho4
 obtain⟨ce0,ce1,ce2⟩:=(M4.out.blk (i:=5) rfl).tri
 go_wp2_with fail
 clear ce0 ce1 ce2
 refine(HL.out _ (((M4.out).blkNew TH3 #[.int .i64 wide,.int .i64 deep,.slice q2 n c2] (w4.heap.size) (by simp))).ext).mono ?_
 rintro e w5 ⟨q0,c0,rfl,ho5,hx5⟩
 have M5:=Lib.hid ((((M4.out).blkNew TH3 #[.int .i64 wide,.int .i64 deep,.slice q2 n c2] (w4.heap.size) (by simp))).call hx5 ho5)
 clear M4
 clear lt4_1 lt4_4 lt4_5
 have lt5_1:w4.heap.size<w5.heap.size:=(M5.out.lt (i:=1) rfl rfl).2
 have lt5_3:w3.heap.size<w5.heap.size:=(M5.out.lt (i:=3) rfl rfl).2
 have lt5_6:w.heap.size+1<w5.heap.size:=(M5.out.lt (i:=6) rfl rfl).2
 have lt5_7:w.heap.size<w5.heap.size:=(M5.out.lt (i:=7) rfl rfl).2
 clear hx5 ho5
 obtain⟨z0,zf0,z1,zf1,z2,zf2⟩:=(M5.out.blk (i:=6) rfl).trif
 go_wp2
 clear z0 zf0 z1 zf1 z2 zf2
 have M6:=Lib.hid (show Mem w (((w5.setCell ⟨w.heap.size+1,0,none⟩ (.int .i64 wide)).setCell ⟨w.heap.size+1,1,none⟩ (.int .i64 deep)).setCell ⟨w.heap.size+1,2,none⟩ (.slice q0 n c0)) [ownI w.heap.size TI 1 (q0) (n) (c0) (ivs xs),blkI w.heap.size (w4.heap.size) TH3 #[.int .i64 wide,.int .i64 deep,.slice q2 n c2],ownI w.heap.size TI 1 (q2) (n) (c2) (ivs zs),blkI w.heap.size (w3.heap.size) TH3 #[.int .i64 wide,.int .i64 deep,.slice q1 n c1],ownI w.heap.size TI 1 (q1) (n) (c1) (ivs ys),ownI w.heap.size TSL 2 (qs) (K) (cs) (sl.flatMap slideCells),blkI w.heap.size (w.heap.size+1) TH3 #[.int .i64 wide,.int .i64 deep,.slice q0 n c0],blkI w.heap.size (w.heap.size) TH3 #[.int .i64 wide,.int .i64 deep,.slice p n cap]]from((((((M5.out).store (i:=6) rfl 0 (.int .i64 wide))).store (i:=6) rfl 1 (.int .i64 deep))).store (i:=6) rfl 2 (.slice q0 n c0)))
 generalize hwz:World.setCell _ _ _=wz
 rw[hwz]at M6
 clear hwz M5
 obtain⟨y0_0,y0_1,y0_2⟩:=(M6.out.blk (i:=6) rfl).tri
 exact bodyPost_ret (v:= .tuple #[.agg #[.int .i64 wide,.int .i64 deep,.slice q0 n c0],.int .i64 (-1)]) (by simp[results,Tryz.results147,go_sem, *]) rfl (ret_hallI hlen.out (M6.out.own (i:=0) rfl) M6.out.ext)
set_option maxRecDepth 100000 in
set_option maxHeartbeats 4000000 in
theorem specSto_yes (wide deep id:Int)(p:Option Addr)(n cap K:Nat)(ys zs:List Int)(sl:List Sl2)(w:World)(hlen:Hid (zs.length=n))
  (HV:Hid (∀w',Ext w w'→Calls Tryz.prog 64 #[hallV wide deep p n cap] w' fun e w''=>e= .returned (.bool true)∧Ext w' w''))
  (HC:Hid (∀w',Ext w w'→Calls Tryz.prog 183 #[hallV wide deep p n cap] w' fun e w''=> ∃q c,e= .returned (.tuple #[.slice q K c,.bool true])∧w''.ownsRow w'.heap.size TSL 2 (.slice q K c) K (sl.flatMap slideCells)∧Ext w' w''))
  (HR:Hid (∀w' q c,Ext w w'→Sl w' q K c 2 (sl.flatMap slideCells)→Calls Tryz.prog 184 #[hallV wide deep p n cap,.slice q K c] w' fun e w''=> ∃q c,e= .returned (.tuple #[hallV wide deep q n c,.int .i64 (K:Int)])∧w''.ownsRow w'.heap.size TI 1 (.slice q n c) n (ivs ys)∧Ext w' w''))
  (HP:Hid (∀w' q c,Ext w w'→Sl w' q n c 1 (ivs ys)→Calls Tryz.prog 185 #[hallV wide deep q n c,.int .i64 0,.int .i64 id] w' fun e w''=> ∃q c,e= .returned (.tuple #[hallV wide deep q n c,.bool true])∧w''.ownsRow w'.heap.size TI 1 (.slice q n c) n (ivs zs)∧Ext w' w'')):
  Calls Tryz.prog 147 #[hallV wide deep p n cap,.int .i64 id] w (RetHallI wide deep zs (K:Int) w):=by
 go_enter Tryz.func147,Tryz.ntmps147
 go_wp2_with fail
 refine(HV.out _ (((((Mem.start w).blkNew TH3 #[.int .i64 wide,.int .i64 deep,.slice p n cap] (w.heap.size) (by simp))).blkNew TH3 #[.int .i64 0,.int .i64 0,.slice none 0 0] (w.heap.size+1) (by simp))).ext).mono ?_
 rintro e w1 ⟨rfl,hx1⟩
 have M1:=Lib.hid ((((((Mem.start w).blkNew TH3 #[.int .i64 wide,.int .i64 deep,.slice p n cap] (w.heap.size) (by simp))).blkNew TH3 #[.int .i64 0,.int .i64 0,.slice none 0 0] (w.heap.size+1) (by simp))).adv hx1)
 have lt1_0:w.heap.size+1<w1.heap.size:=(M1.out.lt (i:=0) rfl rfl).2
 have lt1_1:w.heap.size<w1.heap.size:=(M1.out.lt (i:=1) rfl rfl).2
 clear hx1
 obtain⟨ce0,ce1,ce2⟩:=(M1.out.blk (i:=1) rfl).tri
 go_wp2_with fail
 clear ce0 ce1 ce2
 refine(HC.out _ M1.out.ext).mono ?_
 rintro e w2 ⟨qs,cs,rfl,ho2,hx2⟩
 have M2:=Lib.hid ((M1.out).call hx2 ho2)
 clear M1
 clear lt1_0 lt1_1
 have lt2_1:w.heap.size+1<w2.heap.size:=(M2.out.lt (i:=1) rfl rfl).2
 have lt2_2:w.heap.size<w2.heap.size:=(M2.out.lt (i:=2) rfl rfl).2
 clear hx2 ho2
 obtain⟨ce0,ce1,ce2⟩:=(M2.out.blk (i:=2) rfl).tri
 go_wp2_with fail
 clear ce0 ce1 ce2
 refine(HR.out _ qs cs M2.out.ext (M2.out.sl (i:=0) rfl)).mono ?_
 rintro e w3 ⟨q1,c1,rfl,ho3,hx3⟩
 have M3:=Lib.hid ((M2.out).call hx3 ho3)
 clear M2
 clear lt2_1 lt2_2
 have lt3_2:w.heap.size+1<w3.heap.size:=(M3.out.lt (i:=2) rfl rfl).2
 have lt3_3:w.heap.size<w3.heap.size:=(M3.out.lt (i:=3) rfl rfl).2
 clear hx3 ho3
 go_wp2_with fail
 refine(HP.out _ q1 c1 (((M3.out).blkNew TH3 #[.int .i64 wide,.int .i64 deep,.slice q1 n c1] (w3.heap.size) (by simp))).ext ((((M3.out).blkNew TH3 #[.int .i64 wide,.int .i64 deep,.slice q1 n c1] (w3.heap.size) (by simp))).sl (i:=1) rfl)).mono ?_
 rintro e w4 ⟨q2,c2,rfl,ho4,hx4⟩
 have M4:=Lib.hid ((((M3.out).blkNew TH3 #[.int .i64 wide,.int .i64 deep,.slice q1 n c1] (w3.heap.size) (by simp))).call hx4 ho4)
 clear M3
 clear lt3_2 lt3_3
 have lt4_1:w3.heap.size<w4.heap.size:=(M4.out.lt (i:=1) rfl rfl).2
 have lt4_4:w.heap.size+1<w4.heap.size:=(M4.out.lt (i:=4) rfl rfl).2
 have lt4_5:w.heap.size<w4.heap.size:=(M4.out.lt (i:=5) rfl rfl).2
 clear hx4 ho4
 obtain⟨z0,zf0,z1,zf1,z2,zf2⟩:=(M4.out.blk (i:=4) rfl).trif
 go_wp2
 clear z0 zf0 z1 zf1 z2 zf2
 have M5:=Lib.hid (show Mem w ((((w4.setCell ⟨w.heap.size+1,0,none⟩ (.int .i64 wide)).setCell ⟨w.heap.size+1,1,none⟩ (.int .i64 deep)).setCell ⟨w.heap.size+1,2,none⟩ (.slice q2 n c2)).alloc (.cells #[.int .i64 wide,.int .i64 deep,.slice q2 n c2] TH3)) [blkI w.heap.size (w4.heap.size) TH3 #[.int .i64 wide,.int .i64 deep,.slice q2 n c2],ownI w.heap.size TI 1 (q2) (n) (c2) (ivs zs),blkI w.heap.size (w3.heap.size) TH3 #[.int .i64 wide,.int .i64 deep,.slice q1 n c1],ownI w.heap.size TI 1 (q1) (n) (c1) (ivs ys),ownI w.heap.size TSL 2 (qs) (K) (cs) (sl.flatMap slideCells),blkI w.heap.size (w.heap.size+1) TH3 #[.int .i64 wide,.int .i64 deep,.slice q2 n c2],blkI w.heap.size (w.heap.size) TH3 #[.int .i64 wide,.int .i64 deep,.slice p n cap]]from((((((((M4.out).store (i:=4) rfl 0 (.int .i64 wide))).store (i:=4) rfl 1 (.int .i64 deep))).store (i:=4) rfl 2 (.slice q2 n c2))).blkNew TH3 #[.int .i64 wide,.int .i64 deep,.slice q2 n c2] (w4.heap.size) (by simp)))
 generalize hwz:World.alloc _ _=wz
 rw[hwz]at M5
 clear hwz M4
 obtain⟨y0_0,y0_1,y0_2⟩:=(M5.out.blk (i:=5) rfl).tri
 exact bodyPost_ret (v:= .tuple #[.agg #[.int .i64 wide,.int .i64 deep,.slice q2 n c2],.int .i64 (K:Int)]) (by simp[results,Tryz.results147,go_sem, *]) rfl (ret_hallI hlen.out (M5.out.own (i:=1) rfl) M5.out.ext)
theorem hallPut_len (wide deep:Int)(xs:List Int)(id:Int):(hallPut wide deep xs id).1.length=xs.length:=by
 unfold hallPut;split<;>simp
theorem storeDo_any (wide deep id:Int)(p:Option Addr)(n cap:Nat)(xs:List Int)(w:World)(hS:Sl w p n cap 1 (ivs xs))(hok:hallOk wide deep xs=true):
  Calls Tryz.prog 147 #[hallV wide deep p n cap,.int .i64 id] w (RetHallI wide deep (storeI wide deep xs id).1 (storeI wide deep xs id).2 w):=by
 have hl:=hS.ilen
 subst hl
 obtain⟨g1,g2,g3,g4,g5,g6,g7⟩:=shape_bd (hall_shape hok)
 have HV: ∀w',Ext w w'→Calls Tryz.prog 64 #[hallV wide deep p xs.length cap] w' fun e w''=>e= .returned (.bool true)∧Ext w' w'':=fun w' hy=>by
  have:=specHv wide deep p xs.length cap xs w' (hS.ext hy)
  rwa[hok]at this
 have HL:=fun(w':World) (hy:Ext w w')=>l1Hall_any wide deep p xs.length cap xs w' (by omega) (hS.ext hy)
 have HC:=fun(w':World) (hy:Ext w w')=>clearGate_any wide deep p xs.length cap xs w' (hS.ext hy) hok
 cases hr:clearGate wide xs with
 |none=>
  have e:storeI wide deep xs id=(xs,-1):=by unfold storeI storeDo;rw[hr]
  rw[e]
  rw[hr]at HC
  exact specSto_none wide deep id p xs.length cap xs w rfl HV HC HL
 |some r=>
  rw[hr]at HC
  obtain⟨f1,f2,f3,f4,f5⟩:=clear_facts hok hr
  have HR: ∀w' q c,Ext w w'→Sl w' q r.2.length c 2 (r.2.flatMap slideCells)→Calls Tryz.prog 184 #[hallV wide deep p xs.length cap,.slice q r.2.length c] w' fun e w''=> ∃q c,e= .returned (.tuple #[hallV wide deep q xs.length c,.int .i64 (r.2.length:Int)])∧w''.ownsRow w'.heap.size TI 1 (.slice q xs.length c) xs.length (ivs r.1)∧Ext w' w'':=fun w' q c hy hL=>by
   have:=slideRun_any wide deep p xs.length cap xs q r.2.length c r.2 w' (by omega) (hS.ext hy) hL hok
   rw[f1]at this
   unfold RetHallI at this
   dsimp only at this
   rw[f3]at this
   exact this
  have HP: ∀w' q c,Ext w w'→Sl w' q xs.length c 1 (ivs r.1)→Calls Tryz.prog 185 #[hallV wide deep q xs.length c,.int .i64 0,.int .i64 id] w' fun e w''=> ∃q c,e= .returned (.tuple #[hallV wide deep q xs.length c,.bool (hallPut wide deep r.1 id).2])∧w''.ownsRow w'.heap.size TI 1 (.slice q xs.length c) xs.length (ivs (hallPut wide deep r.1 id).1)∧Ext w' w'':=fun w' q c hy hL=>by
   have:=hallPut_any wide deep id q xs.length c r.1 w' hL f2
   unfold RetHallOk at this
   rw[hallPut_len,f3]at this
   exact this
  cases hb:(hallPut wide deep r.1 id).2 with
  |false=>
   have e:storeI wide deep xs id=(xs,-1):=by simp[storeI,storeDo,hr,hb]
   rw[e]
   rw[hb]at HP
   exact specSto_no wide deep id p xs.length cap r.2.length xs r.1 (hallPut wide deep r.1 id).1 r.2 w rfl HV HC HR HP HL
  |true=>
   have e:storeI wide deep xs id=((hallPut wide deep r.1 id).1,(r.2.length:Int)):=by simp[storeI,storeDo,hr,hb]
   rw[e]
   rw[hb]at HP
   exact specSto_yes wide deep id p xs.length cap r.2.length r.1 (hallPut wide deep r.1 id).1 r.2 w (show _=_ by rw[hallPut_len,f3]) HV HC HR HP
end Go.Proofs.YteejdnmmpmcmeaaGreatDoor

namespace Go.Proofs.YteejdnmmpmcmeaaGreatDoor
open Go.RowKit
set_option linter.unusedVariables false
set_option linter.unusedSimpArgs false
def popc:Nat→Nat
 |0=>0
 |n+1=>(n+1)%2+popc ((n+1)/2)
decreasing_by omega
theorem popc_eq (n:Nat):popc n=n%2+popc (n/2):=by
 cases n with
 |zero=>rw[popc]
 |succ n=>rw[popc]
theorem bit_add: ∀(f S:Nat),S.testBit f=false→ ∀k,(S+2 ^ f).testBit k=(S.testBit k || decide (k=f)):=by
 intro f
 induction f with
 |zero=>
  intro S h k
  rw[Nat.testBit_zero]at h
  have h0:S%2=0:=by simp at h;omega
  cases k with
  |zero=>rw[Nat.testBit_zero,Nat.testBit_zero];simp;omega
  |succ k=>rw[Nat.testBit_succ,Nat.testBit_succ,show(S+2 ^ 0)/2=S/2 by simp;omega];simp
 |succ f ih=>
  intro S h k
  rw[Nat.testBit_succ]at h
  have e:(S+2 ^ (f+1))/2=S/2+2 ^ f:=by rw[Nat.pow_succ];omega
  cases k with
  |zero=>rw[Nat.testBit_zero,Nat.testBit_zero];simp[Nat.pow_succ]<;>omega
  |succ k=>rw[Nat.testBit_succ,Nat.testBit_succ,e,ih _ h];simp
theorem popc_add: ∀(f S:Nat),S.testBit f=false→popc (S+2 ^ f)=popc S+1:=by
 intro f
 induction f with
 |zero=>
  intro S h
  rw[Nat.testBit_zero]at h
  have h0:S%2=0:=by simp at h;omega
  rw[popc_eq (S+2 ^ 0),popc_eq S,show(S+2 ^ 0)/2=S/2 by simp;omega]
  simp;omega
 |succ f ih=>
  intro S h
  rw[Nat.testBit_succ]at h
  have e:(S+2 ^ (f+1))/2=S/2+2 ^ f:=by rw[Nat.pow_succ];omega
  rw[popc_eq (S+2 ^ (f+1)),popc_eq S,e,ih _ h]
  have:(S+2 ^ (f+1))%2=S%2:=by rw[Nat.pow_succ];omega
  omega
theorem bit_split: ∀(t S:Nat),S.testBit t=true→ ∃R,S=R+2 ^ t∧R.testBit t=false:=by
 intro t
 induction t with
 |zero=>
  intro S h
  rw[Nat.testBit_zero]at h
  have h0:S%2=1:=by simpa using h
  exact⟨S-1,by simp;omega,by rw[Nat.testBit_zero];simp;omega⟩
 |succ t ih=>
  intro S h
  rw[Nat.testBit_succ]at h
  obtain⟨R,h1,h2⟩:=ih _ h
  refine⟨2*R+S%2,by rw[Nat.pow_succ];omega,?_⟩
  rw[Nat.testBit_succ,show(2*R+S%2)/2=R by omega];exact h2
theorem bit_sub {t S:Nat}(h:S.testBit t=true):2 ^ t≤S∧(∀k,(S-2 ^ t).testBit k=(S.testBit k&& !decide (k=t)))∧popc S=popc (S-2 ^ t)+1:=by
 obtain⟨R,rfl,h2⟩:=bit_split t S h
 rw[Nat.add_sub_cancel]
 refine⟨Nat.le_add_left _ _,fun k=> ?_,popc_add _ _ h2⟩
 rw[bit_add _ _ h2]
 by_cases hk:k=t
 ·subst hk;simp[h2]
 ·simp[hk]
def moveS (S f t:Nat):Nat:=S-2 ^ t+2 ^ f
theorem moveS_bit {S f t:Nat}(ht:S.testBit t=true)(hf:S.testBit f=false)(k:Nat):(moveS S f t).testBit k=(decide (k=f) || (S.testBit k&& !decide (k=t))):=by
 obtain⟨a,b,c⟩:=bit_sub ht
 unfold moveS
 have hne:f≠t:=fun e=>by subst e;rw[ht]at hf;cases hf
 rw[bit_add _ _ (by rw[b,hf];rfl),b]
 cases S.testBit k<;>cases decide (k=f)<;>cases decide (k=t)<;>rfl
theorem moveS_popc {S f t:Nat}(ht:S.testBit t=true)(hf:S.testBit f=false):popc (moveS S f t)=popc S:=by
 obtain⟨a,b,c⟩:=bit_sub ht
 unfold moveS
 rw[popc_add _ _ (by rw[b,hf];rfl),c]
theorem bits_eq {a b:Nat}(h: ∀k,a.testBit k=b.testBit k):a=b:=Nat.eq_of_testBit_eq h
theorem lt_bits {n a:Nat}(h: ∀k,n≤k→a.testBit k=false):a<2 ^ n:=Nat.lt_pow_two_of_testBit a h
theorem bit_lt {n a:Nat}(h:a<2 ^ n){k:Nat}(hk:n≤k):a.testBit k=false:=Nat.testBit_lt_two_pow (Nat.lt_of_lt_of_le h (Nat.pow_le_pow_right (by omega) hk))
theorem moveS_lt {n S f t:Nat}(hS:S<2 ^ n)(hfn:f<n)(ht:S.testBit t=true)(hf:S.testBit f=false):moveS S f t<2 ^ n:=by
 refine lt_bits fun k hk=> ?_
 rw[moveS_bit ht hf,bit_lt hS hk]
 have:k≠f:=by omega
 simp[this]
theorem moveS_back {S f t:Nat}(ht:S.testBit t=true)(hf:S.testBit f=false):moveS (moveS S f t) t f=S:=by
 have hne:f≠t:=fun e=>by subst e;rw[ht]at hf;cases hf
 refine bits_eq fun k=> ?_
 rw[moveS_bit (by rw[moveS_bit ht hf];simp) (by rw[moveS_bit ht hf];simp[Ne.symm hne]),moveS_bit ht hf]
 by_cases h1:k=t
 ·subst h1;simp[ht]
 ·by_cases h2:k=f
  ·subst h2;simp[h1,hf]
  ·simp[h1,h2]
def setN (p:Nat→Bool):Nat→Nat
 |0=>0
 |k+1=>setN p k+(if p k then 2 ^ k else 0)
theorem setN_lt (p:Nat→Bool)(k:Nat):setN p k<2 ^ k:=by
 induction k with
 |zero=>simp[setN]
 |succ k ih=>unfold setN;rw[Nat.pow_succ];split<;>omega
theorem setN_bit (p:Nat→Bool)(k j:Nat):(setN p k).testBit j=(decide (j<k)&&p j):=by
 induction k with
 |zero=>simp[setN]
 |succ k ih=>
  have hk:(setN p k).testBit k=false:=bit_lt (setN_lt p k) (Nat.le_refl _)
  unfold setN
  cases hp:p k with
  |false=>
   simp only[Bool.false_eq_true,if_false,Nat.add_zero]
   rw[ih]
   by_cases h:j=k
   ·subst h;simp[hp]
   ·have:(j<k+1)↔j<k:=by omega
    simp[this]
  |true=>
   simp only[if_true]
   rw[bit_add _ _ hk,ih]
   by_cases h:j=k
   ·subst h;simp[hp]
   ·have:(j<k+1)↔j<k:=by omega
    simp[this,h]
theorem setN_popc (p:Nat→Bool)(k:Nat):popc (setN p k)=((List.range k).filter p).length:=by
 induction k with
 |zero=>simp[setN,popc]
 |succ k ih=>
  have hk:(setN p k).testBit k=false:=bit_lt (setN_lt p k) (Nat.le_refl _)
  rw[List.range_succ,List.filter_append,List.length_append,←ih,show setN p (k+1)=setN p k+(if p k then 2 ^ k else 0)from rfl]
  cases hp:p k with
  |false=>simp[hp]
  |true=>simp only[if_true];rw[popc_add _ _ hk];simp[hp]
def freeSet (xs:List Int):Nat:=setN (isFree xs) xs.length
theorem freeSet_bit (xs:List Int)(k:Nat):(freeSet xs).testBit k=isFree xs k:=by
 unfold freeSet
 rw[setN_bit]
 by_cases h:k<xs.length
 ·simp[h]
 ·have:isFree xs k=false:=by
   unfold isFree;rw[List.getElem?_eq_none (by omega)];rfl
  rw[this];simp
theorem freeSet_lt (xs:List Int):freeSet xs<2 ^ xs.length:=setN_lt _ _
theorem freeSet_popc (xs:List Int):popc (freeSet xs)=(freeN xs).length:=setN_popc _ _
end Go.Proofs.YteejdnmmpmcmeaaGreatDoor

namespace Go.Proofs.YteejdnmmpmcmeaaGreatDoor
open Go.RowKit
set_option linter.unusedVariables false
set_option linter.unusedSimpArgs false
def edgesS (wide:Int)(n S:Nat):List (Nat×Nat):=(List.range n).flatMap fun f=>if S.testBit f then []else((besideN wide n f).filter (fun t=>S.testBit t)).map (fun t=>(f,t))
theorem edgesS_mem {wide:Int}{n S:Nat}{e:Nat×Nat}:e∈edgesS wide n S↔e.1<n∧e.2<n∧e.2∈besideN wide n e.1∧S.testBit e.1=false∧S.testBit e.2=true:=by
 obtain⟨f,t⟩:=e
 simp only[edgesS,List.mem_flatMap,List.mem_range]
 constructor
 ·rintro⟨a,ha,hm⟩
  cases hb:S.testBit a with
  |true=>rw[hb]at hm;simp at hm
  |false=>
   rw[hb]at hm
   simp only[Bool.false_eq_true,if_false,List.mem_map,List.mem_filter]at hm
   obtain⟨x,⟨h1,h2⟩,h3⟩:=hm
   injection h3 with h3 h4
   subst h3 h4
   exact⟨ha,(besideN_mem.1 h1).1,h1,hb,h2⟩
 ·rintro⟨h1,h2,h3,h4,h5⟩
  refine⟨f,h1,?_⟩
  rw[h4]
  simp only[Bool.false_eq_true,if_false,List.mem_map,List.mem_filter]
  exact⟨t,⟨h3,h5⟩,rfl⟩
def carAt (c f t:Nat):Nat:=if f=c then t else c
def nextS (M c S f t:Nat):Nat:=carAt c f t*M+moveS S f t
def adjB (wide:Int)(n M s:Nat):List Nat:=(List.range n).flatMap fun h=>if(s%M).testBit h then((besideN wide n h).filter (fun f=> !(s%M).testBit f)).map (fun f=>nextS M (s/M) (s%M) f h)else []
def Edge (wide:Int)(n M s v:Nat):Prop:= ∃f t,f<n∧t<n∧t∈besideN wide n f∧(s%M).testBit f=false∧(s%M).testBit t=true∧v=nextS M (s/M) (s%M) f t
theorem adjB_mem {wide:Int}{n M s v:Nat}:v∈adjB wide n M s↔Edge wide n M s v:=by
 unfold adjB Edge
 rw[List.mem_flatMap]
 constructor
 ·rintro⟨h,hh,hm⟩
  rw[List.mem_range]at hh
  cases hb:(s%M).testBit h with
  |false=>rw[hb]at hm;simp at hm
  |true=>
   rw[hb]at hm
   simp only[if_true,List.mem_map,List.mem_filter,Bool.not_eq_true']at hm
   obtain⟨f,⟨h1,h2⟩,rfl⟩:=hm
   exact⟨f,h,(besideN_mem.1 h1).1,hh,besideN_symm hh h1,h2,hb,rfl⟩
 ·rintro⟨f,t,h1,h2,h3,h4,h5,rfl⟩
  refine⟨t,List.mem_range.2 h2,?_⟩
  rw[h5]
  simp only[if_true,List.mem_map,List.mem_filter,Bool.not_eq_true']
  exact⟨f,⟨besideN_symm h1 h3,h4⟩,rfl⟩
structure StOk (n M s:Nat):Prop where
 car:s/M<n
 set:s%M<2 ^ n
 occ:(s%M).testBit (s/M)=false
theorem code_div {M c S:Nat}(h:S<M):(c*M+S)/M=c:=by
 rw[Nat.mul_comm,Nat.mul_add_div (by omega),Nat.div_eq_of_lt h,Nat.add_zero]
theorem code_mod {M c S:Nat}(h:S<M):(c*M+S)%M=S:=by
 rw[Nat.mul_comm,Nat.mul_add_mod,Nat.mod_eq_of_lt h]
theorem carAt_lt {n c f t:Nat}(hc:c<n)(ht:t<n):carAt c f t<n:=by unfold carAt;split<;>omega
theorem edge_code {wide:Int}{n M s v:Nat}(hM:2 ^ n≤M)(hS:s%M<2 ^ n)(h:Edge wide n M s v): ∃f t,f<n∧t<n∧t∈besideN wide n f∧(s%M).testBit f=false∧(s%M).testBit t=true∧v/M=carAt (s/M) f t∧v%M=moveS (s%M) f t∧moveS (s%M) f t<2 ^ n:=by
 obtain⟨f,t,h1,h2,h3,h4,h5,rfl⟩:=h
 have hl:=moveS_lt hS h1 h5 h4
 exact⟨f,t,h1,h2,h3,h4,h5,code_div (by omega),code_mod (by omega),hl⟩
theorem edge_lt {wide:Int}{n M s v:Nat}(hM:2 ^ n≤M)(hc:s/M<n)(hS:s%M<2 ^ n)(h:Edge wide n M s v):v/M<n∧v%M<2 ^ n:=by
 obtain⟨f,t,h1,h2,h3,h4,h5,h6,h7,h8⟩:=edge_code hM hS h
 exact⟨by rw[h6];exact carAt_lt hc h2,by rw[h7];exact h8⟩
theorem edge_ok {wide:Int}{n M s v:Nat}(hM:2 ^ n≤M)(hs:StOk n M s)(h:Edge wide n M s v):StOk n M v:=by
 obtain⟨a,b⟩:=edge_lt hM hs.car hs.set h
 obtain⟨f,t,h1,h2,h3,h4,h5,h6,h7,h8⟩:=edge_code hM hs.set h
 refine⟨a,b,?_⟩
 rw[h6,h7,moveS_bit h5 h4]
 unfold carAt
 have hne:f≠t:=fun e=>by subst e;rw[h5]at h4;cases h4
 split
 ·simp[Ne.symm hne]
 ·have:=hs.occ
  have h9:s/M≠f:=fun e=>by omega
  simp[this,h9]
theorem edge_popc {wide:Int}{n M s v:Nat}(hM:2 ^ n≤M)(hS:s%M<2 ^ n)(h:Edge wide n M s v):popc (v%M)=popc (s%M):=by
 obtain⟨f,t,h1,h2,h3,h4,h5,h6,h7,h8⟩:=edge_code hM hS h
 rw[h7,moveS_popc h5 h4]
theorem edge_symm {wide:Int}{n M s v:Nat}(hM:2 ^ n≤M)(hs:StOk n M s)(h:Edge wide n M s v):Edge wide n M v s:=by
 obtain⟨f,t,h1,h2,h3,h4,h5,h6,h7,h8⟩:=edge_code hM hs.set h
 have hne:f≠t:=fun e=>by subst e;rw[h5]at h4;cases h4
 refine⟨t,f,h2,h1,besideN_symm h1 h3,by rw[h7,moveS_bit h5 h4];simp[Ne.symm hne],by rw[h7,moveS_bit h5 h4];simp,?_⟩
 have hcar:carAt (v/M) t f=s/M:=by
  rw[h6]
  unfold carAt
  by_cases hf:f=s/M
  ·simp[hf]
  ·have ht: ¬t=s/M:=fun e=>by have:=hs.occ;rw[←e,h5]at this;cases this
   simp[hf,ht]
 unfold nextS
 rw[hcar,h7,moveS_back h5 h4]
 rw[Nat.mul_comm];exact(Nat.div_add_mod s M).symm
def potTab:List ((Int×Nat)×List Nat):= [
 ((2,4),[0,0,0,0,1,0,2,3,1,2,0,3,5,4,4,0]),
 ((2,6),[0,0,0,0,0,0,1,0,2,3,3,4,1,2,0,3,5,4,5,4,4,0,5,6,7,8,6,7,0,8,9,8,8,7,9,0]),
 ((3,6),[0,0,0,0,0,0,1,0,5,2,3,4,7,6,0,8,7,8,1,2,3,0,3,4,5,4,5,4,0,6,9,8,9,8,7,0]),
 ((3,9),[0,0,0,0,0,0,0,0,0,1,0,5,2,3,4,3,4,5,7,6,0,8,7,8,9,8,9,1,2,3,0,3,4,5,4,5,5,4,5,4,0,6,5,6,7,9,8,9,8,7,0,9,8,9,7,8,9,6,7,8,0,8,9,9,8,9,8,7,8,9,0,9,13,12,11,12,11,10,11,10,0]),
 ((4,8),[0,0,0,0,0,0,0,0,1,0,5,6,2,3,4,5,7,6,0,10,8,7,8,9,13,12,11,0,14,13,12,13,1,2,3,4,0,3,4,5,5,4,5,6,4,0,6,7,9,8,9,10,8,7,0,11,15,14,13,14,14,13,12,0]),
 ((4,12),[0,0,0,0,0,0,0,0,0,0,0,0,1,0,5,6,2,3,4,5,3,4,5,6,7,6,0,10,8,7,8,9,9,8,9,10,13,12,11,0,14,13,12,13,15,14,13,14,1,2,3,4,0,3,4,5,5,4,5,6,5,4,5,6,4,0,6,7,5,6,7,8,9,8,9,10,8,7,0,11,9,8,9,10,15,14,13,14,14,13,12,0,15,14,13,14,7,8,9,10,6,7,8,9,0,8,9,10,9,8,9,10,8,7,8,9,9,0,9,10,13,12,11,12,12,11,10,11,11,10,0,12,17,16,15,16,16,15,14,15,15,14,13,0])]
def pot (wide:Int)(n c h:Nat):Nat:=((potTab.find? (fun g=>g.1==(wide,n))).map (fun g=>g.2.getD (c*n+h) 0)).getD 0
def potOk (wide:Int)(n:Nat):Bool:=(List.range n).all fun c=>(List.range n).all fun h=>decide (pot wide n c h≤60)&&(c==0 || c==h || (besideN wide n h).any fun t=>decide (pot wide n (if t=c then h else c) t<pot wide n c h))
theorem pots_ok:(grids.all fun g=>potOk g.1 g.2)=true:=by decide+kernel
theorem pot_step {wide:Int}{n c h:Nat}(hg:(wide,n)∈grids)(hc:c<n)(hh:h<n):pot wide n c h≤60∧(c≠0→c≠h→ ∃t,t∈besideN wide n h∧pot wide n (if t=c then h else c) t<pot wide n c h):=by
 have h1:=List.all_eq_true.1 pots_ok _ hg
 have h2:=List.all_eq_true.1 (List.all_eq_true.1 h1 c (List.mem_range.2 hc)) h (List.mem_range.2 hh)
 simp only[Bool.and_eq_true,Bool.or_eq_true,decide_eq_true_eq,beq_iff_eq,List.any_eq_true]at h2
 refine⟨h2.1,fun a b=> ?_⟩
 rcases h2.2 with(h3|h3)|⟨t,h3,h4⟩
 ·exact absurd h3 a
 ·exact absurd h3 b
 ·exact⟨t,h3,h4⟩
def srcS (n many:Nat):List Nat:=(List.range (2 ^ n)).filter (fun s=> !s.testBit 0&&decide (popc s=many))
theorem srcS_mem {n many s:Nat}:s∈srcS n many↔s<2 ^ n∧s.testBit 0=false∧popc s=many:=by
 simp[srcS]
section
variable {wide:Int} {n many:Nat} {D:List Int}
abbrev MM:Nat:=4096
abbrev NN:Nat:=49152
abbrev DistB (wide:Int)(n many:Nat)(D:List Int):Prop:=Dist (adjB wide n MM) (srcS n many) NN D
theorem n_pow (hn:n≤12):2 ^ n≤MM:=Nat.pow_le_pow_right (n:=2) (by omega) hn
theorem ok_lt (hn:n≤12){s:Nat}(h:StOk n MM s):s<NN:=by
 have h1:=h.car;have h2:=Nat.div_add_mod s MM;have h3:s%MM<MM:=Nat.mod_lt _ (by decide)
 show s<49152
 have:s/4096<n:=h1
 omega
theorem lt_car {s:Nat}(h:s<NN):s/MM<12:=by have:s<49152:=h;show s/4096<12;omega
theorem dist_ok (hn0:4≤n)(hn:n≤12)(hD:DistB wide n many D): ∀(k s:Nat),s<NN→D.getD s 0=k→StOk n MM s∧popc (s%MM)=many:=by
 intro k
 induction k with
 |zero=>
  intro s hs h0
  have hm:=(hD.zero s hs).1 (by omega)
  obtain⟨h1,h2,h3⟩:=srcS_mem.1 hm
  have h4:=n_pow hn
  have h5:s%MM=s:=Nat.mod_eq_of_lt (by omega)
  have h6:s/MM=0:=Nat.div_eq_of_lt (by omega)
  exact⟨⟨by rw[h6];omega,by rw[h5];exact h1,by rw[h5,h6];exact h2⟩,by rw[h5];exact h3⟩
 |succ k ih=>
  intro s hs h0
  obtain⟨u,hu,hv,hd⟩:=hD.back s hs (by omega)
  obtain⟨a,b⟩:=ih u hu (by omega)
  have he:=adjB_mem.1 hv
  exact⟨edge_ok (n_pow hn) a he,by rw[edge_popc (n_pow hn) a.set he];exact b⟩
theorem dist_edge (hn0:4≤n)(hn:n≤12)(hD:DistB wide n many D){s v:Nat}(hs:StOk n MM s)(he:Edge wide n MM s v):(0≤D.getD s 0↔0≤D.getD v 0)∧(0≤D.getD s 0→D.getD s 0≤D.getD v 0+1∧D.getD v 0≤D.getD s 0+1):=by
 have hv:=edge_ok (n_pow hn) hs he
 have he':=edge_symm (n_pow hn) hs he
 have l1:=ok_lt hn hs;have l2:=ok_lt hn hv
 have e1:=fun h=>hD.edge s v l1 h (adjB_mem.2 he)
 have e2:=fun h=>hD.edge v s l2 h (adjB_mem.2 he')
 exact⟨⟨fun h=>(e1 h).1,fun h=>(e2 h).1⟩,fun h=>⟨(e2 (e1 h).1).2,(e1 h).2⟩⟩
theorem dist_pot (hg:(wide,n)∈grids)(hn0:4≤n)(hn:n≤12)(hD:DistB wide n many D): ∀(P s h:Nat),pot wide n (s/MM) h≤P→StOk n MM s→popc (s%MM)=many→(s%MM).testBit h=true→0≤D.getD s 0∧D.getD s 0≤pot wide n (s/MM) h:=by
 intro P
 induction P with
 |zero=>
  intro s h hP hs hm hh
  by_cases h0:s/MM=0
  ·have h1:s=s%MM:=by have:=Nat.div_add_mod s MM;rw[h0]at this;omega
   have:D.getD s 0=0:=(hD.zero s (ok_lt hn hs)).2 (srcS_mem.2 ⟨by rw[h1];exact hs.set,by rw[h1,←h0];exact hs.occ,by rw[h1];exact hm⟩)
   rw[this];exact⟨Int.le_refl _,by omega⟩
  ·have hhn:h<n:=by
    rcases Nat.lt_or_ge h n with h1|h1
    ·exact h1
    ·rw[bit_lt hs.set h1]at hh;cases hh
   obtain⟨t,ht,hlt⟩:=(pot_step hg hs.car hhn).2 h0 (fun e=>by rw[←e,hs.occ]at hh;cases hh)
   omega
 |succ P ih=>
  intro s h hP hs hm hh
  by_cases h0:s/MM=0
  ·have h1:s=s%MM:=by have:=Nat.div_add_mod s MM;rw[h0]at this;omega
   have:D.getD s 0=0:=(hD.zero s (ok_lt hn hs)).2 (srcS_mem.2 ⟨by rw[h1];exact hs.set,by rw[h1,←h0];exact hs.occ,by rw[h1];exact hm⟩)
   rw[this];exact⟨Int.le_refl _,by omega⟩
  ·have hhn:h<n:=by
    rcases Nat.lt_or_ge h n with h1|h1
    ·exact h1
    ·rw[bit_lt hs.set h1]at hh;cases hh
   obtain⟨t,ht,hlt⟩:=(pot_step hg hs.car hhn).2 h0 (fun e=>by rw[←e,hs.occ]at hh;cases hh)
   have htn:=(besideN_mem.1 ht).1
   cases hb:(s%MM).testBit t with
   |true=>
    have hne:t≠s/MM:=fun e=>by rw[e,hs.occ]at hb;cases hb
    rw[if_neg hne]at hlt
    obtain⟨a,b⟩:=ih s t (by omega) hs hm hb
    exact⟨a,by omega⟩
   |false=>
    have he:Edge wide n MM s (nextS MM (s/MM) (s%MM) t h):=⟨t,h,htn,hhn,besideN_symm hhn ht,hb,hh,rfl⟩
    obtain⟨f',t',k1,k2,k3,k4,k5,k6,k7,k8⟩:=edge_code (n_pow hn) hs.set he
    have hl:=moveS_lt hs.set htn hh hb
    have e1:nextS MM (s/MM) (s%MM) t h/MM=carAt (s/MM) t h:=code_div (Nat.lt_of_lt_of_le hl (n_pow hn))
    have e2:nextS MM (s/MM) (s%MM) t h%MM=moveS (s%MM) t h:=code_mod (Nat.lt_of_lt_of_le hl (n_pow hn))
    have hok:=edge_ok (n_pow hn) hs he
    have hpc:=edge_popc (n_pow hn) hs.set he
    have hne:t≠h:=fun e=>by subst e;rw[hh]at hb;cases hb
    have hp:pot wide n (nextS MM (s/MM) (s%MM) t h/MM) t=pot wide n (if t=s/MM then h else s/MM) t:=by rw[e1];rfl
    obtain⟨a,b⟩:=ih _ t (by rw[hp];omega) hok (by rw[hpc];exact hm) (by rw[e2,moveS_bit hh hb];simp)
    rw[hp]at b
    obtain⟨c1,c2⟩:=dist_edge hn0 hn hD hs he
    have c3:=c1.2 a
    have:=c2 c3
    exact⟨c3,by omega⟩
theorem dist_le {adj:Nat→List Nat}{src:List Nat}{N:Nat}{D E:List Int}(hD:Dist adj src N D)(hE:Dist adj src N E): ∀(k v:Nat),v<N→D.getD v 0=k→0≤E.getD v 0∧E.getD v 0≤k:=by
 intro k
 induction k with
 |zero=>
  intro v hv h
  have:E.getD v 0=0:=(hE.zero v hv).2 ((hD.zero v hv).1 (by omega))
  rw[this];simp
 |succ k ih=>
  intro v hv h
  obtain⟨u,hu,hm,hd⟩:=hD.back v hv (by omega)
  obtain⟨a,b⟩:=ih u hu (by omega)
  obtain⟨c,d⟩:=hE.edge u v hu a hm
  exact⟨c,by omega⟩
theorem dist_same {adj:Nat→List Nat}{src:List Nat}{N:Nat}{D E:List Int}(hD:Dist adj src N D)(hE:Dist adj src N E){v:Nat}(hv:v<N):(0≤D.getD v 0↔0≤E.getD v 0)∧(0≤D.getD v 0→D.getD v 0=E.getD v 0):=by
 have h1: ∀(A B:List Int),Dist adj src N A→Dist adj src N B→0≤A.getD v 0→0≤B.getD v 0∧B.getD v 0≤A.getD v 0:=by
  intro A B hA hB h
  obtain⟨k,hk⟩:=Int.eq_ofNat_of_zero_le h
  have:=dist_le hA hB k v hv hk
  rw[hk];exact this
 refine⟨⟨fun h=>(h1 D E hD hE h).1,fun h=>(h1 E D hE hD h).1⟩,fun h=> ?_⟩
 obtain⟨a,b⟩:=h1 D E hD hE h
 obtain⟨c,d⟩:=h1 E D hE hD a
 omega
def seedD (N:Nat)(src:List Nat):List Int:=src.foldl (fun A v=>A.set v 0) (List.replicate N (-1))
theorem seedD_snoc (N:Nat)(src:List Nat)(v:Nat):seedD N (src++ [v])=(seedD N src).set v 0:=by simp[seedD]
theorem seedD_len (N:Nat)(src:List Nat):(seedD N src).length=N:=by
 unfold seedD
 suffices h: ∀(l:List Nat) (A:List Int),(l.foldl (fun A v=>A.set v 0) A).length=A.length by rw[h];simp
 intro l
 induction l with
 |nil=>intro A;rfl
 |cons x l ih=>intro A;simp only[List.foldl_cons];rw[ih];simp
theorem seedD_get (N:Nat)(src:List Nat)(v:Nat)(hv:v<N):(v∈src→(seedD N src).getD v 0=0)∧(v∉src→(seedD N src).getD v 0= -1):=by
 unfold seedD
 suffices h: ∀(l:List Nat) (A:List Int),A.length=N→(v∈l→(l.foldl (fun A v=>A.set v 0) A).getD v 0=0)∧(v∉l→(l.foldl (fun A v=>A.set v 0) A).getD v 0=A.getD v 0) by
  obtain⟨a,b⟩:=h src (List.replicate N (-1)) (by simp)
  exact⟨a,fun h=>by rw[b h];simp[List.getD,hv]⟩
 intro l
 induction l with
 |nil=>intro A _;simp
 |cons x l ih=>
  intro A hA
  simp only[List.foldl_cons]
  obtain⟨a,b⟩:=ih (A.set x 0) (by simpa using hA)
  constructor
  ·intro hm
   by_cases hl:v∈l
   ·exact a hl
   ·have:v=x:=by simpa[hl]using hm
    subst this
    rw[b hl,getD_set_self (by omega)]
  ·intro hm
   have h1:v≠x:=fun e=>hm (by simp[e])
   have h2:v∉l:=fun e=>hm (by simp[e])
   rw[b h2,getD_set_ne (Ne.symm h1)]
theorem Inv.begin {adj:Nat→List Nat}{src:List Nat}{N:Nat}(hb: ∀v∈src,v<N)(hnd:src.Nodup):Inv adj src N 0 (seedD N src,src):=by
 have h0: ∀v∈src,(seedD N src).getD v 0=0:=fun v hv=>(seedD_get N src v (hb v hv)).1 hv
 refine⟨seedD_len _ _,hb,fun v hv=> ?_,hnd,?_,?_,?_,fun v hv=>⟨hv,h0 v hv⟩,fun i u hi=>absurd hi (by omega)⟩
 ·by_cases hm:v∈src
  ·rw[h0 v hm];simp[hm]
  ·rw[(seedD_get N src v hv).2 hm];simp[hm]
 ·refine List.pairwise_iff_getElem.2 fun i j hi hj _=> ?_
  dsimp only
  rw[h0 _ (List.getElem_mem hi),h0 _ (List.getElem_mem hj)];exact Int.le_refl _
 ·intro u hu v hv
  dsimp only
  rw[h0 v hv,h0 u (List.mem_of_getElem? hu)];omega
 ·intro v hv
  dsimp only
  rw[h0 v hv]
  exact hv
theorem adjB_bd (hn:n≤12): ∀u v,u<NN→v∈adjB wide n MM u→v<NN:=by
 intro u v hu hv
 obtain⟨f,t,h1,h2,h3,h4,h5,rfl⟩:=adjB_mem.1 hv
 have hc:carAt (u/MM) f t<12:=carAt_lt (lt_car hu) (by omega)
 have hS:u%MM<2 ^ 12:=Nat.mod_lt _ (by decide)
 have:=moveS_lt hS (by omega:f<12) h5 h4
 show carAt (u/MM) f t*4096+moveS (u%MM) f t<49152
 have h12:(2:Nat) ^ 12=4096:=by decide
 omega
theorem srcS_bd (hn:n≤12): ∀v∈srcS n many,v<NN:=fun v hv=>by
 have:=(srcS_mem.1 hv).1
 have h:=n_pow hn
 have h2:(MM:Nat)<NN:=by decide
 omega
theorem srcS_nodup:(srcS n many).Nodup:=List.Pairwise.filter _ List.nodup_range
end
end Go.Proofs.YteejdnmmpmcmeaaGreatDoor

