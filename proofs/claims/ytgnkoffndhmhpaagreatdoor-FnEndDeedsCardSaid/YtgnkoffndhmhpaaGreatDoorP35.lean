/-
  Texts of this proof, packed (@packed).
-/
import Derived.Test.YtgnkoffndhmhpaaGreatDoorP5
import Derived.Test.YtgnkoffndhmhpaaGreatDoorP8
import Derived.Test.YtgnkoffndhmhpaaGreatDoorP10
import Derived.Test.YtgnkoffndhmhpaaGreatDoorP13
import Derived.Test.YtgnkoffndhmhpaaGreatDoorP34
namespace Go.Proofs.YtgnkoffndhmhpaaGreatDoor
open Go.RowKit
set_option linter.unusedVariables false
set_option linter.unusedSimpArgs false
set_option maxHeartbeats 8000000
set_option maxRecDepth 100000
theorem aGc (aA aB id:Int)(b off cap:Nat)(x:Int)(xs:List Int)(w:World)(hn0:4≤xs.length)(hn:xs.length≤12)(HX0:Hid (xs[0]? =some x)) (hb:b<w.heap.size) (HCX:Hid (w.cell? ⟨b,off,none⟩=some (.int .i64 x))) (hid:id<1)
  (HV:xB 80 #[aH aA aB (some ⟨b,off,none⟩) xs.length cap] w true)
  (HK:Hid (∀w',Ext w w'→Calls Tryz.prog 105 #[aH aA aB (some ⟨b,off,none⟩) xs.length cap] w' (cZ aA aB xs w'))):
  Calls Tryz.prog 146 #[aH aA aB (some ⟨b,off,none⟩) xs.length cap,(),id] w (cQ aA aB xs false w):=by
 have aa:decide (id<1)=true:=by simp;omega
 go_enter Tryz.func146,Tryz.ntmps146
 go_wp2_with fail
 refine(HV _ (((Mem.start w).bn TH3 #[aA,aB,.slice (some ⟨b,off,none⟩) xs.length cap] (w.heap.size)).bn TH3 #[(),(),((),())] (w.heap.size+1)).ext).mono ?_
 rintro e w1 ⟨rfl,n⟩
 have M1:=((((Mem.start w).bn TH3 #[aA,aB,.slice (some ⟨b,off,none⟩) xs.length cap] (w.heap.size)).bn TH3 #[(),(),((),())] (w.heap.size+1)).adv n)
 have d:=M1.hi 0
 have i:=M1.hi 1
 clear n
 obtain⟨h0,h1,h2⟩:=(M1.bk 1).tri
 go_wp2_with fail
 clear h0 h1 h2
 refine(HK _ M1.ext).mono ?_
 rintro e w2 ⟨q,c2,rfl,l,k⟩
 have M2:=(M1.call k l)
 clear M1 d i k l
 have h:=M2.hi 1
 have j:=M2.hi 2
 obtain⟨g,rfl,t,y⟩:=M2.so 0
 clear t y
 go_upto_region 4 with fail
 obtain⟨gV,f⟩: ∃gV,gV=w2.heap.size:=⟨_,rfl⟩
 rw[←f]
 have M3:=(M2.blkNew TH3 #[aA,aB,.slice (some ⟨g,0,none⟩) xs.length c2] gV f.symm)
 generalize World.alloc _ _=w4 at M3⊢
 clear M2 h j f
 have s:=M3.hi 0
 have r:=M3.hi 2
 have p:=M3.hi 3
 obtain⟨v0,v1,v2⟩:=(M3.bk 0).tri
 obtain⟨z0,u,z1,o,z2,z⟩:=(M3.bk 2).trif
 obtain⟨a,c⟩:=M3.nq 0 2
 go_wp2
 have M4:=((M3.st 2 0 (.int .i64 aA)).st 2 1 (.int .i64 aB))
 have M5:=(M4.st 2 2 (.slice (some ⟨g,0,none⟩) xs.length c2))
 have M6:=(show Mem w (((w4.setCell ⟨w.heap.size+1,0,none⟩ (.int .i64 aA)).setCell ⟨w.heap.size+1,1,none⟩ (.int .i64 aB)).setCell ⟨w.heap.size+1,2,none⟩ (.slice (some ⟨g,0,none⟩) xs.length c2)) [aI w.heap.size (gV) TH3 #[aA,aB,.slice (some ⟨g,0,none⟩) xs.length c2],aJ w.heap.size TI 1 (some ⟨g,0,none⟩) (xs.length) (c2) (ivs xs),aI w.heap.size (w.heap.size+1) TH3 #[aA,aB,.slice (some ⟨g,0,none⟩) xs.length c2],aI w.heap.size (w.heap.size) TH3 #[aA,aB,.slice (some ⟨b,off,none⟩) xs.length cap]]from M5)
 generalize m:World.setCell _ _ _=wz
 rw[m]at M6
 clear m M3 M4 M5 v0 v1 v2 z0 u z1 o z2 z a c
 obtain⟨y0,y1,y2⟩:=(M6.bk 2).tri
 exact bodyPost_ret (v:= .tuple #[.agg #[aA,aB,.slice (some ⟨g,0,none⟩) xs.length c2],.bool false]) (by simp[results,Tryz.results146,go_sem, *]) rfl (eB (by simp) (by exact(M6.ow 1)) M6.ext)
theorem aB1 (aA aB id:Int)(b off cap:Nat)(x:Int)(xs:List Int)(w:World)(hn0:4≤xs.length)(hn:xs.length≤12)(HX0:Hid (xs[0]? =some x)) (hb:b<w.heap.size) (HCX:Hid (w.cell? ⟨b,off,none⟩=some (.int .i64 x))) (hid:1≤id) (hx0:(x !=0)=true)
  (HH:Hid (∀w',Calls Tryz.prog 152 #[aH aA aB (some ⟨b,off,none⟩) xs.length cap,()] w' fun e w''=>e= .returned (.bool true)∧Ext w' w''))
  (HV:xB 80 #[aH aA aB (some ⟨b,off,none⟩) xs.length cap] w true)
  (HK:Hid (∀w',Ext w w'→Calls Tryz.prog 105 #[aH aA aB (some ⟨b,off,none⟩) xs.length cap] w' (cZ aA aB xs w'))):
  Calls Tryz.prog 146 #[aH aA aB (some ⟨b,off,none⟩) xs.length cap,(),id] w (cQ aA aB xs false w):=by
 have af:decide (id<1)=false:=by simp;omega
 go_enter Tryz.func146,Tryz.ntmps146
 go_wp2_with fail
 refine(HV _ (((Mem.start w).bn TH3 #[aA,aB,.slice (some ⟨b,off,none⟩) xs.length cap] (w.heap.size)).bn TH3 #[(),(),((),())] (w.heap.size+1)).ext).mono ?_
 rintro e w1 ⟨rfl,s⟩
 have M1:=((((Mem.start w).bn TH3 #[aA,aB,.slice (some ⟨b,off,none⟩) xs.length cap] (w.heap.size)).bn TH3 #[(),(),((),())] (w.heap.size+1)).adv s)
 have d:=M1.hi 0
 have l:=M1.hi 1
 clear s
 obtain⟨h0,h1,h2⟩:=(M1.bk 1).tri
 go_wp2_with fail
 clear h0 h1 h2
 refine(HK _ M1.ext).mono ?_
 rintro e w2 ⟨q,c2,rfl,o,n⟩
 have M2:=(M1.call n o)
 clear M1 d l n o
 have h:=M2.hi 1
 have m:=M2.hi 2
 obtain⟨g,rfl,aa,ad⟩:=M2.so 0
 clear aa ad
 go_upto_region 4 with fail
 obtain⟨gV,f⟩: ∃gV,gV=w2.heap.size:=⟨_,rfl⟩
 rw[←f]
 have M3:=(M2.blkNew TH3 #[aA,aB,.slice (some ⟨g,0,none⟩) xs.length c2] gV f.symm)
 generalize World.alloc _ _=w4 at M3⊢
 clear M2 h m f
 have k:=M3.hi 0
 have j:=M3.hi 2
 have i:=M3.hi 3
 obtain⟨h0,h1,h2⟩:=(M3.bk 3).tri
 go_wp2_with fail
 clear h0 h1 h2
 refine(HH _).mono ?_
 rintro e w4 ⟨rfl,r⟩
 have M4:=(M3.adv r)
 clear M3 k j i r
 have u:=M4.hi 0
 have y:=M4.hi 2
 have z:=M4.hi 3
 have cx:w4.cell? ⟨b,off,none⟩=some (.int .i64 x):=(M4.ext.cells.1 _ _ hb).trans HCX.out
 obtain⟨h0,h1,h2⟩:=(M4.bk 3).tri
 obtain⟨v0,v1,v2⟩:=(M4.bk 0).tri
 obtain⟨z0,ab,z1,t,z2,ae⟩:=(M4.bk 2).trif
 obtain⟨a,c⟩:=M4.nq 0 2
 go_wp2
 have M5:=((M4.st 2 0 (.int .i64 aA)).st 2 1 (.int .i64 aB))
 have M6:=(M5.st 2 2 (.slice (some ⟨g,0,none⟩) xs.length c2))
 have M7:=(show Mem w (((w4.setCell ⟨w.heap.size+1,0,none⟩ (.int .i64 aA)).setCell ⟨w.heap.size+1,1,none⟩ (.int .i64 aB)).setCell ⟨w.heap.size+1,2,none⟩ (.slice (some ⟨g,0,none⟩) xs.length c2)) [aI w.heap.size (gV) TH3 #[aA,aB,.slice (some ⟨g,0,none⟩) xs.length c2],aJ w.heap.size TI 1 (some ⟨g,0,none⟩) (xs.length) (c2) (ivs xs),aI w.heap.size (w.heap.size+1) TH3 #[aA,aB,.slice (some ⟨g,0,none⟩) xs.length c2],aI w.heap.size (w.heap.size) TH3 #[aA,aB,.slice (some ⟨b,off,none⟩) xs.length cap]]from M6)
 generalize p:World.setCell _ _ _=wz
 rw[p]at M7
 clear p M4 M5 M6 v0 v1 v2 z0 ab z1 t z2 ae a c
 obtain⟨y0,y1,y2⟩:=(M7.bk 2).tri
 exact bodyPost_ret (v:= .tuple #[.agg #[aA,aB,.slice (some ⟨g,0,none⟩) xs.length c2],.bool false]) (by simp[results,Tryz.results146,go_sem, *]) rfl (eB (by simp) (by exact(M7.ow 1)) M7.ext)
theorem aDl (aA aB id:Int)(b off cap:Nat)(x:Int)(xs:List Int)(w:World)(hn0:4≤xs.length)(hn:xs.length≤12)(HX0:Hid (xs[0]? =some x)) (hb:b<w.heap.size) (HCX:Hid (w.cell? ⟨b,off,none⟩=some (.int .i64 x))) (hid:1≤id) (hx0:(x !=0)=false)
  (HH:Hid (∀w',Calls Tryz.prog 152 #[aH aA aB (some ⟨b,off,none⟩) xs.length cap,()] w' fun e w''=>e= .returned (.bool true)∧Ext w' w''))
  (HV2:Hid (∀w' q c,Sl w' q xs.length c 1 (ivs (xs.set 0 id))→Calls Tryz.prog 80 #[aH aA aB q xs.length c] w' fun e w''=>e= .returned (.bool true)∧Ext w' w''))
  (HV:xB 80 #[aH aA aB (some ⟨b,off,none⟩) xs.length cap] w true)
  (HK:Hid (∀w',Ext w w'→Calls Tryz.prog 105 #[aH aA aB (some ⟨b,off,none⟩) xs.length cap] w' (cZ aA aB xs w'))):
  Calls Tryz.prog 146 #[aH aA aB (some ⟨b,off,none⟩) xs.length cap,(),id] w (cQ aA aB (xs.set 0 id) true w):=by
 have az:decide (id<1)=false:=by simp;omega
 go_enter Tryz.func146,Tryz.ntmps146
 go_wp2_with fail
 refine(HV _ (((Mem.start w).bn TH3 #[aA,aB,.slice (some ⟨b,off,none⟩) xs.length cap] (w.heap.size)).bn TH3 #[(),(),((),())] (w.heap.size+1)).ext).mono ?_
 rintro e w1 ⟨rfl,am⟩
 have M1:=((((Mem.start w).bn TH3 #[aA,aB,.slice (some ⟨b,off,none⟩) xs.length cap] (w.heap.size)).bn TH3 #[(),(),((),())] (w.heap.size+1)).adv am)
 have m:=M1.hi 0
 have aa:=M1.hi 1
 clear am
 obtain⟨h0,h1,h2⟩:=(M1.bk 1).tri
 go_wp2_with fail
 clear h0 h1 h2
 refine(HK _ M1.ext).mono ?_
 rintro e w2 ⟨q,c2,rfl,ai,ag⟩
 have M2:=(M1.call ag ai)
 clear M1 m aa ag ai
 have o:=M2.hi 1
 have ae:=M2.hi 2
 obtain⟨g,rfl,av,ax⟩:=M2.so 0
 clear av ax
 go_upto_region 4 with fail
 obtain⟨gV,n⟩: ∃gV,gV=w2.heap.size:=⟨_,rfl⟩
 rw[←n]
 have M3:=(M2.blkNew TH3 #[aA,aB,.slice (some ⟨g,0,none⟩) xs.length c2] gV n.symm)
 generalize World.alloc _ _=w4 at M3⊢
 clear M2 o ae n
 have z:=M3.hi 0
 have u:=M3.hi 2
 have t:=M3.hi 3
 obtain⟨h0,h1,h2⟩:=(M3.bk 3).tri
 go_wp2_with fail
 clear h0 h1 h2
 refine(HH _).mono ?_
 rintro e w4 ⟨rfl,al⟩
 have M4:=(M3.adv al)
 clear M3 z u t al
 have s:=M4.hi 0
 have y:=M4.hi 2
 have ab:=M4.hi 3
 have cx:w4.cell? ⟨b,off,none⟩=some (.int .i64 x):=(M4.ext.cells.1 _ _ hb).trans HCX.out
 obtain⟨h0,h1,h2⟩:=(M4.bk 3).tri
 obtain⟨v0,v1,v2⟩:=(M4.bk 0).tri
 have gi:w4.cell? ⟨g,0,none⟩=some (.int .i64 x):=by have:=(M4.ow 1).cellAt 0 (by omega);rw[this];simpa[ivs]using HX0.out
 have aq:w4.frozen? ⟨g,0,none⟩=false:=(M4.ow 1).frozenAt 0
 obtain⟨d,h⟩:=M4.nq 0 1
 go_upto_region 7 with fail
 clear h0 h1 h2 v0 v1 v2 d h cx gi aq
 have MX:=(show Mem w (w4.setCell ⟨g,0,none⟩ (.int .i64 id)) [aI w.heap.size (gV) TH3 #[aA,aB,.slice (some ⟨g,0,none⟩) xs.length c2],aJ w.heap.size TI 1 (some ⟨g,0,none⟩) (xs.length) (c2) (ivs (xs.set 0 id)),aI w.heap.size (w.heap.size+1) TH3 #[(),(),((),())],aI w.heap.size (w.heap.size) TH3 #[aA,aB,.slice (some ⟨b,off,none⟩) xs.length cap]]from by rw[←dV];exact M4.ostore (i:=1) rfl 0 (.int .i64 id))
 generalize aj:World.setCell _ _ _=w5
 rw[aj]at MX
 clear aj M4 s y ab
 have ad:gV<w5.heap.size:=(MX.hi 0)
 have r:w.heap.size+1<w5.heap.size:=(MX.hi 2)
 have p:w.heap.size<w5.heap.size:=(MX.hi 3)
 obtain⟨v0,v1,v2⟩:=(MX.bk 0).tri
 go_wp2_with fail
 clear v0 v1 v2
 refine(HV2 _ _ _ (by exact(MX.sq 1))).mono ?_
 rintro e au ⟨rfl,l⟩
 have a:=(MX.adv l)
 clear MX ad r p l
 have ap:=a.hi 0
 have an:=a.hi 2
 have ao:=a.hi 3
 obtain⟨v0,v1,v2⟩:=(a.bk 0).tri
 obtain⟨z0,aw,z1,ar,z2,ay⟩:=(a.bk 2).trif
 obtain⟨j,k⟩:=a.nq 0 2
 go_wp2
 have ah:=((a.st 2 0 (.int .i64 aA)).st 2 1 (.int .i64 aB))
 have af:=(ah.st 2 2 (.slice (some ⟨g,0,none⟩) xs.length c2))
 have f:=(show Mem w (((au.setCell ⟨w.heap.size+1,0,none⟩ (.int .i64 aA)).setCell ⟨w.heap.size+1,1,none⟩ (.int .i64 aB)).setCell ⟨w.heap.size+1,2,none⟩ (.slice (some ⟨g,0,none⟩) xs.length c2)) [aI w.heap.size (gV) TH3 #[aA,aB,.slice (some ⟨g,0,none⟩) xs.length c2],aJ w.heap.size TI 1 (some ⟨g,0,none⟩) (xs.length) (c2) (ivs (xs.set 0 id)),aI w.heap.size (w.heap.size+1) TH3 #[aA,aB,.slice (some ⟨g,0,none⟩) xs.length c2],aI w.heap.size (w.heap.size) TH3 #[aA,aB,.slice (some ⟨b,off,none⟩) xs.length cap]]from af)
 generalize ak:World.setCell _ _ _=wz
 rw[ak]at f
 clear ak a ah af v0 v1 v2 z0 aw z1 ar z2 ay j k
 obtain⟨y0,y1,y2⟩:=(f.bk 2).tri
 exact bodyPost_ret (v:= .tuple #[.agg #[aA,aB,.slice (some ⟨g,0,none⟩) xs.length c2],.bool true]) (by simp[results,Tryz.results146,go_sem, *]) rfl (eB (by simp) (by exact(f.ow 1)) f.ext)
theorem aDm (aA aB id:Int)(b off cap:Nat)(x:Int)(xs:List Int)(w:World)(hn0:4≤xs.length)(hn:xs.length≤12)(HX0:Hid (xs[0]? =some x)) (hb:b<w.heap.size) (HCX:Hid (w.cell? ⟨b,off,none⟩=some (.int .i64 x))) (hid:1≤id) (hx0:(x !=0)=false)
  (HH:Hid (∀w',Calls Tryz.prog 152 #[aH aA aB (some ⟨b,off,none⟩) xs.length cap,()] w' fun e w''=>e= .returned (.bool true)∧Ext w' w''))
  (HV2:Hid (∀w' q c,Sl w' q xs.length c 1 (ivs (xs.set 0 id))→Calls Tryz.prog 80 #[aH aA aB q xs.length c] w' fun e w''=>e= .returned (.bool false)∧Ext w' w''))
  (HV:xB 80 #[aH aA aB (some ⟨b,off,none⟩) xs.length cap] w true)
  (HK:Hid (∀w',Ext w w'→Calls Tryz.prog 105 #[aH aA aB (some ⟨b,off,none⟩) xs.length cap] w' (cZ aA aB xs w'))):
  Calls Tryz.prog 146 #[aH aA aB (some ⟨b,off,none⟩) xs.length cap,(),id] w (cQ aA aB xs false w):=by
 have a3:decide (id<1)=false:=by simp;omega
 go_enter Tryz.func146,Tryz.ntmps146
 go_wp2_with fail
 refine(HV _ (((Mem.start w).bn TH3 #[aA,aB,.slice (some ⟨b,off,none⟩) xs.length cap] (w.heap.size)).bn TH3 #[(),(),((),())] (w.heap.size+1)).ext).mono ?_
 rintro e w1 ⟨rfl,ap⟩
 have M1:=((((Mem.start w).bn TH3 #[aA,aB,.slice (some ⟨b,off,none⟩) xs.length cap] (w.heap.size)).bn TH3 #[(),(),((),())] (w.heap.size+1)).adv ap)
 have r:=M1.hi 0
 have aa:=M1.hi 1
 clear ap
 obtain⟨h0,h1,h2⟩:=(M1.bk 1).tri
 go_wp2_with fail
 clear h0 h1 h2
 refine(HK _ M1.ext).mono ?_
 rintro e w2 ⟨q,c2,rfl,am,ak⟩
 have M2:=(M1.call ak am)
 clear M1 r aa ak am
 have ad:=M2.hi 1
 have z:=M2.hi 2
 obtain⟨g,rfl,a0,a2⟩:=M2.so 0
 clear a0 a2
 go_upto_region 4 with fail
 obtain⟨gV,s⟩: ∃gV,gV=w2.heap.size:=⟨_,rfl⟩
 rw[←s]
 have M3:=(M2.blkNew TH3 #[aA,aB,.slice (some ⟨g,0,none⟩) xs.length c2] gV s.symm)
 generalize World.alloc _ _=w4 at M3⊢
 clear M2 ad z s
 have y:=M3.hi 0
 have ag:=M3.hi 2
 have u:=M3.hi 3
 obtain⟨h0,h1,h2⟩:=(M3.bk 3).tri
 go_wp2_with fail
 clear h0 h1 h2
 refine(HH _).mono ?_
 rintro e w4 ⟨rfl,ao⟩
 have M4:=(M3.adv ao)
 clear M3 y ag u ao
 have af:=M4.hi 0
 have ah:=M4.hi 2
 have ai:=M4.hi 3
 have cx:w4.cell? ⟨b,off,none⟩=some (.int .i64 x):=(M4.ext.cells.1 _ _ hb).trans HCX.out
 obtain⟨h0,h1,h2⟩:=(M4.bk 3).tri
 obtain⟨v0,v1,v2⟩:=(M4.bk 0).tri
 have gi:w4.cell? ⟨g,0,none⟩=some (.int .i64 x):=by have:=(M4.ow 1).cellAt 0 (by omega);rw[this];simpa[ivs]using HX0.out
 have ay:w4.frozen? ⟨g,0,none⟩=false:=(M4.ow 1).frozenAt 0
 obtain⟨f,j⟩:=M4.nq 0 1
 go_upto_region 7 with fail
 clear h0 h1 h2 v0 v1 v2 f j cx gi ay
 have MX:=(show Mem w (w4.setCell ⟨g,0,none⟩ (.int .i64 id)) [aI w.heap.size (gV) TH3 #[aA,aB,.slice (some ⟨g,0,none⟩) xs.length c2],aJ w.heap.size TI 1 (some ⟨g,0,none⟩) (xs.length) (c2) (ivs (xs.set 0 id)),aI w.heap.size (w.heap.size+1) TH3 #[(),(),((),())],aI w.heap.size (w.heap.size) TH3 #[aA,aB,.slice (some ⟨b,off,none⟩) xs.length cap]]from by rw[←dV];exact M4.ostore (i:=1) rfl 0 (.int .i64 id))
 generalize an:World.setCell _ _ _=w5
 rw[an]at MX
 clear an M4 af ah ai
 have ab:gV<w5.heap.size:=(MX.hi 0)
 have t:w.heap.size+1<w5.heap.size:=(MX.hi 2)
 have ae:w.heap.size<w5.heap.size:=(MX.hi 3)
 obtain⟨v0,v1,v2⟩:=(MX.bk 0).tri
 go_wp2_with fail
 clear v0 v1 v2
 refine(HV2 _ _ _ (by exact(MX.sq 1))).mono ?_
 rintro e a4 ⟨rfl,n⟩
 have a:=(MX.adv n)
 clear MX ab t ae n
 have l:=a.hi 0
 have h:=a.hi 2
 have m:=a.hi 3
 obtain⟨h0,h1,h2⟩:=(a.bk 3).tri
 go_wp2_with fail
 clear h0 h1 h2
 refine(HK _ a.ext).mono ?_
 rintro e aw ⟨q0,c0,rfl,p,o⟩
 have d:=(a.call o p)
 clear a l h m o p
 have au:=d.hi 1
 have av:=d.hi 3
 have ar:=d.hi 4
 obtain⟨z0,a1,z1,az,z2,ax⟩:=(d.bk 3).trif
 go_wp2
 have aq:=((d.st 3 0 (.int .i64 aA)).st 3 1 (.int .i64 aB))
 have aj:=(aq.st 3 2 (.slice q0 xs.length c0))
 have k:=(show Mem w (((aw.setCell ⟨w.heap.size+1,0,none⟩ (.int .i64 aA)).setCell ⟨w.heap.size+1,1,none⟩ (.int .i64 aB)).setCell ⟨w.heap.size+1,2,none⟩ (.slice q0 xs.length c0)) [aJ w.heap.size TI 1 (q0) (xs.length) (c0) (ivs xs),aI w.heap.size (gV) TH3 #[aA,aB,.slice (some ⟨g,0,none⟩) xs.length c2],aJ w.heap.size TI 1 (some ⟨g,0,none⟩) (xs.length) (c2) (ivs (xs.set 0 id)),aI w.heap.size (w.heap.size+1) TH3 #[aA,aB,.slice q0 xs.length c0],aI w.heap.size (w.heap.size) TH3 #[aA,aB,.slice (some ⟨b,off,none⟩) xs.length cap]]from aj)
 generalize al:World.setCell _ _ _=wz
 rw[al]at k
 clear al d aq aj z0 a1 z1 az z2 ax
 obtain⟨y0,y1,y2⟩:=(k.bk 3).tri
 exact bodyPost_ret (v:= .tuple #[.agg #[aA,aB,.slice q0 xs.length c0],.bool false]) (by simp[results,Tryz.results146,go_sem, *]) rfl (eB (by simp) (by exact(k.ow 0)) k.ext)
theorem aLs (aA aB id:Int)(p:OA)(n cap:Nat)(xs:List Int)(w:World)(hS:Sl w p n cap 1 (ivs xs))(hok:aN aA aB xs=true):
  Calls Tryz.prog 146 #[aH aA aB p n cap,(),id] w (cQ aA aB (cV aA aB xs id).1 (cV aA aB xs id).2 w):=by
 have hl:=hS.ilen
 subst hl
 obtain⟨g1,g2,g3,g4,g5,g6,g7,g8,g9⟩:=bM hok
 have HV: ∀w',Ext w w'→Calls Tryz.prog 80 #[aH aA aB p xs.length cap] w' fun e w''=>e= .returned (.bool true)∧Ext w' w'':=fun w' hx=>by
  have:=fI aA aB p xs.length cap xs w' (hS.ext hx);rwa[hok]at this
 have HK:=fun(w':World) (hx:Ext w w')=>kR aA aB p xs.length cap xs w' (by omega) (hS.ext hx)
 have HH: ∀w',Calls Tryz.prog 152 #[aH aA aB p xs.length cap,()] w' fun e w''=>e= .returned (.bool true)∧Ext w' w'':=fun w'=>by
  have:=iL aA aB 0 p xs.length cap w' (by omega)
  rwa[decide_eq_true (⟨by omega,by omega⟩:0≤(0:Int)∧(0:Int)<xs.length)]at this
 obtain⟨b,a,rfl,hb,h⟩:=hS.rd (by omega)
 have f:xs[0]? =some (xs.getD 0 0):=by rw[List.getD_eq_getElem?_getD,List.getElem?_eq_getElem (by omega)];rfl
 have g:w.cell? ⟨b,a,none⟩=some (.int .i64 (xs.getD 0 0)):=by have:=h 0 (by omega);rw[Nat.add_zero]at this;rw[this];simp only[ivs,List.getElem?_map,f,Option.map_some]
 by_cases h1:id<1
 ·rw[show cV aA aB xs id=(xs,false) by unfold cV;rw[if_neg (by omega)]]
  exact aGc aA aB id b a cap _ xs w g5 g6 f hb g h1 HV HK
 by_cases h2:xs.getD 0 0=0
 ·have d:(xs.getD 0 0 !=0)=false:=by rw[h2];rfl
  cases hv:aN aA aB (xs.set 0 id)with
  |true=>
   rw[show cV aA aB xs id=(xs.set 0 id,true) by unfold cV;rw[if_pos ⟨h2,by omega,hv⟩]]
   refine aDl aA aB id b a cap _ xs w g5 g6 f hb g (by omega) d HH (fun w' q c hL=> ?_) HV HK
   have:=fI aA aB q xs.length c _ w' hL;rwa[hv]at this
  |false=>
   rw[show cV aA aB xs id=(xs,false) by unfold cV;rw[if_neg (by rw[hv];simp)]]
   refine aDm aA aB id b a cap _ xs w g5 g6 f hb g (by omega) d HH (fun w' q c hL=> ?_) HV HK
   have:=fI aA aB q xs.length c _ w' hL;rwa[hv]at this
 ·rw[show cV aA aB xs id=(xs,false) by unfold cV;rw[if_neg (by omega)]]
  exact aB1 aA aB id b a cap _ xs w g5 g6 f hb g (by omega) (by simpa using h2) HH HV HK
theorem yL (aA aB id:Int)(p:OA)(n cap:Nat)(xs:List Int)(w:World)(hlen:Hid (xs.length=n))
  (HV:xB 80 #[aH aA aB p n cap] w true)
  (HC:xC 145 #[aH aA aB p n cap] w fun w' e w''=> ∃v,e= .returned (.tuple #[v,.bool false])∧Ext w' w'')
  (HL:xC 105 #[aH aA aB p n cap] w fun w' e w''=> ∃q c,e= .returned (aH aA aB q n c)∧w''.ownsRow w'.heap.size TI 1 (.slice q n c) n (ivs xs)∧Ext w' w''):
  Calls Tryz.prog 112 #[aH aA aB p n cap,id] w (cO aA aB xs (-1) w):=by
 go_enter Tryz.func112,Tryz.ntmps112
 go_wp2_with fail
 refine(HV _ (((Mem.start w).bn TH3 #[aA,aB,.slice p n cap] (w.heap.size)).bn TH3 #[(),(),((),())] (w.heap.size+1)).ext).mono ?_
 rintro e w1 ⟨rfl,j⟩
 have M1:=((((Mem.start w).bn TH3 #[aA,aB,.slice p n cap] (w.heap.size)).bn TH3 #[(),(),((),())] (w.heap.size+1)).adv j)
 have a:=M1.hi 0
 have f:=M1.hi 1
 clear j
 obtain⟨h0,h1,h2⟩:=(M1.bk 1).tri
 go_wp2_with fail
 clear h0 h1 h2
 refine(HC _ M1.ext).mono ?_
 rintro e w2 ⟨v,rfl,g⟩
 have M2:=(M1.adv g)
 clear M1 a f g
 have b:=M2.hi 0
 have d:=M2.hi 1
 obtain⟨h0,h1,h2⟩:=(M2.bk 1).tri
 go_wp2_with fail
 clear h0 h1 h2
 refine(HL _ M2.ext).mono ?_
 rintro e w3 ⟨q0,c0,rfl,k,h⟩
 have M3:=(M2.call h k)
 clear M2 b d h k
 have o:=M3.hi 1
 have m:=M3.hi 2
 obtain⟨z0,r,z1,l,z2,s⟩:=(M3.bk 1).trif
 go_wp2
 have M4:=((M3.st 1 0 (.int .i64 aA)).st 1 1 (.int .i64 aB))
 have M5:=(M4.st 1 2 (.slice q0 n c0))
 clear z0 r z1 l z2 s
 have M6:=(show Mem w (((w3.setCell ⟨w.heap.size+1,0,none⟩ (.int .i64 aA)).setCell ⟨w.heap.size+1,1,none⟩ (.int .i64 aB)).setCell ⟨w.heap.size+1,2,none⟩ (.slice q0 n c0)) [aJ w.heap.size TI 1 (q0) (n) (c0) (ivs xs),aI w.heap.size (w.heap.size+1) TH3 #[aA,aB,.slice q0 n c0],aI w.heap.size (w.heap.size) TH3 #[aA,aB,.slice p n cap]]from M5)
 generalize i:World.setCell _ _ _=wz
 rw[i]at M6
 clear i M3 M4 M5
 obtain⟨y0,y1,y2⟩:=(M6.bk 1).tri
 exact bodyPost_ret (v:= .tuple #[.agg #[aA,aB,.slice q0 n c0],(-1:Int)]) (by simp[results,Tryz.results112,go_sem, *]) rfl (eH hlen.out (M6.ow 0) M6.ext)
theorem aDf (aA aB id:Int)(p:OA)(n cap K:Nat)(xs ys zs:List Int)(sl:List Sl2)(w:World)(hlen:Hid (xs.length=n))
  (HV:xB 80 #[aH aA aB p n cap] w true)
  (HC:xC 145 #[aH aA aB p n cap] w fun w' e w''=> ∃q c,e= .returned (.tuple #[.slice q K c,.bool true])∧w''.ownsRow w'.heap.size TSL 2 (.slice q K c) K (sl.flatMap aK)∧Ext w' w'')
  (HR:Hid (∀w' q c,Ext w w'→Sl w' q K c 2 (sl.flatMap aK)→Calls Tryz.prog 147 #[aH aA aB p n cap,.slice q K c] w' fun e w''=> ∃q c,e= .returned (aH aA aB q n c)∧w''.ownsRow w'.heap.size TI 1 (.slice q n c) n (ivs ys)∧Ext w' w''))
  (HP:Hid (∀w' q c,Ext w w'→Sl w' q n c 1 (ivs ys)→Calls Tryz.prog 146 #[aH aA aB q n c,(),id] w' fun e w''=> ∃q c,e= .returned (.tuple #[aH aA aB q n c,.bool false])∧w''.ownsRow w'.heap.size TI 1 (.slice q n c) n (ivs zs)∧Ext w' w''))
  (HL:xC 105 #[aH aA aB p n cap] w fun w' e w''=> ∃q c,e= .returned (aH aA aB q n c)∧w''.ownsRow w'.heap.size TI 1 (.slice q n c) n (ivs xs)∧Ext w' w''):
  Calls Tryz.prog 112 #[aH aA aB p n cap,id] w (cO aA aB xs (-1) w):=by
 go_enter Tryz.func112,Tryz.ntmps112
 go_wp2_with fail
 refine(HV _ (((Mem.start w).bn TH3 #[aA,aB,.slice p n cap] (w.heap.size)).bn TH3 #[(),(),((),())] (w.heap.size+1)).ext).mono ?_
 rintro e w1 ⟨rfl,aa⟩
 have M1:=((((Mem.start w).bn TH3 #[aA,aB,.slice p n cap] (w.heap.size)).bn TH3 #[(),(),((),())] (w.heap.size+1)).adv aa)
 have a:=M1.hi 0
 have l:=M1.hi 1
 clear aa
 obtain⟨h0,h1,h2⟩:=(M1.bk 1).tri
 go_wp2_with fail
 clear h0 h1 h2
 refine(HC _ M1.ext).mono ?_
 rintro e w2 ⟨qs,cs,rfl,t,r⟩
 have M2:=(M1.call r t)
 clear M1 a l r t
 have g:=M2.hi 1
 have o:=M2.hi 2
 obtain⟨h0,h1,h2⟩:=(M2.bk 2).tri
 go_wp2_with fail
 clear h0 h1 h2
 refine(HR _ qs cs M2.ext (M2.sq 0)).mono ?_
 rintro e w3 ⟨q1,c1,rfl,ad,x⟩
 have M3:=(M2.call x ad)
 clear M2 g o x ad
 have j:=M3.hi 2
 have i:=M3.hi 3
 go_wp2_with fail
 refine(HP _ q1 c1 M3.ext (M3.sq 0)).mono ?_
 rintro e w4 ⟨q2,c2,rfl,s,z⟩
 have M4:=(M3.call z s)
 clear M3 j i z s
 have m:=M4.hi 3
 have f:=M4.hi 4
 go_upto_region 7 with fail
 obtain⟨gV,b⟩: ∃gV,gV=w4.heap.size:=⟨_,rfl⟩
 rw[←b]
 have M5:=(M4.blkNew TH3 #[aA,aB,.slice q2 n c2] gV b.symm)
 generalize World.alloc _ _=w7 at M5⊢
 clear M4 m f b
 have k:=M5.hi 0
 have d:=M5.hi 4
 have h:=M5.hi 5
 obtain⟨h0,h1,h2⟩:=(M5.bk 5).tri
 go_wp2_with fail
 clear h0 h1 h2
 refine(HL _ M5.ext).mono ?_
 rintro e w6 ⟨q0,c0,rfl,ab,u⟩
 have M6:=(M5.call u ab)
 clear M5 k d h u ab
 have ag:=M6.hi 1
 have ae:=M6.hi 5
 have ai:=M6.hi 6
 obtain⟨z0,aj,z1,af,z2,ah⟩:=(M6.bk 5).trif
 go_wp2
 have M7:=((M6.st 5 0 (.int .i64 aA)).st 5 1 (.int .i64 aB))
 have M8:=(M7.st 5 2 (.slice q0 n c0))
 clear z0 aj z1 af z2 ah
 have M9:=(show Mem w (((w6.setCell ⟨w.heap.size+1,0,none⟩ (.int .i64 aA)).setCell ⟨w.heap.size+1,1,none⟩ (.int .i64 aB)).setCell ⟨w.heap.size+1,2,none⟩ (.slice q0 n c0)) [aJ w.heap.size TI 1 (q0) (n) (c0) (ivs xs),aI w.heap.size (gV) TH3 #[aA,aB,.slice q2 n c2],aJ w.heap.size TI 1 (q2) (n) (c2) (ivs zs),aJ w.heap.size TI 1 (q1) (n) (c1) (ivs ys),aJ w.heap.size TSL 2 (qs) (K) (cs) (sl.flatMap aK),aI w.heap.size (w.heap.size+1) TH3 #[aA,aB,.slice q0 n c0],aI w.heap.size (w.heap.size) TH3 #[aA,aB,.slice p n cap]]from M8)
 generalize y:World.setCell _ _ _=wz
 rw[y]at M9
 clear y M6 M7 M8
 obtain⟨y0,y1,y2⟩:=(M9.bk 5).tri
 exact bodyPost_ret (v:= .tuple #[.agg #[aA,aB,.slice q0 n c0],(-1:Int)]) (by simp[results,Tryz.results112,go_sem, *]) rfl (eH hlen.out (M9.ow 0) M9.ext)
theorem aAu (aA aB id:Int)(p:OA)(n cap K:Nat)(ys zs:List Int)(sl:List Sl2)(w:World)(hlen:Hid (zs.length=n))
  (HV:xB 80 #[aH aA aB p n cap] w true)
  (HC:xC 145 #[aH aA aB p n cap] w fun w' e w''=> ∃q c,e= .returned (.tuple #[.slice q K c,.bool true])∧w''.ownsRow w'.heap.size TSL 2 (.slice q K c) K (sl.flatMap aK)∧Ext w' w'')
  (HR:Hid (∀w' q c,Ext w w'→Sl w' q K c 2 (sl.flatMap aK)→Calls Tryz.prog 147 #[aH aA aB p n cap,.slice q K c] w' fun e w''=> ∃q c,e= .returned (aH aA aB q n c)∧w''.ownsRow w'.heap.size TI 1 (.slice q n c) n (ivs ys)∧Ext w' w''))
  (HP:Hid (∀w' q c,Ext w w'→Sl w' q n c 1 (ivs ys)→Calls Tryz.prog 146 #[aH aA aB q n c,(),id] w' fun e w''=> ∃q c,e= .returned (.tuple #[aH aA aB q n c,.bool true])∧w''.ownsRow w'.heap.size TI 1 (.slice q n c) n (ivs zs)∧Ext w' w'')):
  Calls Tryz.prog 112 #[aH aA aB p n cap,id] w (cO aA aB zs (K:Int) w):=by
 go_enter Tryz.func112,Tryz.ntmps112
 go_wp2_with fail
 refine(HV _ (((Mem.start w).bn TH3 #[aA,aB,.slice p n cap] (w.heap.size)).bn TH3 #[(),(),((),())] (w.heap.size+1)).ext).mono ?_
 rintro e w1 ⟨rfl,y⟩
 have M1:=((((Mem.start w).bn TH3 #[aA,aB,.slice p n cap] (w.heap.size)).bn TH3 #[(),(),((),())] (w.heap.size+1)).adv y)
 have d:=M1.hi 0
 have k:=M1.hi 1
 clear y
 obtain⟨h0,h1,h2⟩:=(M1.bk 1).tri
 go_wp2_with fail
 clear h0 h1 h2
 refine(HC _ M1.ext).mono ?_
 rintro e w2 ⟨qs,cs,rfl,s,o⟩
 have M2:=(M1.call o s)
 clear M1 d k o s
 have h:=M2.hi 1
 have m:=M2.hi 2
 obtain⟨h0,h1,h2⟩:=(M2.bk 2).tri
 go_wp2_with fail
 clear h0 h1 h2
 refine(HR _ qs cs M2.ext (M2.sq 0)).mono ?_
 rintro e w3 ⟨q1,c1,rfl,z,t⟩
 have M3:=(M2.call t z)
 clear M2 h m t z
 have j:=M3.hi 2
 have i:=M3.hi 3
 go_wp2_with fail
 refine(HP _ q1 c1 M3.ext (M3.sq 0)).mono ?_
 rintro e w4 ⟨q2,c2,rfl,r,x⟩
 have M4:=(M3.call x r)
 clear M3 j i x r
 have l:=M4.hi 3
 have g:=M4.hi 4
 go_upto_region 7 with fail
 obtain⟨gV,f⟩: ∃gV,gV=w4.heap.size:=⟨_,rfl⟩
 rw[←f]
 have M5:=(M4.blkNew TH3 #[aA,aB,.slice q2 n c2] gV f.symm)
 generalize World.alloc _ _=w7 at M5⊢
 clear M4 l g f
 have ae:=M5.hi 0
 have aa:=M5.hi 4
 have ab:=M5.hi 5
 obtain⟨v0,v1,v2⟩:=(M5.bk 0).tri
 obtain⟨z0,ag,z1,ad,z2,af⟩:=(M5.bk 4).trif
 obtain⟨a,b⟩:=M5.nq 0 4
 go_wp2
 have M6:=((M5.st 4 0 (.int .i64 aA)).st 4 1 (.int .i64 aB))
 have M7:=(M6.st 4 2 (.slice q2 n c2))
 clear v0 v1 v2 z0 ag z1 ad z2 af a b
 have M8:=(show Mem w (((w7.setCell ⟨w.heap.size+1,0,none⟩ (.int .i64 aA)).setCell ⟨w.heap.size+1,1,none⟩ (.int .i64 aB)).setCell ⟨w.heap.size+1,2,none⟩ (.slice q2 n c2)) [aI w.heap.size (gV) TH3 #[aA,aB,.slice q2 n c2],aJ w.heap.size TI 1 (q2) (n) (c2) (ivs zs),aJ w.heap.size TI 1 (q1) (n) (c1) (ivs ys),aJ w.heap.size TSL 2 (qs) (K) (cs) (sl.flatMap aK),aI w.heap.size (w.heap.size+1) TH3 #[aA,aB,.slice q2 n c2],aI w.heap.size (w.heap.size) TH3 #[aA,aB,.slice p n cap]]from M7)
 generalize u:World.setCell _ _ _=wz
 rw[u]at M8
 clear u M5 M6 M7
 obtain⟨y0,y1,y2⟩:=(M8.bk 4).tri
 exact bodyPost_ret (v:= .tuple #[.agg #[aA,aB,.slice q2 n c2],(K:Int)]) (by simp[results,Tryz.results112,go_sem, *]) rfl (eH hlen.out (M8.ow 1) M8.ext)
theorem pO {aA aB:Int}: ∀(l:List Sl2) (xs ys:List Int),aZ aA aB xs l=(ys,l.length)→eE aA aB xs l=ys
 | [],xs,ys,h=>by
   simp only[aZ,Prod.mk.injEq]at h
   exact h.1
 |s::l,xs,ys,h=>by
  show eE aA aB (bG aA aB xs s.1 s.2) l=ys
  cases hm:bA aA aB xs s.1 s.2 with
  |false=>rw[jN hm]at h;simp at h
  |true=>
   rw[eD hm]at h
   simp only[Prod.mk.injEq,List.length_cons]at h
   exact pO l _ ys (Prod.ext h.1 (by have:=h.2;dsimp only;omega))
theorem aG4 (aA aB id:Int)(p:OA)(n cap:Nat)(xs:List Int)(w:World)(hS:Sl w p n cap 1 (ivs xs))(hok:aN aA aB xs=true):
  Calls Tryz.prog 112 #[aH aA aB p n cap,id] w (cO aA aB (cC aA aB xs id).1 (cC aA aB xs id).2 w):=by
 have hl:=hS.ilen
 subst hl
 obtain⟨g1,g2,g3,g4,g5,g6,g7⟩:=bX (cM hok)
 have HV: ∀w',Ext w w'→Calls Tryz.prog 80 #[aH aA aB p xs.length cap] w' fun e w''=>e= .returned (.bool true)∧Ext w' w'':=fun w' hy=>by
  have:=fI aA aB p xs.length cap xs w' (hS.ext hy)
  rwa[hok]at this
 have HL:=fun(w':World) (hy:Ext w w')=>kR aA aB p xs.length cap xs w' (by omega) (hS.ext hy)
 have HC:=fun(w':World) (hy:Ext w w')=>aLv aA aB p xs.length cap xs w' (hS.ext hy) hok
 cases hr:gO aA xs with
 |none=>
  have e:cC aA aB xs id=(xs,-1):=by unfold cC kX;rw[hr]
  rw[e]
  rw[hr]at HC
  exact yL aA aB id p xs.length cap xs w rfl HV HC HL
 |some r=>
  rw[hr]at HC
  obtain⟨f1,f2,f3,f4,f5⟩:=nW hok hr
  have a:eE aA aB xs r.2=r.1:=pO _ _ _ f1
  have HR: ∀w' q c,Ext w w'→Sl w' q r.2.length c 2 (r.2.flatMap aK)→Calls Tryz.prog 147 #[aH aA aB p xs.length cap,.slice q r.2.length c] w' fun e w''=> ∃q c,e= .returned (aH aA aB q xs.length c)∧w''.ownsRow w'.heap.size TI 1 (.slice q xs.length c) xs.length (ivs r.1)∧Ext w' w'':=fun w' q c hy hL=>by
   have:=wU aA aB p xs.length cap xs q r.2.length c r.2 w' rfl (hS.ext hy) hok hL
   rw[a]at this
   unfold cZ at this
   rw[f3]at this
   exact this
  have HP: ∀w' q c,Ext w w'→Sl w' q xs.length c 1 (ivs r.1)→Calls Tryz.prog 146 #[aH aA aB q xs.length c,(),id] w' fun e w''=> ∃q c,e= .returned (.tuple #[aH aA aB q xs.length c,.bool (cV aA aB r.1 id).2])∧w''.ownsRow w'.heap.size TI 1 (.slice q xs.length c) xs.length (ivs (cV aA aB r.1 id).1)∧Ext w' w'':=fun w' q c hy hL=>by
   have:=aLs aA aB id q xs.length c r.1 w' hL f2
   unfold cQ at this
   rw[lC,f3]at this
   exact this
  cases hb:(cV aA aB r.1 id).2 with
  |false=>
   have e:cC aA aB xs id=(xs,-1):=by simp[cC,kX,hr,hb]
   rw[e]
   rw[hb]at HP
   exact aDf aA aB id p xs.length cap r.2.length xs r.1 (cV aA aB r.1 id).1 r.2 w rfl HV HC HR HP HL
  |true=>
   have e:cC aA aB xs id=((cV aA aB r.1 id).1,(r.2.length:Int)):=by simp[cC,kX,hr,hb]
   rw[e]
   rw[hb]at HP
   exact aAu aA aB id p xs.length cap r.2.length r.1 (cV aA aB r.1 id).1 r.2 w (show _=_ by rw[lC,f3]) HV HC HR HP
theorem aCv (id:Int)(p:OA)(n cap:Nat)(xs:List Int)(w:World)(hS:Sl w p n cap 1 (ivs xs)):
  Calls Tryz.prog 198 #[.slice p n cap,id] w fun e w'=>e= .returned (.int .i64 (nC xs id))∧Ext w w':=by
 have f:=hS.bd
 have HS:=xQ hS
 have hl:=xQ hS.ilen
 clear hS
 go_enter Tryz.func198,Tryz.ntmps198
 go_wp2
 go_loop [8] (fun i=> ∃k:Nat,k≤n∧i= .int .i64 k∧id∉xs.take k) (fun i=>n-(intOf i).toNat)
 case atStart=>exact⟨0,Nat.zero_le _,rfl,by simp⟩
 case round=>
  obtain⟨k,hk,rfl,hc⟩:=hrel
  have HC:=xQ hc
  clear hc
  by_cases hlt:k<n
  ·obtain⟨b,d,y,rfl,hx,hb,c⟩:=HS.out.int_at hlt
   have HX:=xQ hx
   clear hx
   by_cases hy:y=id
   ·have t1:(id==y)=true:=by simp[hy]
    have a:Hid (nC xs id=k):=qG (by rw[HX.out,hy]) HC.out
    clear hy
    go_wp2
    go_ret
    exact⟨eW a.out.symm,by exact .refl _⟩
   ·have t1:(id==y)=false:=by simp;exact fun e=>hy e.symm
    have a:Hid (id∉xs.take (k+1)):=by
     show _∉_
     rw[bD HX.out,List.mem_append,List.mem_singleton]
     exact fun h=>h.elim HC (fun e=>hy e.symm)
    clear hy
    go_wp2
    go_round
    case rel=>exact⟨k+1,by omega,by go_num,a.out⟩
    case measure=>simp[intOf];omega
  ·have a:Hid (nC xs id= -1):=rI (by have:=HC.out;rwa[List.take_of_length_le (by rw[hl.out];omega)]at this)
   go_wp2
   go_ret
   exact⟨eW a.out.symm,by exact .refl _⟩
theorem vM (aA aB id:Int)(p:OA)(n cap:Nat)(b:Bool)(w:World)(hb:b=false∨b=true∧id<1)(HV:xB 80 #[aH aA aB p n cap] w b):
  Calls Tryz.prog 178 #[aH aA aB p n cap,id] w fun e w'=>e= .returned (.int .i64 (-1))∧Ext w w':=by
 rcases hb with rfl|⟨rfl,hi⟩
 all_goals
  go_enter Tryz.func178,Tryz.ntmps178
  go_wp2_with fail
  refine(HV _ (by exact .alloc (.refl _) _)).mono ?_
  rintro e w1 ⟨rfl,a⟩
  go_wp2
  go_ret
  exact⟨rfl,by exact .trans (.alloc (.refl _) _) a⟩
theorem yO (aA aB id:Int)(p:OA)(n cap:Nat)(xs:List Int)(w:World)(hi:1≤id)(HI:xC 198 #[.slice p n cap,id] w fun w' e w''=>e= .returned (.int .i64 (nC xs id))∧Ext w' w'')(HV:xB 80 #[aH aA aB p n cap] w true):
  Calls Tryz.prog 178 #[aH aA aB p n cap,id] w fun e w'=>e= .returned (.int .i64 (nC xs id))∧Ext w w':=by
 go_enter Tryz.func178,Tryz.ntmps178
 go_wp2_with fail
 refine(HV _ (by exact .alloc (.refl _) _)).mono ?_
 rintro e w1 ⟨rfl,a⟩
 have hB:=(Blk.new w TH3 #[aA,aB,.slice p n cap]).ext a
 have X1:=xQ (show Ext w w1 by exact .trans (.alloc (.refl _) _) a)
 obtain⟨b0,b1,b2⟩:=hB.cells3
 have c:w.heap.size<w1.heap.size:=hB.lt
 clear a hB
 go_wp2_with fail
 refine(HI _ X1.out).mono ?_
 rintro e w2 ⟨rfl,b⟩
 have X2:=X1.out.trans b
 go_wp2
 go_ret
 exact⟨rfl,X2⟩
theorem wT (aA aB id:Int)(p:OA)(n cap:Nat)(xs:List Int)(w:World)(hS:Sl w p n cap 1 (ivs xs)):
  Calls Tryz.prog 178 #[aH aA aB p n cap,id] w fun e w'=>e= .returned (.int .i64 (gY aA aB xs id))∧Ext w w':=by
 have HV:=fun(w':World) (hx:Ext w w')=>fI aA aB p n cap xs w' (hS.ext hx)
 unfold gY
 by_cases h:aN aA aB xs=true∧1≤id
 ·rw[if_pos h]
  rw[h.1]at HV
  exact yO aA aB id p n cap xs w h.2 (xQ fun w' hx=>aCv id p n cap xs w' (hS.ext hx)) (xQ HV)
 ·rw[if_neg h]
  refine vM aA aB id p n cap (aN aA aB xs) w ?_ (xQ HV)
  cases hh:aN aA aB xs with
  |false=>exact .inl rfl
  |true=>
   refine .inr ⟨rfl,?_⟩
   by_cases h1:1≤id
   ·exact absurd ⟨hh,h1⟩ h
   ·omega
end Go.Proofs.YtgnkoffndhmhpaaGreatDoor
