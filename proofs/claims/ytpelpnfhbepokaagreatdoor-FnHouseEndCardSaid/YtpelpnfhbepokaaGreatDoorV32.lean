/-
  Texts of this proof, packed (@packed).
-/
import Derived.Test.YtpelpnfhbepokaaGreatDoorV31
namespace Go.Proofs.YtpelpnfhbepokaaGreatDoor
open Go.RowKit
set_option linter.unusedVariables false
set_option linter.unusedSimpArgs false
set_option maxHeartbeats 8000000
set_option maxRecDepth 100000
theorem aG1 (aA aB id:Int)(b a c:Nat)(x:Int)(xs:List Int)(w:World)(ah:4≤xs.length)(hn:xs.length≤12)(af:Hid (xs[0]? =some x)) (hb:b<w.heap.size) (ae:Hid (w.cell? ⟨b,a,none⟩=some (.int .i64 x))) (ag:id<1)
  (HV:xB 53 #[aH aA aB (some ⟨b,a,none⟩) xs.length c] w true)
  (HK:Hid (∀w',Ext w w'→Calls Tryz.prog 79 #[aH aA aB (some ⟨b,a,none⟩) xs.length c] w' (cY aA aB xs w'))):
  Calls Tryz.prog 143 #[aH aA aB (some ⟨b,a,none⟩) xs.length c,(),id] w (cO aA aB xs false w):=by
 have ad:decide (id<1)=true:=by simp;omega
 go_enter Tryz.func143,Tryz.ntmps143;go_wp2_with fail;refine(HV _ (((Mem.start w).c0 TH3 #[aA,aB,.slice (some ⟨b,a,none⟩) xs.length c]).c1 TH3 #[(),(),((),())]).ext).mono ?_;rintro e w1 ⟨rfl,o⟩;have M1:=((((Mem.start w).c0 TH3 #[aA,aB,.slice (some ⟨b,a,none⟩) xs.length c]).c1 TH3 #[(),(),((),())]).adv o)
 have i:=M1.hi 0;have j:=M1.hi 1;clear o;obtain⟨h0,h1,h2⟩:=(M1.bk 1).tri;go_wp2_with fail;clear h0 h1 h2;refine(HK _ M1.ext).mono ?_;rintro e w2 ⟨q,c2,rfl,m,p⟩;have M2:=(M1.call p m)
 clear M1 i j p m;have k:=M2.hi 1;have l:=M2.hi 2;obtain⟨g,rfl,r,s⟩:=M2.so 0;clear r s;go_upto_region 4 with fail;obtain⟨gV,h⟩: ∃gV,gV=w2.heap.size:=⟨_,rfl⟩
 rw[←h];have M3:=(M2.blkNew TH3 #[aA,aB,.slice (some ⟨g,0,none⟩) xs.length c2] gV h.symm)
 generalize World.alloc _ _=w4 at M3⊢;clear M2 k l h;have t:=M3.hi 0;have u:=M3.hi 2;have y:=M3.hi 3;obtain⟨v0,v1,v2⟩:=(M3.bk 0).tri;obtain⟨z0,z,z1,aa,z2,ab⟩:=(M3.bk 2).trif;obtain⟨d,f⟩:=M3.nq 0 2;go_wp2;have M4:=((M3.st 2 0 (.int .i64 aA)).st 2 1 (.int .i64 aB))
 have M5:=(M4.st 2 2 (.slice (some ⟨g,0,none⟩) xs.length c2))
 have M6:=(show Mem w (((w4.setCell ⟨w.heap.size+1,0,none⟩ (.int .i64 aA)).setCell ⟨w.heap.size+1,1,none⟩ (.int .i64 aB)).setCell ⟨w.heap.size+1,2,none⟩ (.slice (some ⟨g,0,none⟩) xs.length c2)) [aI w.heap.size (gV) TH3 #[aA,aB,.slice (some ⟨g,0,none⟩) xs.length c2],aJ w.heap.size TI 1 (some ⟨g,0,none⟩) (xs.length) (c2) (ivs xs),aI w.heap.size (w.heap.size+1) TH3 #[aA,aB,.slice (some ⟨g,0,none⟩) xs.length c2],aI w.heap.size (w.heap.size) TH3 #[aA,aB,.slice (some ⟨b,a,none⟩) xs.length c]]from M5)
 generalize n:World.setCell _ _ _=wz;rw[n]at M6;clear n M3 M4 M5 v0 v1 v2 z0 z z1 aa z2 ab d f;obtain⟨y0,y1,y2⟩:=(M6.bk 2).tri;exact bodyPost_ret (v:= .tuple #[.agg #[aA,aB,.slice (some ⟨g,0,none⟩) xs.length c2],.bool false]) (by simp[results,Tryz.results143,go_sem, *]) rfl (dZ (by simp) (by exact(M6.ow 1)) M6.ext)
theorem aAp (aA aB id:Int)(b a c:Nat)(x:Int)(xs:List Int)(w:World)(al:4≤xs.length)(hn:xs.length≤12)(aj:Hid (xs[0]? =some x)) (hb:b<w.heap.size) (y:Hid (w.cell? ⟨b,a,none⟩=some (.int .i64 x))) (ak:1≤id) (am:(x !=0)=true)
  (HH:Hid (∀w',Calls Tryz.prog 149 #[aH aA aB (some ⟨b,a,none⟩) xs.length c,()] w' fun e w''=>e= .returned (.bool true)∧Ext w' w''))
  (HV:xB 53 #[aH aA aB (some ⟨b,a,none⟩) xs.length c] w true)
  (HK:Hid (∀w',Ext w w'→Calls Tryz.prog 79 #[aH aA aB (some ⟨b,a,none⟩) xs.length c] w' (cY aA aB xs w'))):
  Calls Tryz.prog 143 #[aH aA aB (some ⟨b,a,none⟩) xs.length c,(),id] w (cO aA aB xs false w):=by
 have ai:decide (id<1)=false:=by simp;omega
 go_enter Tryz.func143,Tryz.ntmps143;go_wp2_with fail;refine(HV _ (((Mem.start w).c0 TH3 #[aA,aB,.slice (some ⟨b,a,none⟩) xs.length c]).c1 TH3 #[(),(),((),())]).ext).mono ?_;rintro e w1 ⟨rfl,s⟩;have M1:=((((Mem.start w).c0 TH3 #[aA,aB,.slice (some ⟨b,a,none⟩) xs.length c]).c1 TH3 #[(),(),((),())]).adv s)
 have i:=M1.hi 0;have j:=M1.hi 1;clear s;obtain⟨h0,h1,h2⟩:=(M1.bk 1).tri;go_wp2_with fail;clear h0 h1 h2;refine(HK _ M1.ext).mono ?_;rintro e w2 ⟨q,c2,rfl,p,t⟩;have M2:=(M1.call t p)
 clear M1 i j t p;have k:=M2.hi 1;have l:=M2.hi 2;obtain⟨g,rfl,z,aa⟩:=M2.so 0;clear z aa;go_upto_region 4 with fail;obtain⟨gV,h⟩: ∃gV,gV=w2.heap.size:=⟨_,rfl⟩
 rw[←h];have M3:=(M2.blkNew TH3 #[aA,aB,.slice (some ⟨g,0,none⟩) xs.length c2] gV h.symm)
 generalize World.alloc _ _=w4 at M3⊢;clear M2 k l h;have m:=M3.hi 0;have n:=M3.hi 2;have o:=M3.hi 3;obtain⟨h0,h1,h2⟩:=(M3.bk 3).tri;go_wp2_with fail;clear h0 h1 h2;refine(HH _).mono ?_;rintro e w4 ⟨rfl,u⟩;have M4:=(M3.adv u)
 clear M3 m n o u;have ab:=M4.hi 0;have ad:=M4.hi 2;have ae:=M4.hi 3;have cx:w4.cell? ⟨b,a,none⟩=some (.int .i64 x):=(M4.ext.cells.1 _ _ hb).trans y.out;obtain⟨h0,h1,h2⟩:=(M4.bk 3).tri;obtain⟨v0,v1,v2⟩:=(M4.bk 0).tri;obtain⟨z0,af,z1,ag,z2,ah⟩:=(M4.bk 2).trif;obtain⟨d,f⟩:=M4.nq 0 2;go_wp2;have M5:=((M4.st 2 0 (.int .i64 aA)).st 2 1 (.int .i64 aB))
 have M6:=(M5.st 2 2 (.slice (some ⟨g,0,none⟩) xs.length c2))
 have M7:=(show Mem w (((w4.setCell ⟨w.heap.size+1,0,none⟩ (.int .i64 aA)).setCell ⟨w.heap.size+1,1,none⟩ (.int .i64 aB)).setCell ⟨w.heap.size+1,2,none⟩ (.slice (some ⟨g,0,none⟩) xs.length c2)) [aI w.heap.size (gV) TH3 #[aA,aB,.slice (some ⟨g,0,none⟩) xs.length c2],aJ w.heap.size TI 1 (some ⟨g,0,none⟩) (xs.length) (c2) (ivs xs),aI w.heap.size (w.heap.size+1) TH3 #[aA,aB,.slice (some ⟨g,0,none⟩) xs.length c2],aI w.heap.size (w.heap.size) TH3 #[aA,aB,.slice (some ⟨b,a,none⟩) xs.length c]]from M6)
 generalize r:World.setCell _ _ _=wz;rw[r]at M7;clear r M4 M5 M6 v0 v1 v2 z0 af z1 ag z2 ah d f;obtain⟨y0,y1,y2⟩:=(M7.bk 2).tri;exact bodyPost_ret (v:= .tuple #[.agg #[aA,aB,.slice (some ⟨g,0,none⟩) xs.length c2],.bool false]) (by simp[results,Tryz.results143,go_sem, *]) rfl (dZ (by simp) (by exact(M7.ow 1)) M7.ext)
theorem aD6 (aA aB id:Int)(b a f:Nat)(x:Int)(xs:List Int)(w:World)(a6:4≤xs.length)(hn:xs.length≤12)(aw:Hid (xs[0]? =some x)) (hb:b<w.heap.size) (au:Hid (w.cell? ⟨b,a,none⟩=some (.int .i64 x))) (a5:1≤id) (a7:(x !=0)=false)
  (HH:Hid (∀w',Calls Tryz.prog 149 #[aH aA aB (some ⟨b,a,none⟩) xs.length f,()] w' fun e w''=>e= .returned (.bool true)∧Ext w' w''))
  (av:Hid (∀w' q c,Sl w' q xs.length c 1 (ivs (xs.set 0 id))→Calls Tryz.prog 53 #[aH aA aB q xs.length c] w' fun e w''=>e= .returned (.bool true)∧Ext w' w''))
  (HV:xB 53 #[aH aA aB (some ⟨b,a,none⟩) xs.length f] w true)
  (HK:Hid (∀w',Ext w w'→Calls Tryz.prog 79 #[aH aA aB (some ⟨b,a,none⟩) xs.length f] w' (cY aA aB xs w'))):
  Calls Tryz.prog 143 #[aH aA aB (some ⟨b,a,none⟩) xs.length f,(),id] w (cO aA aB (xs.set 0 id) true w):=by
 have a4:decide (id<1)=false:=by simp;omega
 go_enter Tryz.func143,Tryz.ntmps143;go_wp2_with fail;refine(HV _ (((Mem.start w).c0 TH3 #[aA,aB,.slice (some ⟨b,a,none⟩) xs.length f]).c1 TH3 #[(),(),((),())]).ext).mono ?_;rintro e w1 ⟨rfl,am⟩;have M1:=((((Mem.start w).c0 TH3 #[aA,aB,.slice (some ⟨b,a,none⟩) xs.length f]).c1 TH3 #[(),(),((),())]).adv am)
 have p:=M1.hi 0;have r:=M1.hi 1;clear am;obtain⟨h0,h1,h2⟩:=(M1.bk 1).tri;go_wp2_with fail;clear h0 h1 h2;refine(HK _ M1.ext).mono ?_;rintro e w2 ⟨q,c2,rfl,aj,an⟩;have M2:=(M1.call an aj)
 clear M1 p r an aj;have s:=M2.hi 1;have t:=M2.hi 2;obtain⟨g,rfl,ay,az⟩:=M2.so 0;clear ay az;go_upto_region 4 with fail;obtain⟨gV,o⟩: ∃gV,gV=w2.heap.size:=⟨_,rfl⟩
 rw[←o];have M3:=(M2.blkNew TH3 #[aA,aB,.slice (some ⟨g,0,none⟩) xs.length c2] gV o.symm)
 generalize World.alloc _ _=w4 at M3⊢;clear M2 s t o;have u:=M3.hi 0;have y:=M3.hi 2;have z:=M3.hi 3;obtain⟨h0,h1,h2⟩:=(M3.bk 3).tri;go_wp2_with fail;clear h0 h1 h2;refine(HH _).mono ?_;rintro e w4 ⟨rfl,ao⟩;have M4:=(M3.adv ao)
 clear M3 u y z ao;have aa:=M4.hi 0;have ab:=M4.hi 2;have ad:=M4.hi 3;have cx:w4.cell? ⟨b,a,none⟩=some (.int .i64 x):=(M4.ext.cells.1 _ _ hb).trans au.out;obtain⟨h0,h1,h2⟩:=(M4.bk 3).tri;obtain⟨v0,v1,v2⟩:=(M4.bk 0).tri;have gi:w4.cell? ⟨g,0,none⟩=some (.int .i64 x):=by have:=(M4.ow 1).cellAt 0 (by omega);rw[this];simpa[ivs]using aw.out
 have ax:w4.frozen? ⟨g,0,none⟩=false:=(M4.ow 1).frozenAt 0;obtain⟨j,k⟩:=M4.nq 0 1;go_upto_region 7 with fail;clear h0 h1 h2 v0 v1 v2 j k cx gi ax;have MX:=(show Mem w (w4.setCell ⟨g,0,none⟩ (.int .i64 id)) [aI w.heap.size (gV) TH3 #[aA,aB,.slice (some ⟨g,0,none⟩) xs.length c2],aJ w.heap.size TI 1 (some ⟨g,0,none⟩) (xs.length) (c2) (ivs (xs.set 0 id)),aI w.heap.size (w.heap.size+1) TH3 #[(),(),((),())],aI w.heap.size (w.heap.size) TH3 #[aA,aB,.slice (some ⟨b,a,none⟩) xs.length f]]from by rw[←dR];exact M4.ostore (i:=1) rfl 0 (.int .i64 id))
 generalize ak:World.setCell _ _ _=w5;rw[ak]at MX;clear ak M4 aa ab ad;have ae:gV<w5.heap.size:=(MX.hi 0)
 have af:w.heap.size+1<w5.heap.size:=(MX.hi 2)
 have ag:w.heap.size<w5.heap.size:=(MX.hi 3)
 obtain⟨v0,v1,v2⟩:=(MX.bk 0).tri;go_wp2_with fail;clear v0 v1 v2;refine(av _ _ _ (by exact(MX.sq 1))).mono ?_;rintro e a0 ⟨rfl,n⟩;have d:=(MX.adv n)
 clear MX ae af ag n;have ap:=d.hi 0;have aq:=d.hi 2;have ar:=d.hi 3;obtain⟨v0,v1,v2⟩:=(d.bk 0).tri;obtain⟨z0,a1,z1,a2,z2,a3⟩:=(d.bk 2).trif;obtain⟨l,m⟩:=d.nq 0 2;go_wp2;have ah:=((d.st 2 0 (.int .i64 aA)).st 2 1 (.int .i64 aB))
 have ai:=(ah.st 2 2 (.slice (some ⟨g,0,none⟩) xs.length c2))
 have h:=(show Mem w (((a0.setCell ⟨w.heap.size+1,0,none⟩ (.int .i64 aA)).setCell ⟨w.heap.size+1,1,none⟩ (.int .i64 aB)).setCell ⟨w.heap.size+1,2,none⟩ (.slice (some ⟨g,0,none⟩) xs.length c2)) [aI w.heap.size (gV) TH3 #[aA,aB,.slice (some ⟨g,0,none⟩) xs.length c2],aJ w.heap.size TI 1 (some ⟨g,0,none⟩) (xs.length) (c2) (ivs (xs.set 0 id)),aI w.heap.size (w.heap.size+1) TH3 #[aA,aB,.slice (some ⟨g,0,none⟩) xs.length c2],aI w.heap.size (w.heap.size) TH3 #[aA,aB,.slice (some ⟨b,a,none⟩) xs.length f]]from ai)
 generalize al:World.setCell _ _ _=wz;rw[al]at h;clear al d ah ai v0 v1 v2 z0 a1 z1 a2 z2 a3 l m;obtain⟨y0,y1,y2⟩:=(h.bk 2).tri;exact bodyPost_ret (v:= .tuple #[.agg #[aA,aB,.slice (some ⟨g,0,none⟩) xs.length c2],.bool true]) (by simp[results,Tryz.results143,go_sem, *]) rfl (dZ (by simp) (by exact(h.ow 1)) h.ext)
theorem aD7 (aA aB id:Int)(b a d:Nat)(x:Int)(xs:List Int)(w:World)(ba:4≤xs.length)(hn:xs.length≤12)(a0:Hid (xs[0]? =some x)) (hb:b<w.heap.size) (ay:Hid (w.cell? ⟨b,a,none⟩=some (.int .i64 x))) (a9:1≤id) (bb:(x !=0)=false)
  (HH:Hid (∀w',Calls Tryz.prog 149 #[aH aA aB (some ⟨b,a,none⟩) xs.length d,()] w' fun e w''=>e= .returned (.bool true)∧Ext w' w''))
  (az:Hid (∀w' q c,Sl w' q xs.length c 1 (ivs (xs.set 0 id))→Calls Tryz.prog 53 #[aH aA aB q xs.length c] w' fun e w''=>e= .returned (.bool false)∧Ext w' w''))
  (HV:xB 53 #[aH aA aB (some ⟨b,a,none⟩) xs.length d] w true)
  (HK:Hid (∀w',Ext w w'→Calls Tryz.prog 79 #[aH aA aB (some ⟨b,a,none⟩) xs.length d] w' (cY aA aB xs w'))):
  Calls Tryz.prog 143 #[aH aA aB (some ⟨b,a,none⟩) xs.length d,(),id] w (cO aA aB xs false w):=by
 have a8:decide (id<1)=false:=by simp;omega
 go_enter Tryz.func143,Tryz.ntmps143;go_wp2_with fail;refine(HV _ (((Mem.start w).c0 TH3 #[aA,aB,.slice (some ⟨b,a,none⟩) xs.length d]).c1 TH3 #[(),(),((),())]).ext).mono ?_;rintro e w1 ⟨rfl,aq⟩;have M1:=((((Mem.start w).c0 TH3 #[aA,aB,.slice (some ⟨b,a,none⟩) xs.length d]).c1 TH3 #[(),(),((),())]).adv aq)
 have u:=M1.hi 0;have y:=M1.hi 1;clear aq;obtain⟨h0,h1,h2⟩:=(M1.bk 1).tri;go_wp2_with fail;clear h0 h1 h2;refine(HK _ M1.ext).mono ?_;rintro e w2 ⟨q,c2,rfl,an,ar⟩;have M2:=(M1.call ar an)
 clear M1 u y ar an;have z:=M2.hi 1;have aa:=M2.hi 2;obtain⟨g,rfl,a2,a3⟩:=M2.so 0;clear a2 a3;go_upto_region 4 with fail;obtain⟨gV,t⟩: ∃gV,gV=w2.heap.size:=⟨_,rfl⟩
 rw[←t];have M3:=(M2.blkNew TH3 #[aA,aB,.slice (some ⟨g,0,none⟩) xs.length c2] gV t.symm)
 generalize World.alloc _ _=w4 at M3⊢;clear M2 z aa t;have ab:=M3.hi 0;have ad:=M3.hi 2;have ae:=M3.hi 3;obtain⟨h0,h1,h2⟩:=(M3.bk 3).tri;go_wp2_with fail;clear h0 h1 h2;refine(HH _).mono ?_;rintro e w4 ⟨rfl,au⟩;have M4:=(M3.adv au)
 clear M3 ab ad ae au;have af:=M4.hi 0;have ag:=M4.hi 2;have ah:=M4.hi 3;have cx:w4.cell? ⟨b,a,none⟩=some (.int .i64 x):=(M4.ext.cells.1 _ _ hb).trans ay.out;obtain⟨h0,h1,h2⟩:=(M4.bk 3).tri;obtain⟨v0,v1,v2⟩:=(M4.bk 0).tri;have gi:w4.cell? ⟨g,0,none⟩=some (.int .i64 x):=by have:=(M4.ow 1).cellAt 0 (by omega);rw[this];simpa[ivs]using a0.out
 have a1:w4.frozen? ⟨g,0,none⟩=false:=(M4.ow 1).frozenAt 0;obtain⟨n,o⟩:=M4.nq 0 1;go_upto_region 7 with fail;clear h0 h1 h2 v0 v1 v2 n o cx gi a1;have MX:=(show Mem w (w4.setCell ⟨g,0,none⟩ (.int .i64 id)) [aI w.heap.size (gV) TH3 #[aA,aB,.slice (some ⟨g,0,none⟩) xs.length c2],aJ w.heap.size TI 1 (some ⟨g,0,none⟩) (xs.length) (c2) (ivs (xs.set 0 id)),aI w.heap.size (w.heap.size+1) TH3 #[(),(),((),())],aI w.heap.size (w.heap.size) TH3 #[aA,aB,.slice (some ⟨b,a,none⟩) xs.length d]]from by rw[←dR];exact M4.ostore (i:=1) rfl 0 (.int .i64 id))
 generalize ao:World.setCell _ _ _=w5;rw[ao]at MX;clear ao M4 af ag ah;have ai:gV<w5.heap.size:=(MX.hi 0)
 have aj:w.heap.size+1<w5.heap.size:=(MX.hi 2)
 have ak:w.heap.size<w5.heap.size:=(MX.hi 3)
 obtain⟨v0,v1,v2⟩:=(MX.bk 0).tri;go_wp2_with fail;clear v0 v1 v2;refine(az _ _ _ (by exact(MX.sq 1))).mono ?_;rintro e bc ⟨rfl,r⟩;have f:=(MX.adv r)
 clear MX ai aj ak r;have k:=f.hi 0;have l:=f.hi 2;have m:=f.hi 3;obtain⟨h0,h1,h2⟩:=(f.bk 3).tri;go_wp2_with fail;clear h0 h1 h2;refine(HK _ f.ext).mono ?_;rintro e a4 ⟨q0,c0,rfl,p,s⟩;have h:=(f.call s p)
 clear f k l m s p;have av:=h.hi 1;have aw:=h.hi 3;have ax:=h.hi 4;obtain⟨z0,a5,z1,a6,z2,a7⟩:=(h.bk 3).trif;go_wp2;have al:=((h.st 3 0 (.int .i64 aA)).st 3 1 (.int .i64 aB))
 have am:=(al.st 3 2 (.slice q0 xs.length c0))
 have j:=(show Mem w (((a4.setCell ⟨w.heap.size+1,0,none⟩ (.int .i64 aA)).setCell ⟨w.heap.size+1,1,none⟩ (.int .i64 aB)).setCell ⟨w.heap.size+1,2,none⟩ (.slice q0 xs.length c0)) [aJ w.heap.size TI 1 (q0) (xs.length) (c0) (ivs xs),aI w.heap.size (gV) TH3 #[aA,aB,.slice (some ⟨g,0,none⟩) xs.length c2],aJ w.heap.size TI 1 (some ⟨g,0,none⟩) (xs.length) (c2) (ivs (xs.set 0 id)),aI w.heap.size (w.heap.size+1) TH3 #[aA,aB,.slice q0 xs.length c0],aI w.heap.size (w.heap.size) TH3 #[aA,aB,.slice (some ⟨b,a,none⟩) xs.length d]]from am)
 generalize ap:World.setCell _ _ _=wz;rw[ap]at j;clear ap h al am z0 a5 z1 a6 z2 a7;obtain⟨y0,y1,y2⟩:=(j.bk 3).tri;exact bodyPost_ret (v:= .tuple #[.agg #[aA,aB,.slice q0 xs.length c0],.bool false]) (by simp[results,Tryz.results143,go_sem, *]) rfl (dZ (by simp) (by exact(j.ow 0)) j.ext)
theorem aL5 (aA aB id:Int)(p:OA)(n a:Nat)(xs:List Int)(w:World)(hS:Sl w p n a 1 (ivs xs))(i:aM aA aB xs=true):
  Calls Tryz.prog 143 #[aH aA aB p n a,(),id] w (cO aA aB (cR aA aB xs id).1 (cR aA aB xs id).2 w):=by
 have hl:=hS.ilen;subst hl;obtain⟨g1,g2,g3,g4,g5,g6,g7,g8,g9⟩:=bM i;have HV: ∀w',Ext w w'→Calls Tryz.prog 53 #[aH aA aB p xs.length a] w' fun e w''=>e= .returned (.bool true)∧Ext w' w'':=fun w' hx=>by have:=fI aA aB p xs.length a xs w' (hS.ext hx);rwa[i]at this
 have HK:=fun(w':World) (hx:Ext w w')=>kN aA aB p xs.length a xs w' (by omega) (hS.ext hx)
 have HH: ∀w',Calls Tryz.prog 149 #[aH aA aB p xs.length a,()] w' fun e w''=>e= .returned (.bool true)∧Ext w' w'':=fun w'=>by have:=iI aA aB 0 p xs.length a w' (by omega);rwa[decide_eq_true (⟨by omega,by omega⟩:0≤(0:Int)∧(0:Int)<xs.length)]at this
 obtain⟨b,g,rfl,hb,j⟩:=hS.rd (by omega);have f:xs[0]? =some (xs.getD 0 0):=by rw[List.getD_eq_getElem?_getD,List.getElem?_eq_getElem (by omega)];rfl
 have h:w.cell? ⟨b,g,none⟩=some (.int .i64 (xs.getD 0 0)):=by have:=j 0 (by omega);rw[Nat.add_zero]at this;rw[this];simp only[ivs,List.getElem?_map,f,Option.map_some]
 by_cases h1:id<1
 ·rw[show cR aA aB xs id=(xs,false) by unfold cR;rw[if_neg (by omega)]];exact aG1 aA aB id b g a _ xs w g5 g6 f hb h h1 HV HK
 by_cases h2:xs.getD 0 0=0
 ·have d:(xs.getD 0 0 !=0)=false:=by rw[h2];rfl
  cases hv:aM aA aB (xs.set 0 id)with
  |true=>rw[show cR aA aB xs id=(xs.set 0 id,true) by unfold cR;rw[if_pos ⟨h2,by omega,hv⟩]];refine aD6 aA aB id b g a _ xs w g5 g6 f hb h (by omega) d HH (fun w' q c hL=> ?_) HV HK;have:=fI aA aB q xs.length c _ w' hL;rwa[hv]at this
  |false=>rw[show cR aA aB xs id=(xs,false) by unfold cR;rw[if_neg (by rw[hv];simp)]];refine aD7 aA aB id b g a _ xs w g5 g6 f hb h (by omega) d HH (fun w' q c hL=> ?_) HV HK;have:=fI aA aB q xs.length c _ w' hL;rwa[hv]at this
 rw[show cR aA aB xs id=(xs,false) by unfold cR;rw[if_neg (by omega)]];exact aAp aA aB id b g a _ xs w g5 g6 f hb h (by omega) (by simpa using h2) HH HV HK
theorem yH (aA aB id:Int)(p:OA)(n a:Nat)(xs:List Int)(w:World)(h:Hid (xs.length=n))
  (HV:xB 53 #[aH aA aB p n a] w true)
  (HC:xC 142 #[aH aA aB p n a] w fun w' e w''=> ∃v,e= .returned (.tuple #[v,.bool false])∧Ext w' w'')
  (HL:xC 79 #[aH aA aB p n a] w fun w' e w''=> ∃q c,e= .returned (aH aA aB q n c)∧w''.ownsRow w'.heap.size TI 1 (.slice q n c) n (ivs xs)∧Ext w' w''):
  Calls Tryz.prog 96 #[aH aA aB p n a,id] w (cN aA aB xs (-1) w):=by
 go_enter Tryz.func96,Tryz.ntmps96;go_wp2_with fail;refine(HV _ (((Mem.start w).c0 TH3 #[aA,aB,.slice p n a]).c1 TH3 #[(),(),((),())]).ext).mono ?_;rintro e w1 ⟨rfl,k⟩;have M1:=((((Mem.start w).c0 TH3 #[aA,aB,.slice p n a]).c1 TH3 #[(),(),((),())]).adv k)
 have b:=M1.hi 0;have d:=M1.hi 1;clear k;obtain⟨h0,h1,h2⟩:=(M1.bk 1).tri;go_wp2_with fail;clear h0 h1 h2;refine(HC _ M1.ext).mono ?_;rintro e w2 ⟨v,rfl,l⟩;have M2:=(M1.adv l)
 clear M1 b d l;have f:=M2.hi 0;have g:=M2.hi 1;obtain⟨h0,h1,h2⟩:=(M2.bk 1).tri;go_wp2_with fail;clear h0 h1 h2;refine(HL _ M2.ext).mono ?_;rintro e w3 ⟨q0,c0,rfl,i,m⟩;have M3:=(M2.call m i)
 clear M2 f g m i;have o:=M3.hi 1;have r:=M3.hi 2;obtain⟨z0,s,z1,t,z2,u⟩:=(M3.bk 1).trif;go_wp2;have M4:=((M3.st 1 0 (.int .i64 aA)).st 1 1 (.int .i64 aB))
 have M5:=(M4.st 1 2 (.slice q0 n c0))
 clear z0 s z1 t z2 u;have M6:=(show Mem w (((w3.setCell ⟨w.heap.size+1,0,none⟩ (.int .i64 aA)).setCell ⟨w.heap.size+1,1,none⟩ (.int .i64 aB)).setCell ⟨w.heap.size+1,2,none⟩ (.slice q0 n c0)) [aJ w.heap.size TI 1 (q0) (n) (c0) (ivs xs),aI w.heap.size (w.heap.size+1) TH3 #[aA,aB,.slice q0 n c0],aI w.heap.size (w.heap.size) TH3 #[aA,aB,.slice p n a]]from M5)
 generalize j:World.setCell _ _ _=wz;rw[j]at M6;clear j M3 M4 M5;obtain⟨y0,y1,y2⟩:=(M6.bk 1).tri;exact bodyPost_ret (v:= .tuple #[.agg #[aA,aB,.slice q0 n c0],(-1:Int)]) (by simp[results,Tryz.results96,go_sem, *]) rfl (eH h.out (M6.ow 0) M6.ext)
theorem aD0 (aA aB id:Int)(p:OA)(n a K:Nat)(xs ys zs:List Int)(sl:List Sl2)(w:World)(s:Hid (xs.length=n))
  (HV:xB 53 #[aH aA aB p n a] w true)
  (HC:xC 142 #[aH aA aB p n a] w fun w' e w''=> ∃q c,e= .returned (.tuple #[.slice q K c,.bool true])∧w''.ownsRow w'.heap.size TSL 2 (.slice q K c) K (sl.flatMap aK)∧Ext w' w'')
  (HR:Hid (∀w' q c,Ext w w'→Sl w' q K c 2 (sl.flatMap aK)→Calls Tryz.prog 144 #[aH aA aB p n a,.slice q K c] w' fun e w''=> ∃q c,e= .returned (aH aA aB q n c)∧w''.ownsRow w'.heap.size TI 1 (.slice q n c) n (ivs ys)∧Ext w' w''))
  (HP:Hid (∀w' q c,Ext w w'→Sl w' q n c 1 (ivs ys)→Calls Tryz.prog 143 #[aH aA aB q n c,(),id] w' fun e w''=> ∃q c,e= .returned (.tuple #[aH aA aB q n c,.bool false])∧w''.ownsRow w'.heap.size TI 1 (.slice q n c) n (ivs zs)∧Ext w' w''))
  (HL:xC 79 #[aH aA aB p n a] w fun w' e w''=> ∃q c,e= .returned (aH aA aB q n c)∧w''.ownsRow w'.heap.size TI 1 (.slice q n c) n (ivs xs)∧Ext w' w''):
  Calls Tryz.prog 96 #[aH aA aB p n a,id] w (cN aA aB xs (-1) w):=by
 go_enter Tryz.func96,Tryz.ntmps96;go_wp2_with fail;refine(HV _ (((Mem.start w).c0 TH3 #[aA,aB,.slice p n a]).c1 TH3 #[(),(),((),())]).ext).mono ?_;rintro e w1 ⟨rfl,aa⟩;have M1:=((((Mem.start w).c0 TH3 #[aA,aB,.slice p n a]).c1 TH3 #[(),(),((),())]).adv aa)
 have d:=M1.hi 0;have f:=M1.hi 1;clear aa;obtain⟨h0,h1,h2⟩:=(M1.bk 1).tri;go_wp2_with fail;clear h0 h1 h2;refine(HC _ M1.ext).mono ?_;rintro e w2 ⟨qs,cs,rfl,t,ab⟩;have M2:=(M1.call ab t)
 clear M1 d f ab t;have g:=M2.hi 1;have h:=M2.hi 2;obtain⟨h0,h1,h2⟩:=(M2.bk 2).tri;go_wp2_with fail;clear h0 h1 h2;refine(HR _ qs cs M2.ext (M2.sq 0)).mono ?_;rintro e w3 ⟨q1,c1,rfl,u,ad⟩;have M3:=(M2.call ad u)
 clear M2 g h ad u;have i:=M3.hi 2;have j:=M3.hi 3;go_wp2_with fail;refine(HP _ q1 c1 M3.ext (M3.sq 0)).mono ?_;rintro e w4 ⟨q2,c2,rfl,x,ae⟩;have M4:=(M3.call ae x)
 clear M3 i j ae x;have k:=M4.hi 3;have l:=M4.hi 4;go_upto_region 7 with fail;obtain⟨gV,b⟩: ∃gV,gV=w4.heap.size:=⟨_,rfl⟩
 rw[←b];have M5:=(M4.blkNew TH3 #[aA,aB,.slice q2 n c2] gV b.symm)
 generalize World.alloc _ _=w7 at M5⊢;clear M4 k l b;have m:=M5.hi 0;have o:=M5.hi 4;have r:=M5.hi 5;obtain⟨h0,h1,h2⟩:=(M5.bk 5).tri;go_wp2_with fail;clear h0 h1 h2;refine(HL _ M5.ext).mono ?_;rintro e w6 ⟨q0,c0,rfl,y,af⟩;have M6:=(M5.call af y)
 clear M5 m o r af y;have ag:=M6.hi 1;have ah:=M6.hi 5;have ai:=M6.hi 6;obtain⟨z0,aj,z1,ak,z2,al⟩:=(M6.bk 5).trif;go_wp2;have M7:=((M6.st 5 0 (.int .i64 aA)).st 5 1 (.int .i64 aB))
 have M8:=(M7.st 5 2 (.slice q0 n c0))
 clear z0 aj z1 ak z2 al;have M9:=(show Mem w (((w6.setCell ⟨w.heap.size+1,0,none⟩ (.int .i64 aA)).setCell ⟨w.heap.size+1,1,none⟩ (.int .i64 aB)).setCell ⟨w.heap.size+1,2,none⟩ (.slice q0 n c0)) [aJ w.heap.size TI 1 (q0) (n) (c0) (ivs xs),aI w.heap.size (gV) TH3 #[aA,aB,.slice q2 n c2],aJ w.heap.size TI 1 (q2) (n) (c2) (ivs zs),aJ w.heap.size TI 1 (q1) (n) (c1) (ivs ys),aJ w.heap.size TSL 2 (qs) (K) (cs) (sl.flatMap aK),aI w.heap.size (w.heap.size+1) TH3 #[aA,aB,.slice q0 n c0],aI w.heap.size (w.heap.size) TH3 #[aA,aB,.slice p n a]]from M8)
 generalize z:World.setCell _ _ _=wz;rw[z]at M9;clear z M6 M7 M8;obtain⟨y0,y1,y2⟩:=(M9.bk 5).tri;exact bodyPost_ret (v:= .tuple #[.agg #[aA,aB,.slice q0 n c0],(-1:Int)]) (by simp[results,Tryz.results96,go_sem, *]) rfl (eH s.out (M9.ow 0) M9.ext)
theorem aAi (aA aB id:Int)(p:OA)(n a K:Nat)(ys zs:List Int)(sl:List Sl2)(w:World)(r:Hid (zs.length=n))
  (HV:xB 53 #[aH aA aB p n a] w true)
  (HC:xC 142 #[aH aA aB p n a] w fun w' e w''=> ∃q c,e= .returned (.tuple #[.slice q K c,.bool true])∧w''.ownsRow w'.heap.size TSL 2 (.slice q K c) K (sl.flatMap aK)∧Ext w' w'')
  (HR:Hid (∀w' q c,Ext w w'→Sl w' q K c 2 (sl.flatMap aK)→Calls Tryz.prog 144 #[aH aA aB p n a,.slice q K c] w' fun e w''=> ∃q c,e= .returned (aH aA aB q n c)∧w''.ownsRow w'.heap.size TI 1 (.slice q n c) n (ivs ys)∧Ext w' w''))
  (HP:Hid (∀w' q c,Ext w w'→Sl w' q n c 1 (ivs ys)→Calls Tryz.prog 143 #[aH aA aB q n c,(),id] w' fun e w''=> ∃q c,e= .returned (.tuple #[aH aA aB q n c,.bool true])∧w''.ownsRow w'.heap.size TI 1 (.slice q n c) n (ivs zs)∧Ext w' w'')):
  Calls Tryz.prog 96 #[aH aA aB p n a,id] w (cN aA aB zs (K:Int) w):=by
 go_enter Tryz.func96,Tryz.ntmps96;go_wp2_with fail;refine(HV _ (((Mem.start w).c0 TH3 #[aA,aB,.slice p n a]).c1 TH3 #[(),(),((),())]).ext).mono ?_;rintro e w1 ⟨rfl,y⟩;have M1:=((((Mem.start w).c0 TH3 #[aA,aB,.slice p n a]).c1 TH3 #[(),(),((),())]).adv y)
 have g:=M1.hi 0;have h:=M1.hi 1;clear y;obtain⟨h0,h1,h2⟩:=(M1.bk 1).tri;go_wp2_with fail;clear h0 h1 h2;refine(HC _ M1.ext).mono ?_;rintro e w2 ⟨qs,cs,rfl,s,z⟩;have M2:=(M1.call z s)
 clear M1 g h z s;have i:=M2.hi 1;have j:=M2.hi 2;obtain⟨h0,h1,h2⟩:=(M2.bk 2).tri;go_wp2_with fail;clear h0 h1 h2;refine(HR _ qs cs M2.ext (M2.sq 0)).mono ?_;rintro e w3 ⟨q1,c1,rfl,t,aa⟩;have M3:=(M2.call aa t)
 clear M2 i j aa t;have k:=M3.hi 2;have l:=M3.hi 3;go_wp2_with fail;refine(HP _ q1 c1 M3.ext (M3.sq 0)).mono ?_;rintro e w4 ⟨q2,c2,rfl,u,ab⟩;have M4:=(M3.call ab u)
 clear M3 k l ab u;have m:=M4.hi 3;have o:=M4.hi 4;go_upto_region 7 with fail;obtain⟨gV,f⟩: ∃gV,gV=w4.heap.size:=⟨_,rfl⟩
 rw[←f];have M5:=(M4.blkNew TH3 #[aA,aB,.slice q2 n c2] gV f.symm)
 generalize World.alloc _ _=w7 at M5⊢;clear M4 m o f;have ad:=M5.hi 0;have ae:=M5.hi 4;have af:=M5.hi 5;obtain⟨v0,v1,v2⟩:=(M5.bk 0).tri;obtain⟨z0,ag,z1,ah,z2,ai⟩:=(M5.bk 4).trif;obtain⟨b,d⟩:=M5.nq 0 4;go_wp2;have M6:=((M5.st 4 0 (.int .i64 aA)).st 4 1 (.int .i64 aB))
 have M7:=(M6.st 4 2 (.slice q2 n c2))
 clear v0 v1 v2 z0 ag z1 ah z2 ai b d;have M8:=(show Mem w (((w7.setCell ⟨w.heap.size+1,0,none⟩ (.int .i64 aA)).setCell ⟨w.heap.size+1,1,none⟩ (.int .i64 aB)).setCell ⟨w.heap.size+1,2,none⟩ (.slice q2 n c2)) [aI w.heap.size (gV) TH3 #[aA,aB,.slice q2 n c2],aJ w.heap.size TI 1 (q2) (n) (c2) (ivs zs),aJ w.heap.size TI 1 (q1) (n) (c1) (ivs ys),aJ w.heap.size TSL 2 (qs) (K) (cs) (sl.flatMap aK),aI w.heap.size (w.heap.size+1) TH3 #[aA,aB,.slice q2 n c2],aI w.heap.size (w.heap.size) TH3 #[aA,aB,.slice p n a]]from M7)
 generalize x:World.setCell _ _ _=wz;rw[x]at M8;clear x M5 M6 M7;obtain⟨y0,y1,y2⟩:=(M8.bk 4).tri;exact bodyPost_ret (v:= .tuple #[.agg #[aA,aB,.slice q2 n c2],(K:Int)]) (by simp[results,Tryz.results96,go_sem, *]) rfl (eH r.out (M8.ow 1) M8.ext)
theorem pI {aA aB:Int}: ∀(l:List Sl2) (xs ys:List Int),aY aA aB xs l=(ys,l.length)→eE aA aB xs l=ys
 | [],xs,ys,h=>by simp only[aY,Prod.mk.injEq]at h;exact h.1
 |s::l,xs,ys,h=>by
  show eE aA aB (bH aA aB xs s.1 s.2) l=ys;cases hm:bB aA aB xs s.1 s.2 with
  |false=>rw[jJ hm]at h;simp at h
  |true=>rw[eD hm]at h;simp only[Prod.mk.injEq,List.length_cons]at h;exact pI l _ ys (Prod.ext h.1 (by have:=h.2;dsimp only;omega))
theorem aFt (aA aB id:Int)(p:OA)(n a:Nat)(xs:List Int)(w:World)(hS:Sl w p n a 1 (ivs xs))(b:aM aA aB xs=true):
  Calls Tryz.prog 96 #[aH aA aB p n a,id] w (cN aA aB (cG aA aB xs id).1 (cG aA aB xs id).2 w):=by
 have hl:=hS.ilen;subst hl;obtain⟨g1,g2,g3,g4,g5,g6,g7⟩:=bZ (cM b);have HV: ∀w',Ext w w'→Calls Tryz.prog 53 #[aH aA aB p xs.length a] w' fun e w''=>e= .returned (.bool true)∧Ext w' w'':=fun w' hy=>by have:=fI aA aB p xs.length a xs w' (hS.ext hy);rwa[b]at this
 have HL:=fun(w':World) (hy:Ext w w')=>kN aA aB p xs.length a xs w' (by omega) (hS.ext hy)
 have HC:=fun(w':World) (hy:Ext w w')=>aL8 aA aB p xs.length a xs w' (hS.ext hy) b
 cases hr:gJ aA xs with
 |none=>
  have e:cG aA aB xs id=(xs,-1):=by unfold cG kW;rw[hr]
  rw[e];rw[hr]at HC;exact yH aA aB id p xs.length a xs w rfl HV HC HL
 |some r=>
  rw[hr]at HC;obtain⟨f1,f2,f3,f4,f5⟩:=nN b hr;have d:eE aA aB xs r.2=r.1:=pI _ _ _ f1;have HR: ∀w' q c,Ext w w'→Sl w' q r.2.length c 2 (r.2.flatMap aK)→Calls Tryz.prog 144 #[aH aA aB p xs.length a,.slice q r.2.length c] w' fun e w''=> ∃q c,e= .returned (aH aA aB q xs.length c)∧w''.ownsRow w'.heap.size TI 1 (.slice q xs.length c) xs.length (ivs r.1)∧Ext w' w'':=fun w' q c hy hL=>by have:=wP aA aB p xs.length a xs q r.2.length c r.2 w' rfl (hS.ext hy) b hL;rw[d]at this;unfold cY at this;rw[f3]at this;exact this
  have HP: ∀w' q c,Ext w w'→Sl w' q xs.length c 1 (ivs r.1)→Calls Tryz.prog 143 #[aH aA aB q xs.length c,(),id] w' fun e w''=> ∃q c,e= .returned (.tuple #[aH aA aB q xs.length c,.bool (cR aA aB r.1 id).2])∧w''.ownsRow w'.heap.size TI 1 (.slice q xs.length c) xs.length (ivs (cR aA aB r.1 id).1)∧Ext w' w'':=fun w' q c hy hL=>by have:=aL5 aA aB id q xs.length c r.1 w' hL f2;unfold cO at this;rw[lB,f3]at this;exact this
  cases hb:(cR aA aB r.1 id).2 with
  |false=>
   have e:cG aA aB xs id=(xs,-1):=by simp[cG,kW,hr,hb]
   rw[e];rw[hb]at HP;exact aD0 aA aB id p xs.length a r.2.length xs r.1 (cR aA aB r.1 id).1 r.2 w rfl HV HC HR HP HL
  |true=>
   have e:cG aA aB xs id=((cR aA aB r.1 id).1,(r.2.length:Int)):=by simp[cG,kW,hr,hb]
   rw[e];rw[hb]at HP;exact aAi aA aB id p xs.length a r.2.length r.1 (cR aA aB r.1 id).1 r.2 w (show _=_ by rw[lB,f3]) HV HC HR HP
theorem aCf (id:Int)(p:OA)(n c:Nat)(xs:List Int)(w:World)(hS:Sl w p n c 1 (ivs xs)):
  Calls Tryz.prog 217 #[.slice p n c,id] w fun e w'=>e= .returned (.int .i64 (mY xs id))∧Ext w w':=by
 have f:=hS.bd;have HS:=xQ hS;have hl:=xQ hS.ilen;clear hS;go_enter Tryz.func217,Tryz.ntmps217;go_wp2;go_loop [8] (fun i=> ∃k:Nat,k≤n∧i= .int .i64 k∧id∉xs.take k) (fun i=>n-(intOf i).toNat)
 case atStart=>exact⟨0,Nat.zero_le _,rfl,by simp⟩
 case round=>
  obtain⟨k,hk,rfl,hc⟩:=hrel;have HC:=xQ hc;clear hc;by_cases hlt:k<n
  ·obtain⟨b,g,y,rfl,hx,hb,d⟩:=HS.out.int_at hlt;have HX:=xQ hx;clear hx;by_cases hy:y=id
   ·have t1:(id==y)=true:=by simp[hy]
    have a:Hid (mY xs id=k):=qF (by rw[HX.out,hy]) HC.out;clear hy;go_wp2;go_ret;exact⟨fC a.out.symm,by exact .refl _⟩
   have t1:(id==y)=false:=by simp;exact fun e=>hy e.symm
   have a:Hid (id∉xs.take (k+1)):=by show _∉_;rw[bA HX.out,List.mem_append,List.mem_singleton];exact fun h=>h.elim HC (fun e=>hy e.symm)
   clear hy;go_wp2;go_round
   case rel=>exact⟨k+1,by omega,by go_num,a.out⟩
   case measure=>simp[intOf];omega
  have a:Hid (mY xs id= -1):=rI (by have:=HC.out;rwa[List.take_of_length_le (by rw[hl.out];omega)]at this);go_wp2;go_ret;exact⟨fC a.out.symm,by exact .refl _⟩
theorem vM (aA aB id:Int)(p:OA)(n a:Nat)(b:Bool)(w:World)(hb:b=false∨b=true∧id<1)(HV:xB 53 #[aH aA aB p n a] w b):
  Calls Tryz.prog 190 #[aH aA aB p n a,id] w fun e w'=>e= .returned (.int .i64 (-1))∧Ext w w':=by
 rcases hb with rfl|⟨rfl,hi⟩
 all_goals
  go_enter Tryz.func190,Tryz.ntmps190;go_wp2_with fail;refine(HV _ (by exact .alloc (.refl _) _)).mono ?_;rintro e w1 ⟨rfl,c⟩;go_wp2;go_ret;exact⟨rfl,by exact .trans (.alloc (.refl _) _) c⟩
theorem yK (aA aB id:Int)(p:OA)(n a:Nat)(xs:List Int)(w:World)(hi:1≤id)(HI:xC 217 #[.slice p n a,id] w fun w' e w''=>e= .returned (.int .i64 (mY xs id))∧Ext w' w'')(HV:xB 53 #[aH aA aB p n a] w true):
  Calls Tryz.prog 190 #[aH aA aB p n a,id] w fun e w'=>e= .returned (.int .i64 (mY xs id))∧Ext w w':=by
 go_enter Tryz.func190,Tryz.ntmps190;go_wp2_with fail;refine(HV _ (by exact .alloc (.refl _) _)).mono ?_;rintro e w1 ⟨rfl,b⟩;have hB:=(Blk.new w TH3 #[aA,aB,.slice p n a]).ext b;have X1:=xQ (show Ext w w1 by exact .trans (.alloc (.refl _) _) b);obtain⟨b0,b1,b2⟩:=hB.cells3;have d:w.heap.size<w1.heap.size:=hB.lt;clear b hB;go_wp2_with fail;refine(HI _ X1.out).mono ?_;rintro e w2 ⟨rfl,c⟩;have X2:=X1.out.trans c;go_wp2;go_ret;exact⟨rfl,X2⟩
theorem wO (aA aB id:Int)(p:OA)(n a:Nat)(xs:List Int)(w:World)(hS:Sl w p n a 1 (ivs xs)):
  Calls Tryz.prog 190 #[aH aA aB p n a,id] w fun e w'=>e= .returned (.int .i64 (gS aA aB xs id))∧Ext w w':=by
 have HV:=fun(w':World) (hx:Ext w w')=>fI aA aB p n a xs w' (hS.ext hx)
 unfold gS;by_cases h:aM aA aB xs=true∧1≤id
 ·rw[if_pos h];rw[h.1]at HV;exact yK aA aB id p n a xs w h.2 (xQ fun w' hx=>aCf id p n a xs w' (hS.ext hx)) (xQ HV)
 rw[if_neg h];refine vM aA aB id p n a (aM aA aB xs) w ?_ (xQ HV);cases hh:aM aA aB xs with
 |false=>exact .inl rfl
 |true=>
  refine .inr ⟨rfl,?_⟩;by_cases h1:1≤id
  ·exact absurd ⟨hh,h1⟩ h
  omega
theorem aLa (aA aB:Int)(c:Nat)(id:Int)(p:OA)(n b:Nat)(xs:List Int)(w:World)(hS:Sl w p n b 1 (ivs xs))(a:aM aA aB xs=true)(hc:xs[c]? =some id) (h0:id≠0) (hE:BitTab w):
  Calls Tryz.prog 191 #[aH aA aB p n b,(c:Int)] w (iW (dH aA xs c) w):=by
 have hl:=hS.ilen;subst hl;obtain⟨g1,g2,g3,g4,g5,g6,g7,g8,g9⟩:=bM a;have g:(2:Nat) ^ xs.length≤4096:=Nat.le_trans (Nat.pow_le_pow_right (by omega) g6) (by decide);have i:=Nat.two_pow_pos xs.length;have m:=(List.getElem?_eq_some_iff.1 hc).1;have hN:xs.length*2 ^ xs.length≤12*4096:=Nat.mul_le_mul g6 g;have hC:c*2 ^ xs.length≤12*4096:=Nat.mul_le_mul (by omega) g;have l:xs.length≤xs.length*2 ^ xs.length:=Nat.le_mul_of_pos_right _ i;obtain⟨p1,p2,p3⟩:=qV a hc h0;have hD:=kS (aA:=aA) (many:=(bJ xs).length) g6;have h:=(qJ g5 g6 hD).bd;obtain⟨pb,po,rfl,hb,j⟩:=hS.rd (by omega);have f: ∀(k:Nat) (B:List Int) (Q:List Nat),aJg aA xs c k B Q→SOk (xs.length*2 ^ xs.length) B Q:=fun k B Q hr=>(hr.ok p1 h).1
 refine aIq aA aB pb po xs.length b (xs.length*2 ^ xs.length) (2 ^ xs.length) c (c*2 ^ xs.length) (eN xs.length (st0 xs c)) xs (cP xs) (fun u=>mR aA xs.length (2 ^ xs.length) u) w g5 g6 rfl hb hE (by omega) l hC rfl rfl rfl rfl p1 (by simp) ?_ ?_ (fun k x hx=> ?_) rfl (fun k x hx=> ?_) (fun k hk w' hx=> ?_) (fun u v hu hv=>h u v hu hv) (fun k B Q hr=>f k B Q hr) (fun k u B Q hr hu hz=> ?_) (fun k B Q hr hk=>aCe a g5 g6 hc h0 hr hk)
 ·have e:(c:Int)*((2 ^ xs.length:Nat):Int)=((c*2 ^ xs.length:Nat):Int):=by push_cast;rfl
  rw[e];exact IntWalk.i64_in _ (by omega)
 ·have e:(xs.length:Int)*((2 ^ xs.length:Nat):Int)=((xs.length*2 ^ xs.length:Nat):Int):=by push_cast;rfl
  rw[e];exact IntWalk.i64_in _ (by omega)
 ·have hk:=(List.getElem?_eq_some_iff.1 hx).1;rw[fH hk,List.getD_eq_getElem?_getD,hx];rfl
 ·have hk:=(List.getElem?_eq_some_iff.1 hx).1;rw[j k (by omega)];simp only[ivs,List.getElem?_map,hx,Option.map_some]
 ·have:=aDh aA aB k _ xs.length b xs w' (hS.ext hx) a (by omega) (by omega);rwa[kH]at this
 obtain⟨d,hd⟩:=aA4 a g5 g6 hc h0 hr hu hz;exact⟨d,_,_,hd.d60,hd.trail g6 (f k B Q hr).len,rfl,hd.last.symm,hd.way⟩
theorem aGa (aA aB id:Int)(p:OA)(n a:Nat)(w:World)
  (HF:xC 190 #[aH aA aB p n a,id] w fun w' e w''=>e= .returned (.int .i64 (-1))∧Ext w' w''):
  Calls Tryz.prog 148 #[aH aA aB p n a,id] w (iW none w):=by
 go_enter Tryz.func148,Tryz.ntmps148;go_wp2_with fail;refine(HF _ ((Mem.start w).c0 TH3 #[aA,aB,.slice p n a]).ext).mono ?_;rintro e w1 ⟨rfl,b⟩;have M1:=(((Mem.start w).c0 TH3 #[aA,aB,.slice p n a]).adv b)
 have c:=M1.hi 0;clear b;have HX:=xQ (M1.ext);go_wp2;exact bodyPost_ret (v:= .tuple #[((),()),.bool false]) (by simp[results,Tryz.results148,go_sem, *]) rfl ⟨_,rfl,HX.out⟩
theorem aDi (aA aB id:Int)(c:Nat)(p:OA)(n a:Nat)(r:Option (List Sl2))(w:World)
  (HF:xC 190 #[aH aA aB p n a,id] w fun w' e w''=>e= .returned (.int .i64 (c:Int))∧Ext w' w'')
  (HB:Hid (∀w',Ext w w'→Calls Tryz.prog 191 #[aH aA aB p n a,(c:Int)] w' (iW r w'))):
  Calls Tryz.prog 148 #[aH aA aB p n a,id] w (iW r w):=by
 have t0: ¬((c:Int)<0):=by omega
 go_enter Tryz.func148,Tryz.ntmps148;go_wp2_with fail;refine(HF _ ((Mem.start w).c0 TH3 #[aA,aB,.slice p n a]).ext).mono ?_;rintro e w1 ⟨rfl,f⟩;have M1:=(((Mem.start w).c0 TH3 #[aA,aB,.slice p n a]).adv f)
 have g:=M1.hi 0;clear f;obtain⟨h0,h1,h2⟩:=(M1.bk 0).tri;go_wp2_with fail;clear h0 h1 h2;have HX:=xQ (M1.ext);refine(HB _ HX.out).mono ?_;intro e w9 hr;have d:=xQ hr;clear hr HB;cases r with
 |none=>obtain⟨v,rfl,b⟩:=d.out;go_wp2;exact bodyPost_ret (v:= .tuple #[v,.bool false]) (by simp[results,Tryz.results148,go_sem, *]) rfl ⟨_,rfl,HX.out.trans b⟩
 |some l=>obtain⟨q9,c9,rfl,o9,b⟩:=d.out;go_wp2;exact bodyPost_ret (v:= .tuple #[.slice q9 l.length c9,.bool true]) (by simp[results,Tryz.results148,go_sem, *]) rfl ⟨q9,c9,rfl,bE o9 HX.out.sz,HX.out.trans b⟩
theorem uK (aA aB id:Int)(p:OA)(n a:Nat)(xs:List Int)(w:World)(h:Hid (xs.length=n))
  (HV:xB 53 #[aH aA aB p n a] w true)
  (HB:xC 148 #[aH aA aB p n a,id] w fun w' e w''=> ∃v,e= .returned (.tuple #[v,.bool false])∧Ext w' w'')
  (HL:xC 79 #[aH aA aB p n a] w fun w' e w''=> ∃q c,e= .returned (aH aA aB q n c)∧w''.ownsRow w'.heap.size TI 1 (.slice q n c) n (ivs xs)∧Ext w' w''):
  Calls Tryz.prog 100 #[aH aA aB p n a,id] w (cN aA aB xs (-1) w):=by
 go_enter Tryz.func100,Tryz.ntmps100;go_wp2_with fail;refine(HV _ (((Mem.start w).c0 TH3 #[aA,aB,.slice p n a]).c1 TH3 #[(),(),((),())]).ext).mono ?_;rintro e w1 ⟨rfl,k⟩;have M1:=((((Mem.start w).c0 TH3 #[aA,aB,.slice p n a]).c1 TH3 #[(),(),((),())]).adv k)
 have b:=M1.hi 0;have d:=M1.hi 1;clear k;obtain⟨h0,h1,h2⟩:=(M1.bk 1).tri;go_wp2_with fail;clear h0 h1 h2;refine(HB _ M1.ext).mono ?_;rintro e w2 ⟨v,rfl,l⟩;have M2:=(M1.adv l)
 clear M1 b d l;have f:=M2.hi 0;have g:=M2.hi 1;obtain⟨h0,h1,h2⟩:=(M2.bk 1).tri;go_wp2_with fail;clear h0 h1 h2;refine(HL _ M2.ext).mono ?_;rintro e w3 ⟨q0,c0,rfl,i,m⟩;have M3:=(M2.call m i)
 clear M2 f g m i;have o:=M3.hi 1;have r:=M3.hi 2;obtain⟨z0,s,z1,t,z2,u⟩:=(M3.bk 1).trif;go_wp2;have M4:=((M3.st 1 0 (.int .i64 aA)).st 1 1 (.int .i64 aB))
 have M5:=(M4.st 1 2 (.slice q0 n c0))
 clear z0 s z1 t z2 u;have M6:=(show Mem w (((w3.setCell ⟨w.heap.size+1,0,none⟩ (.int .i64 aA)).setCell ⟨w.heap.size+1,1,none⟩ (.int .i64 aB)).setCell ⟨w.heap.size+1,2,none⟩ (.slice q0 n c0)) [aJ w.heap.size TI 1 (q0) (n) (c0) (ivs xs),aI w.heap.size (w.heap.size+1) TH3 #[aA,aB,.slice q0 n c0],aI w.heap.size (w.heap.size) TH3 #[aA,aB,.slice p n a]]from M5)
 generalize j:World.setCell _ _ _=wz;rw[j]at M6;clear j M3 M4 M5;obtain⟨y0,y1,y2⟩:=(M6.bk 1).tri;exact bodyPost_ret (v:= .tuple #[.agg #[aA,aB,.slice q0 n c0],(-1:Int)]) (by simp[results,Tryz.results100,go_sem, *]) rfl (eH h.out (M6.ow 0) M6.ext)
theorem aAr (aA aB id:Int)(p:OA)(n a K:Nat)(y0:Int)(ys:List Int)(sl:List Sl2)(w:World)(aw:0<n)(ab:Hid (ys.length=n))(ak:Hid (ys[0]? =some y0))
  (HV:xB 53 #[aH aA aB p n a] w true)
  (HB:xC 148 #[aH aA aB p n a,id] w fun w' e w''=> ∃q c,e= .returned (.tuple #[.slice q K c,.bool true])∧w''.ownsRow w'.heap.size TSL 2 (.slice q K c) K (sl.flatMap aK)∧Ext w' w'')
  (HR:Hid (∀w' q c,Ext w w'→Sl w' q K c 2 (sl.flatMap aK)→Calls Tryz.prog 144 #[aH aA aB p n a,.slice q K c] w' fun e w''=> ∃q c,e= .returned (aH aA aB q n c)∧w''.ownsRow w'.heap.size TI 1 (.slice q n c) n (ivs ys)∧Ext w' w'')):
  Calls Tryz.prog 100 #[aH aA aB p n a,id] w (cN aA aB (ys.set 0 0) (K:Int) w):=by
 go_enter Tryz.func100,Tryz.ntmps100;go_wp2_with fail;refine(HV _ (((Mem.start w).c0 TH3 #[aA,aB,.slice p n a]).c1 TH3 #[(),(),((),())]).ext).mono ?_;rintro e w1 ⟨rfl,ah⟩;have M1:=((((Mem.start w).c0 TH3 #[aA,aB,.slice p n a]).c1 TH3 #[(),(),((),())]).adv ah)
 have l:=M1.hi 0;have m:=M1.hi 1;clear ah;obtain⟨h0,h1,h2⟩:=(M1.bk 1).tri;go_wp2_with fail;clear h0 h1 h2;refine(HB _ M1.ext).mono ?_;rintro e w2 ⟨qs,cs,rfl,ad,ai⟩;have M2:=(M1.call ai ad)
 clear M1 l m ai ad;have o:=M2.hi 1;have r:=M2.hi 2;obtain⟨h0,h1,h2⟩:=(M2.bk 2).tri;go_wp2_with fail;clear h0 h1 h2;refine(HR _ qs cs M2.ext (M2.sq 0)).mono ?_;rintro e w3 ⟨q1,c1,rfl,ae,aj⟩;have M3:=(M2.call aj ae)
 clear M2 o r aj ae;have s:=M3.hi 2;have t:=M3.hi 3;obtain⟨g,rfl,am,an⟩:=M3.so 0;clear am an;go_upto_region 7 with fail;obtain⟨gV,k⟩: ∃gV,gV=w3.heap.size:=⟨_,rfl⟩
 rw[←k];have M4:=(M3.blkNew TH3 #[aA,aB,.slice (some ⟨g,0,none⟩) n c1] gV k.symm)
 generalize World.alloc _ _=w7 at M4⊢;clear M3 s t k;have u:=M4.hi 0;have x:=M4.hi 3;have y:=M4.hi 4;obtain⟨v0,v1,v2⟩:=(M4.bk 0).tri;have gi:w7.cell? ⟨g,0,none⟩=some (.int .i64 y0):=by have:=(M4.ow 1).cellAt 0 (by omega);rw[this];simpa[ivs]using ak.out
 have al:w7.frozen? ⟨g,0,none⟩=false:=(M4.ow 1).frozenAt 0;obtain⟨d,f⟩:=M4.nq 0 1;go_upto_region 8 with fail;clear v0 v1 v2 d f gi al;have MX:=(show Mem w (w7.setCell ⟨g,0,none⟩ (.int .i64 0)) [aI w.heap.size (gV) TH3 #[aA,aB,.slice (some ⟨g,0,none⟩) n c1],aJ w.heap.size TI 1 (some ⟨g,0,none⟩) (n) (c1) (ivs (ys.set 0 0)),aJ w.heap.size TSL 2 (qs) (K) (cs) (sl.flatMap aK),aI w.heap.size (w.heap.size+1) TH3 #[(),(),((),())],aI w.heap.size (w.heap.size) TH3 #[aA,aB,.slice p n a]]from by rw[←dR];exact M4.ostore (i:=1) rfl 0 (.int .i64 0))
 generalize af:World.setCell _ _ _=w8;rw[af]at MX;clear af M4 u x y;have ao:gV<w8.heap.size:=(MX.hi 0)
 have ap:w.heap.size+1<w8.heap.size:=(MX.hi 3)
 have aq:w.heap.size<w8.heap.size:=(MX.hi 4)
 obtain⟨v0,v1,v2⟩:=(MX.bk 0).tri;obtain⟨z0,ar,z1,au,z2,av⟩:=(MX.bk 3).trif;obtain⟨h,j⟩:=MX.nq 0 3;go_wp2;have z:=((MX.st 3 0 (.int .i64 aA)).st 3 1 (.int .i64 aB))
 have aa:=(z.st 3 2 (.slice (some ⟨g,0,none⟩) n c1))
 clear v0 v1 v2 z0 ar z1 au z2 av h j;have b:=(show Mem w (((w8.setCell ⟨w.heap.size+1,0,none⟩ (.int .i64 aA)).setCell ⟨w.heap.size+1,1,none⟩ (.int .i64 aB)).setCell ⟨w.heap.size+1,2,none⟩ (.slice (some ⟨g,0,none⟩) n c1)) [aI w.heap.size (gV) TH3 #[aA,aB,.slice (some ⟨g,0,none⟩) n c1],aJ w.heap.size TI 1 (some ⟨g,0,none⟩) (n) (c1) (ivs (ys.set 0 0)),aJ w.heap.size TSL 2 (qs) (K) (cs) (sl.flatMap aK),aI w.heap.size (w.heap.size+1) TH3 #[aA,aB,.slice (some ⟨g,0,none⟩) n c1],aI w.heap.size (w.heap.size) TH3 #[aA,aB,.slice p n a]]from aa)
 generalize ag:World.setCell _ _ _=wz;rw[ag]at b;clear ag MX z aa;obtain⟨y0,y1,y2⟩:=(b.bk 3).tri;exact bodyPost_ret (v:= .tuple #[.agg #[aA,aB,.slice (some ⟨g,0,none⟩) n c1],(K:Int)]) (by simp[results,Tryz.results100,go_sem, *]) rfl (eH (by rw[List.length_set];exact ab.out) (b.ow 1) b.ext)
theorem aG6 (aA aB id:Int)(p:OA)(n a:Nat)(xs:List Int)(w:World)(hS:Sl w p n a 1 (ivs xs))(b:aM aA aB xs=true)(hE:BitTab w):
  Calls Tryz.prog 100 #[aH aA aB p n a,id] w (cN aA aB (bR aA aB xs id).1 (bR aA aB xs id).2 w):=by
 have hl:=hS.ilen;subst hl;obtain⟨g1,g2,g3,g4,g5,g6,g7⟩:=bZ (cM b);have HV: ∀w',Ext w w'→Calls Tryz.prog 53 #[aH aA aB p xs.length a] w' fun e w''=>e= .returned (.bool true)∧Ext w' w'':=fun w' hy=>by have:=fI aA aB p xs.length a xs w' (hS.ext hy);rwa[b]at this
 have HL:=fun(w':World) (hy:Ext w w')=>kN aA aB p xs.length a xs w' (by omega) (hS.ext hy)
 by_cases hno:id<1∨id∉xs
 ·have e:bR aA aB xs id=(xs,-1):=by unfold bR kA;rw[if_pos hno]
  rw[e];refine uK aA aB id p xs.length a xs w rfl HV (fun w' hy=> ?_) HL;refine aGa aA aB id p xs.length a w' (fun w2 hy2=> ?_);have:=wO aA aB id p xs.length a xs w2 (hS.ext (hy.trans hy2));rwa[aEg hno]at this
 have g:1≤id:=by omega
 have hm:id∈xs:=by
  by_cases hm:id∈xs
  ·exact hm
  exact absurd (.inr hm) hno
 obtain⟨c,hc,d⟩:=qE hm;have hf:gS aA aB xs id=(c:Int):=by unfold gS;rw[if_pos ⟨b,g⟩];exact d
 have HB: ∀w',Ext w w'→Calls Tryz.prog 148 #[aH aA aB p xs.length a,id] w' (iW (dH aA xs c) w'):=fun w' hy=>by refine aDi aA aB id c p xs.length a _ w' (fun w2 hy2=> ?_) (fun w2 hy2=>aLa aA aB c id p xs.length a xs w2 (hS.ext (hy.trans hy2)) b hc (by omega) (hE.ext (hy.trans hy2)));have:=wO aA aB id p xs.length a xs w2 (hS.ext (hy.trans hy2));rwa[hf]at this
 have f:(mY xs id).toNat=c:=by rw[d];simp
 cases hb:dH aA xs c with
 |none=>
  have e:bR aA aB xs id=(xs,-1):=by unfold bR kA;rw[if_neg hno,f,hb];rfl
  rw[e];rw[hb]at HB;exact uK aA aB id p xs.length a xs w rfl HV HB HL
 |some l=>
  obtain⟨b1,ys,b2,b3,b4,b5⟩:=(lG b hc (by omega)).2 l hb;have e:bR aA aB xs id=(ys.set 0 0,(l.length:Int)):=by unfold bR kA;rw[if_neg hno,f,hb];simp[b2]
  rw[e];rw[hb]at HB;have h:eE aA aB xs l=ys:=pI _ _ _ b2;refine aAr aA aB id p xs.length a l.length id ys l w (by omega) b4 b5 HV HB (fun w' q c' hy hL=> ?_);have:=wP aA aB p xs.length a xs q l.length c' l w' rfl (hS.ext hy) b hL;rw[h]at this;unfold cY at this;rw[b4]at this;exact this
end Go.Proofs.YtpelpnfhbepokaaGreatDoor
