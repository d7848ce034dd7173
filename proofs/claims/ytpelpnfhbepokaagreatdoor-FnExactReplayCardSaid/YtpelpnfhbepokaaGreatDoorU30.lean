/-
  Texts of this proof, packed (@packed).
-/
import Derived.Test.YtpelpnfhbepokaaGreatDoorU2
import Derived.Test.YtpelpnfhbepokaaGreatDoorU7
import Derived.Test.YtpelpnfhbepokaaGreatDoorU9
import Derived.Test.YtpelpnfhbepokaaGreatDoorU13
import Derived.Test.YtpelpnfhbepokaaGreatDoorU17
import Derived.Test.YtpelpnfhbepokaaGreatDoorU28
import Derived.Test.YtpelpnfhbepokaaGreatDoorU29
namespace Go.Proofs.YtpelpnfhbepokaaGreatDoor
open Go.RowKit
set_option linter.unusedVariables false
set_option linter.unusedSimpArgs false
set_option maxHeartbeats 8000000
set_option maxRecDepth 100000
theorem aHp (aA aB id:Int)(b a cap:Nat)(x:Int)(xs:List Int)(w:World)(ag:4≤xs.length)(hn:xs.length≤12)(ae:Hid (xs[0]? =some x)) (hb:b<w.heap.size) (ad:Hid (w.cell? ⟨b,a,none⟩=some (.int .i64 x))) (af:id<1)
  (HV:xB 53 #[aH aA aB (some ⟨b,a,none⟩) xs.length cap] w true)
  (HK:Hid (∀w',Ext w w'→Calls Tryz.prog 79 #[aH aA aB (some ⟨b,a,none⟩) xs.length cap] w' (dK aA aB xs w'))):
  Calls Tryz.prog 143 #[aH aA aB (some ⟨b,a,none⟩) xs.length cap,(),id] w (cN aA aB xs false w):=by
 have ab:decide (id<1)=true:=by simp;omega
 go_enter Tryz.func143,Tryz.ntmps143;go_wp2_with fail;refine(HV _ (((Mem.start w).c0 TH3 #[aA,aB,.slice (some ⟨b,a,none⟩) xs.length cap]).c1 TH3 #[(),(),((),())]).ext).mono ?_;rintro e w1 ⟨rfl,n⟩;have M1:=((((Mem.start w).c0 TH3 #[aA,aB,.slice (some ⟨b,a,none⟩) xs.length cap]).c1 TH3 #[(),(),((),())]).adv n)
 have h:=M1.hi 0;have i:=M1.hi 1;clear n;obtain⟨h0,h1,h2⟩:=(M1.bk 1).tri;go_wp2_with fail;clear h0 h1 h2;refine(HK _ M1.ext).mono ?_;rintro e w2 ⟨q,c2,rfl,l,o⟩;have M2:=(M1.call o l)
 clear M1 h i o l;have j:=M2.hi 1;have k:=M2.hi 2;obtain⟨g,rfl,p,r⟩:=M2.so 0;clear p r;go_upto_region 4 with fail;obtain⟨gV,f⟩: ∃gV,gV=w2.heap.size:=⟨_,rfl⟩
 rw[←f];have M3:=(M2.blkNew TH3 #[aA,aB,.slice (some ⟨g,0,none⟩) xs.length c2] gV f.symm)
 generalize World.alloc _ _=w4 at M3⊢;clear M2 j k f;have s:=M3.hi 0;have t:=M3.hi 2;have u:=M3.hi 3;obtain⟨v0,v1,v2⟩:=(M3.bk 0).tri;obtain⟨z0,y,z1,z,z2,aa⟩:=(M3.bk 2).trif;obtain⟨c,d⟩:=M3.nq 0 2;go_wp2;have M4:=((M3.st 2 0 (.int .i64 aA)).st 2 1 (.int .i64 aB))
 have M5:=(M4.st 2 2 (.slice (some ⟨g,0,none⟩) xs.length c2))
 have M6:=(show Mem w (((w4.setCell ⟨w.heap.size+1,0,none⟩ (.int .i64 aA)).setCell ⟨w.heap.size+1,1,none⟩ (.int .i64 aB)).setCell ⟨w.heap.size+1,2,none⟩ (.slice (some ⟨g,0,none⟩) xs.length c2)) [aJ w.heap.size (gV) TH3 #[aA,aB,.slice (some ⟨g,0,none⟩) xs.length c2],aI w.heap.size TI 1 (some ⟨g,0,none⟩) (xs.length) (c2) (ivs xs),aJ w.heap.size (w.heap.size+1) TH3 #[aA,aB,.slice (some ⟨g,0,none⟩) xs.length c2],aJ w.heap.size (w.heap.size) TH3 #[aA,aB,.slice (some ⟨b,a,none⟩) xs.length cap]]from M5)
 generalize m:World.setCell _ _ _=wz;rw[m]at M6;clear m M3 M4 M5 v0 v1 v2 z0 y z1 z z2 aa c d;obtain⟨y0,y1,y2⟩:=(M6.bk 2).tri;exact bodyPost_ret (v:= .tuple #[.agg #[aA,aB,.slice (some ⟨g,0,none⟩) xs.length c2],.bool false]) (by simp[results,Tryz.results143,go_sem, *]) rfl (dR (by simp) (by exact(M6.ow 1)) M6.ext)
theorem aCm (aA aB id:Int)(b a cap:Nat)(x:Int)(xs:List Int)(w:World)(ak:4≤xs.length)(hn:xs.length≤12)(ai:Hid (xs[0]? =some x)) (hb:b<w.heap.size) (u:Hid (w.cell? ⟨b,a,none⟩=some (.int .i64 x))) (aj:1≤id) (al:(x !=0)=true)
  (HH:Hid (∀w',Calls Tryz.prog 149 #[aH aA aB (some ⟨b,a,none⟩) xs.length cap,()] w' fun e w''=>e= .returned (.bool true)∧Ext w' w''))
  (HV:xB 53 #[aH aA aB (some ⟨b,a,none⟩) xs.length cap] w true)
  (HK:Hid (∀w',Ext w w'→Calls Tryz.prog 79 #[aH aA aB (some ⟨b,a,none⟩) xs.length cap] w' (dK aA aB xs w'))):
  Calls Tryz.prog 143 #[aH aA aB (some ⟨b,a,none⟩) xs.length cap,(),id] w (cN aA aB xs false w):=by
 have ah:decide (id<1)=false:=by simp;omega
 go_enter Tryz.func143,Tryz.ntmps143;go_wp2_with fail;refine(HV _ (((Mem.start w).c0 TH3 #[aA,aB,.slice (some ⟨b,a,none⟩) xs.length cap]).c1 TH3 #[(),(),((),())]).ext).mono ?_;rintro e w1 ⟨rfl,r⟩;have M1:=((((Mem.start w).c0 TH3 #[aA,aB,.slice (some ⟨b,a,none⟩) xs.length cap]).c1 TH3 #[(),(),((),())]).adv r)
 have h:=M1.hi 0;have i:=M1.hi 1;clear r;obtain⟨h0,h1,h2⟩:=(M1.bk 1).tri;go_wp2_with fail;clear h0 h1 h2;refine(HK _ M1.ext).mono ?_;rintro e w2 ⟨q,c2,rfl,o,s⟩;have M2:=(M1.call s o)
 clear M1 h i s o;have j:=M2.hi 1;have k:=M2.hi 2;obtain⟨g,rfl,y,z⟩:=M2.so 0;clear y z;go_upto_region 4 with fail;obtain⟨gV,f⟩: ∃gV,gV=w2.heap.size:=⟨_,rfl⟩
 rw[←f];have M3:=(M2.blkNew TH3 #[aA,aB,.slice (some ⟨g,0,none⟩) xs.length c2] gV f.symm)
 generalize World.alloc _ _=w4 at M3⊢;clear M2 j k f;have l:=M3.hi 0;have m:=M3.hi 2;have n:=M3.hi 3;obtain⟨h0,h1,h2⟩:=(M3.bk 3).tri;go_wp2_with fail;clear h0 h1 h2;refine(HH _).mono ?_;rintro e w4 ⟨rfl,t⟩;have M4:=(M3.adv t)
 clear M3 l m n t;have aa:=M4.hi 0;have ab:=M4.hi 2;have ad:=M4.hi 3;have cx:w4.cell? ⟨b,a,none⟩=some (.int .i64 x):=(M4.ext.cells.1 _ _ hb).trans u.out;obtain⟨h0,h1,h2⟩:=(M4.bk 3).tri;obtain⟨v0,v1,v2⟩:=(M4.bk 0).tri;obtain⟨z0,ae,z1,af,z2,ag⟩:=(M4.bk 2).trif;obtain⟨c,d⟩:=M4.nq 0 2;go_wp2;have M5:=((M4.st 2 0 (.int .i64 aA)).st 2 1 (.int .i64 aB))
 have M6:=(M5.st 2 2 (.slice (some ⟨g,0,none⟩) xs.length c2))
 have M7:=(show Mem w (((w4.setCell ⟨w.heap.size+1,0,none⟩ (.int .i64 aA)).setCell ⟨w.heap.size+1,1,none⟩ (.int .i64 aB)).setCell ⟨w.heap.size+1,2,none⟩ (.slice (some ⟨g,0,none⟩) xs.length c2)) [aJ w.heap.size (gV) TH3 #[aA,aB,.slice (some ⟨g,0,none⟩) xs.length c2],aI w.heap.size TI 1 (some ⟨g,0,none⟩) (xs.length) (c2) (ivs xs),aJ w.heap.size (w.heap.size+1) TH3 #[aA,aB,.slice (some ⟨g,0,none⟩) xs.length c2],aJ w.heap.size (w.heap.size) TH3 #[aA,aB,.slice (some ⟨b,a,none⟩) xs.length cap]]from M6)
 generalize p:World.setCell _ _ _=wz;rw[p]at M7;clear p M4 M5 M6 v0 v1 v2 z0 ae z1 af z2 ag c d;obtain⟨y0,y1,y2⟩:=(M7.bk 2).tri;exact bodyPost_ret (v:= .tuple #[.agg #[aA,aB,.slice (some ⟨g,0,none⟩) xs.length c2],.bool false]) (by simp[results,Tryz.results143,go_sem, *]) rfl (dR (by simp) (by exact(M7.ow 1)) M7.ext)
theorem aEx (aA aB id:Int)(b a cap:Nat)(x:Int)(xs:List Int)(w:World)(a5:4≤xs.length)(hn:xs.length≤12)(av:Hid (xs[0]? =some x)) (hb:b<w.heap.size) (ar:Hid (w.cell? ⟨b,a,none⟩=some (.int .i64 x))) (a4:1≤id) (a6:(x !=0)=false)
  (HH:Hid (∀w',Calls Tryz.prog 149 #[aH aA aB (some ⟨b,a,none⟩) xs.length cap,()] w' fun e w''=>e= .returned (.bool true)∧Ext w' w''))
  (au:Hid (∀w' q c,Sl w' q xs.length c 1 (ivs (xs.set 0 id))→Calls Tryz.prog 53 #[aH aA aB q xs.length c] w' fun e w''=>e= .returned (.bool true)∧Ext w' w''))
  (HV:xB 53 #[aH aA aB (some ⟨b,a,none⟩) xs.length cap] w true)
  (HK:Hid (∀w',Ext w w'→Calls Tryz.prog 79 #[aH aA aB (some ⟨b,a,none⟩) xs.length cap] w' (dK aA aB xs w'))):
  Calls Tryz.prog 143 #[aH aA aB (some ⟨b,a,none⟩) xs.length cap,(),id] w (cN aA aB (xs.set 0 id) true w):=by
 have a3:decide (id<1)=false:=by simp;omega
 go_enter Tryz.func143,Tryz.ntmps143;go_wp2_with fail;refine(HV _ (((Mem.start w).c0 TH3 #[aA,aB,.slice (some ⟨b,a,none⟩) xs.length cap]).c1 TH3 #[(),(),((),())]).ext).mono ?_;rintro e w1 ⟨rfl,al⟩;have M1:=((((Mem.start w).c0 TH3 #[aA,aB,.slice (some ⟨b,a,none⟩) xs.length cap]).c1 TH3 #[(),(),((),())]).adv al)
 have o:=M1.hi 0;have p:=M1.hi 1;clear al;obtain⟨h0,h1,h2⟩:=(M1.bk 1).tri;go_wp2_with fail;clear h0 h1 h2;refine(HK _ M1.ext).mono ?_;rintro e w2 ⟨q,c2,rfl,ai,am⟩;have M2:=(M1.call am ai)
 clear M1 o p am ai;have r:=M2.hi 1;have s:=M2.hi 2;obtain⟨g,rfl,ax,ay⟩:=M2.so 0;clear ax ay;go_upto_region 4 with fail;obtain⟨gV,n⟩: ∃gV,gV=w2.heap.size:=⟨_,rfl⟩
 rw[←n];have M3:=(M2.blkNew TH3 #[aA,aB,.slice (some ⟨g,0,none⟩) xs.length c2] gV n.symm)
 generalize World.alloc _ _=w4 at M3⊢;clear M2 r s n;have t:=M3.hi 0;have u:=M3.hi 2;have y:=M3.hi 3;obtain⟨h0,h1,h2⟩:=(M3.bk 3).tri;go_wp2_with fail;clear h0 h1 h2;refine(HH _).mono ?_;rintro e w4 ⟨rfl,an⟩;have M4:=(M3.adv an)
 clear M3 t u y an;have z:=M4.hi 0;have aa:=M4.hi 2;have ab:=M4.hi 3;have cx:w4.cell? ⟨b,a,none⟩=some (.int .i64 x):=(M4.ext.cells.1 _ _ hb).trans ar.out;obtain⟨h0,h1,h2⟩:=(M4.bk 3).tri;obtain⟨v0,v1,v2⟩:=(M4.bk 0).tri;have gi:w4.cell? ⟨g,0,none⟩=some (.int .i64 x):=by have:=(M4.ow 1).cellAt 0 (by omega);rw[this];simpa[ivs]using av.out
 have aw:w4.frozen? ⟨g,0,none⟩=false:=(M4.ow 1).frozenAt 0;obtain⟨h,j⟩:=M4.nq 0 1;go_upto_region 7 with fail;clear h0 h1 h2 v0 v1 v2 h j cx gi aw;have MX:=(show Mem w (w4.setCell ⟨g,0,none⟩ (.int .i64 id)) [aJ w.heap.size (gV) TH3 #[aA,aB,.slice (some ⟨g,0,none⟩) xs.length c2],aI w.heap.size TI 1 (some ⟨g,0,none⟩) (xs.length) (c2) (ivs (xs.set 0 id)),aJ w.heap.size (w.heap.size+1) TH3 #[(),(),((),())],aJ w.heap.size (w.heap.size) TH3 #[aA,aB,.slice (some ⟨b,a,none⟩) xs.length cap]]from by rw[←dN];exact M4.ostore (i:=1) rfl 0 (.int .i64 id))
 generalize aj:World.setCell _ _ _=w5;rw[aj]at MX;clear aj M4 z aa ab;have ad:gV<w5.heap.size:=(MX.hi 0)
 have ae:w.heap.size+1<w5.heap.size:=(MX.hi 2)
 have af:w.heap.size<w5.heap.size:=(MX.hi 3)
 obtain⟨v0,v1,v2⟩:=(MX.bk 0).tri;go_wp2_with fail;clear v0 v1 v2;refine(au _ _ _ (by exact(MX.sq 1))).mono ?_;rintro e az ⟨rfl,m⟩;have d:=(MX.adv m)
 clear MX ad ae af m;have ao:=d.hi 0;have ap:=d.hi 2;have aq:=d.hi 3;obtain⟨v0,v1,v2⟩:=(d.bk 0).tri;obtain⟨z0,a0,z1,a1,z2,a2⟩:=(d.bk 2).trif;obtain⟨k,l⟩:=d.nq 0 2;go_wp2;have ag:=((d.st 2 0 (.int .i64 aA)).st 2 1 (.int .i64 aB))
 have ah:=(ag.st 2 2 (.slice (some ⟨g,0,none⟩) xs.length c2))
 have f:=(show Mem w (((az.setCell ⟨w.heap.size+1,0,none⟩ (.int .i64 aA)).setCell ⟨w.heap.size+1,1,none⟩ (.int .i64 aB)).setCell ⟨w.heap.size+1,2,none⟩ (.slice (some ⟨g,0,none⟩) xs.length c2)) [aJ w.heap.size (gV) TH3 #[aA,aB,.slice (some ⟨g,0,none⟩) xs.length c2],aI w.heap.size TI 1 (some ⟨g,0,none⟩) (xs.length) (c2) (ivs (xs.set 0 id)),aJ w.heap.size (w.heap.size+1) TH3 #[aA,aB,.slice (some ⟨g,0,none⟩) xs.length c2],aJ w.heap.size (w.heap.size) TH3 #[aA,aB,.slice (some ⟨b,a,none⟩) xs.length cap]]from ah)
 generalize ak:World.setCell _ _ _=wz;rw[ak]at f;clear ak d ag ah v0 v1 v2 z0 a0 z1 a1 z2 a2 k l;obtain⟨y0,y1,y2⟩:=(f.bk 2).tri;exact bodyPost_ret (v:= .tuple #[.agg #[aA,aB,.slice (some ⟨g,0,none⟩) xs.length c2],.bool true]) (by simp[results,Tryz.results143,go_sem, *]) rfl (dR (by simp) (by exact(f.ow 1)) f.ext)
theorem aEy (aA aB id:Int)(b a cap:Nat)(x:Int)(xs:List Int)(w:World)(a9:4≤xs.length)(hn:xs.length≤12)(az:Hid (xs[0]? =some x)) (hb:b<w.heap.size) (ax:Hid (w.cell? ⟨b,a,none⟩=some (.int .i64 x))) (a8:1≤id) (ba:(x !=0)=false)
  (HH:Hid (∀w',Calls Tryz.prog 149 #[aH aA aB (some ⟨b,a,none⟩) xs.length cap,()] w' fun e w''=>e= .returned (.bool true)∧Ext w' w''))
  (ay:Hid (∀w' q c,Sl w' q xs.length c 1 (ivs (xs.set 0 id))→Calls Tryz.prog 53 #[aH aA aB q xs.length c] w' fun e w''=>e= .returned (.bool false)∧Ext w' w''))
  (HV:xB 53 #[aH aA aB (some ⟨b,a,none⟩) xs.length cap] w true)
  (HK:Hid (∀w',Ext w w'→Calls Tryz.prog 79 #[aH aA aB (some ⟨b,a,none⟩) xs.length cap] w' (dK aA aB xs w'))):
  Calls Tryz.prog 143 #[aH aA aB (some ⟨b,a,none⟩) xs.length cap,(),id] w (cN aA aB xs false w):=by
 have a7:decide (id<1)=false:=by simp;omega
 go_enter Tryz.func143,Tryz.ntmps143;go_wp2_with fail;refine(HV _ (((Mem.start w).c0 TH3 #[aA,aB,.slice (some ⟨b,a,none⟩) xs.length cap]).c1 TH3 #[(),(),((),())]).ext).mono ?_;rintro e w1 ⟨rfl,ap⟩;have M1:=((((Mem.start w).c0 TH3 #[aA,aB,.slice (some ⟨b,a,none⟩) xs.length cap]).c1 TH3 #[(),(),((),())]).adv ap)
 have t:=M1.hi 0;have u:=M1.hi 1;clear ap;obtain⟨h0,h1,h2⟩:=(M1.bk 1).tri;go_wp2_with fail;clear h0 h1 h2;refine(HK _ M1.ext).mono ?_;rintro e w2 ⟨q,c2,rfl,am,aq⟩;have M2:=(M1.call aq am)
 clear M1 t u aq am;have y:=M2.hi 1;have z:=M2.hi 2;obtain⟨g,rfl,a1,a2⟩:=M2.so 0;clear a1 a2;go_upto_region 4 with fail;obtain⟨gV,s⟩: ∃gV,gV=w2.heap.size:=⟨_,rfl⟩
 rw[←s];have M3:=(M2.blkNew TH3 #[aA,aB,.slice (some ⟨g,0,none⟩) xs.length c2] gV s.symm)
 generalize World.alloc _ _=w4 at M3⊢;clear M2 y z s;have aa:=M3.hi 0;have ab:=M3.hi 2;have ad:=M3.hi 3;obtain⟨h0,h1,h2⟩:=(M3.bk 3).tri;go_wp2_with fail;clear h0 h1 h2;refine(HH _).mono ?_;rintro e w4 ⟨rfl,ar⟩;have M4:=(M3.adv ar)
 clear M3 aa ab ad ar;have ae:=M4.hi 0;have af:=M4.hi 2;have ag:=M4.hi 3;have cx:w4.cell? ⟨b,a,none⟩=some (.int .i64 x):=(M4.ext.cells.1 _ _ hb).trans ax.out;obtain⟨h0,h1,h2⟩:=(M4.bk 3).tri;obtain⟨v0,v1,v2⟩:=(M4.bk 0).tri;have gi:w4.cell? ⟨g,0,none⟩=some (.int .i64 x):=by have:=(M4.ow 1).cellAt 0 (by omega);rw[this];simpa[ivs]using az.out
 have a0:w4.frozen? ⟨g,0,none⟩=false:=(M4.ow 1).frozenAt 0;obtain⟨m,n⟩:=M4.nq 0 1;go_upto_region 7 with fail;clear h0 h1 h2 v0 v1 v2 m n cx gi a0;have MX:=(show Mem w (w4.setCell ⟨g,0,none⟩ (.int .i64 id)) [aJ w.heap.size (gV) TH3 #[aA,aB,.slice (some ⟨g,0,none⟩) xs.length c2],aI w.heap.size TI 1 (some ⟨g,0,none⟩) (xs.length) (c2) (ivs (xs.set 0 id)),aJ w.heap.size (w.heap.size+1) TH3 #[(),(),((),())],aJ w.heap.size (w.heap.size) TH3 #[aA,aB,.slice (some ⟨b,a,none⟩) xs.length cap]]from by rw[←dN];exact M4.ostore (i:=1) rfl 0 (.int .i64 id))
 generalize an:World.setCell _ _ _=w5;rw[an]at MX;clear an M4 ae af ag;have ah:gV<w5.heap.size:=(MX.hi 0)
 have ai:w.heap.size+1<w5.heap.size:=(MX.hi 2)
 have aj:w.heap.size<w5.heap.size:=(MX.hi 3)
 obtain⟨v0,v1,v2⟩:=(MX.bk 0).tri;go_wp2_with fail;clear v0 v1 v2;refine(ay _ _ _ (by exact(MX.sq 1))).mono ?_;rintro e bb ⟨rfl,p⟩;have d:=(MX.adv p)
 clear MX ah ai aj p;have j:=d.hi 0;have k:=d.hi 2;have l:=d.hi 3;obtain⟨h0,h1,h2⟩:=(d.bk 3).tri;go_wp2_with fail;clear h0 h1 h2;refine(HK _ d.ext).mono ?_;rintro e a3 ⟨q0,c0,rfl,o,r⟩;have f:=(d.call r o)
 clear d j k l r o;have au:=f.hi 1;have av:=f.hi 3;have aw:=f.hi 4;obtain⟨z0,a4,z1,a5,z2,a6⟩:=(f.bk 3).trif;go_wp2;have ak:=((f.st 3 0 (.int .i64 aA)).st 3 1 (.int .i64 aB))
 have al:=(ak.st 3 2 (.slice q0 xs.length c0))
 have h:=(show Mem w (((a3.setCell ⟨w.heap.size+1,0,none⟩ (.int .i64 aA)).setCell ⟨w.heap.size+1,1,none⟩ (.int .i64 aB)).setCell ⟨w.heap.size+1,2,none⟩ (.slice q0 xs.length c0)) [aI w.heap.size TI 1 (q0) (xs.length) (c0) (ivs xs),aJ w.heap.size (gV) TH3 #[aA,aB,.slice (some ⟨g,0,none⟩) xs.length c2],aI w.heap.size TI 1 (some ⟨g,0,none⟩) (xs.length) (c2) (ivs (xs.set 0 id)),aJ w.heap.size (w.heap.size+1) TH3 #[aA,aB,.slice q0 xs.length c0],aJ w.heap.size (w.heap.size) TH3 #[aA,aB,.slice (some ⟨b,a,none⟩) xs.length cap]]from al)
 generalize ao:World.setCell _ _ _=wz;rw[ao]at h;clear ao f ak al z0 a4 z1 a5 z2 a6;obtain⟨y0,y1,y2⟩:=(h.bk 3).tri;exact bodyPost_ret (v:= .tuple #[.agg #[aA,aB,.slice q0 xs.length c0],.bool false]) (by simp[results,Tryz.results143,go_sem, *]) rfl (dR (by simp) (by exact(h.ow 0)) h.ext)
theorem aMr (aA aB id:Int)(p:OA)(n cap:Nat)(xs:List Int)(w:World)(hS:Sl w p n cap 1 (ivs xs))(h:aN aA aB xs=true):
  Calls Tryz.prog 143 #[aH aA aB p n cap,(),id] w (cN aA aB (cP aA aB xs id).1 (cP aA aB xs id).2 w):=by
 have hl:=hS.ilen;subst hl;obtain⟨g1,g2,g3,g4,g5,g6,g7,g8,g9⟩:=bQ h;have HV: ∀w',Ext w w'→Calls Tryz.prog 53 #[aH aA aB p xs.length cap] w' fun e w''=>e= .returned (.bool true)∧Ext w' w'':=fun w' hx=>by have:=fW aA aB p xs.length cap xs w' (hS.ext hx);rwa[h]at this
 have HK:=fun(w':World) (hx:Ext w w')=>lA aA aB p xs.length cap xs w' (by omega) (hS.ext hx)
 have HH: ∀w',Calls Tryz.prog 149 #[aH aA aB p xs.length cap,()] w' fun e w''=>e= .returned (.bool true)∧Ext w' w'':=fun w'=>by have:=iP aA aB 0 p xs.length cap w' (by omega);rwa[decide_eq_true (⟨by omega,by omega⟩:0≤(0:Int)∧(0:Int)<xs.length)]at this
 obtain⟨b,f,rfl,hb,i⟩:=hS.rd (by omega);have a:xs[0]? =some (xs.getD 0 0):=by rw[List.getD_eq_getElem?_getD,List.getElem?_eq_getElem (by omega)];rfl
 have g:w.cell? ⟨b,f,none⟩=some (.int .i64 (xs.getD 0 0)):=by have:=i 0 (by omega);rw[Nat.add_zero]at this;rw[this];simp only[ivs,List.getElem?_map,a,Option.map_some]
 by_cases h1:id<1
 ·rw[show cP aA aB xs id=(xs,false) by unfold cP;rw[if_neg (by omega)]];exact aHp aA aB id b f cap _ xs w g5 g6 a hb g h1 HV HK
 by_cases h2:xs.getD 0 0=0
 ·have d:(xs.getD 0 0 !=0)=false:=by rw[h2];rfl
  cases hv:aN aA aB (xs.set 0 id)with
  |true=>rw[show cP aA aB xs id=(xs.set 0 id,true) by unfold cP;rw[if_pos ⟨h2,by omega,hv⟩]];refine aEx aA aB id b f cap _ xs w g5 g6 a hb g (by omega) d HH (fun w' q c hL=> ?_) HV HK;have:=fW aA aB q xs.length c _ w' hL;rwa[hv]at this
  |false=>rw[show cP aA aB xs id=(xs,false) by unfold cP;rw[if_neg (by rw[hv];simp)]];refine aEy aA aB id b f cap _ xs w g5 g6 a hb g (by omega) d HH (fun w' q c hL=> ?_) HV HK;have:=fW aA aB q xs.length c _ w' hL;rwa[hv]at this
 rw[show cP aA aB xs id=(xs,false) by unfold cP;rw[if_neg (by omega)]];exact aCm aA aB id b f cap _ xs w g5 g6 a hb g (by omega) (by simpa using h2) HH HV HK
theorem aA8 (aA aB id:Int)(p:OA)(n cap:Nat)(xs:List Int)(w:World)(g:Hid (xs.length=n))
  (HV:xB 53 #[aH aA aB p n cap] w true)
  (HC:xC 142 #[aH aA aB p n cap] w fun w' e w''=> ∃v,e= .returned (.tuple #[v,.bool false])∧Ext w' w'')
  (HL:xC 79 #[aH aA aB p n cap] w fun w' e w''=> ∃q c,e= .returned (aH aA aB q n c)∧w''.ownsRow w'.heap.size TI 1 (.slice q n c) n (ivs xs)∧Ext w' w''):
  Calls Tryz.prog 96 #[aH aA aB p n cap,id] w (cM aA aB xs (-1) w):=by
 go_enter Tryz.func96,Tryz.ntmps96;go_wp2_with fail;refine(HV _ (((Mem.start w).c0 TH3 #[aA,aB,.slice p n cap]).c1 TH3 #[(),(),((),())]).ext).mono ?_;rintro e w1 ⟨rfl,j⟩;have M1:=((((Mem.start w).c0 TH3 #[aA,aB,.slice p n cap]).c1 TH3 #[(),(),((),())]).adv j)
 have a:=M1.hi 0;have b:=M1.hi 1;clear j;obtain⟨h0,h1,h2⟩:=(M1.bk 1).tri;go_wp2_with fail;clear h0 h1 h2;refine(HC _ M1.ext).mono ?_;rintro e w2 ⟨v,rfl,k⟩;have M2:=(M1.adv k)
 clear M1 a b k;have d:=M2.hi 0;have f:=M2.hi 1;obtain⟨h0,h1,h2⟩:=(M2.bk 1).tri;go_wp2_with fail;clear h0 h1 h2;refine(HL _ M2.ext).mono ?_;rintro e w3 ⟨q0,c0,rfl,h,l⟩;have M3:=(M2.call l h)
 clear M2 d f l h;have m:=M3.hi 1;have o:=M3.hi 2;obtain⟨z0,r,z1,s,z2,t⟩:=(M3.bk 1).trif;go_wp2;have M4:=((M3.st 1 0 (.int .i64 aA)).st 1 1 (.int .i64 aB))
 have M5:=(M4.st 1 2 (.slice q0 n c0))
 clear z0 r z1 s z2 t;have M6:=(show Mem w (((w3.setCell ⟨w.heap.size+1,0,none⟩ (.int .i64 aA)).setCell ⟨w.heap.size+1,1,none⟩ (.int .i64 aB)).setCell ⟨w.heap.size+1,2,none⟩ (.slice q0 n c0)) [aI w.heap.size TI 1 (q0) (n) (c0) (ivs xs),aJ w.heap.size (w.heap.size+1) TH3 #[aA,aB,.slice q0 n c0],aJ w.heap.size (w.heap.size) TH3 #[aA,aB,.slice p n cap]]from M5)
 generalize i:World.setCell _ _ _=wz;rw[i]at M6;clear i M3 M4 M5;obtain⟨y0,y1,y2⟩:=(M6.bk 1).tri;exact bodyPost_ret (v:= .tuple #[.agg #[aA,aB,.slice q0 n c0],(-1:Int)]) (by simp[results,Tryz.results96,go_sem, *]) rfl (eD g.out (M6.ow 0) M6.ext)
theorem aEq (aA aB id:Int)(p:OA)(n cap K:Nat)(xs ys zs:List Int)(sl:List Sl2)(w:World)(r:Hid (xs.length=n))
  (HV:xB 53 #[aH aA aB p n cap] w true)
  (HC:xC 142 #[aH aA aB p n cap] w fun w' e w''=> ∃q c,e= .returned (.tuple #[.slice q K c,.bool true])∧w''.ownsRow w'.heap.size TSL 2 (.slice q K c) K (sl.flatMap aK)∧Ext w' w'')
  (HR:Hid (∀w' q c,Ext w w'→Sl w' q K c 2 (sl.flatMap aK)→Calls Tryz.prog 144 #[aH aA aB p n cap,.slice q K c] w' fun e w''=> ∃q c,e= .returned (aH aA aB q n c)∧w''.ownsRow w'.heap.size TI 1 (.slice q n c) n (ivs ys)∧Ext w' w''))
  (HP:Hid (∀w' q c,Ext w w'→Sl w' q n c 1 (ivs ys)→Calls Tryz.prog 143 #[aH aA aB q n c,(),id] w' fun e w''=> ∃q c,e= .returned (.tuple #[aH aA aB q n c,.bool false])∧w''.ownsRow w'.heap.size TI 1 (.slice q n c) n (ivs zs)∧Ext w' w''))
  (HL:xC 79 #[aH aA aB p n cap] w fun w' e w''=> ∃q c,e= .returned (aH aA aB q n c)∧w''.ownsRow w'.heap.size TI 1 (.slice q n c) n (ivs xs)∧Ext w' w''):
  Calls Tryz.prog 96 #[aH aA aB p n cap,id] w (cM aA aB xs (-1) w):=by
 go_enter Tryz.func96,Tryz.ntmps96;go_wp2_with fail;refine(HV _ (((Mem.start w).c0 TH3 #[aA,aB,.slice p n cap]).c1 TH3 #[(),(),((),())]).ext).mono ?_;rintro e w1 ⟨rfl,z⟩;have M1:=((((Mem.start w).c0 TH3 #[aA,aB,.slice p n cap]).c1 TH3 #[(),(),((),())]).adv z)
 have b:=M1.hi 0;have d:=M1.hi 1;clear z;obtain⟨h0,h1,h2⟩:=(M1.bk 1).tri;go_wp2_with fail;clear h0 h1 h2;refine(HC _ M1.ext).mono ?_;rintro e w2 ⟨qs,cs,rfl,s,aa⟩;have M2:=(M1.call aa s)
 clear M1 b d aa s;have f:=M2.hi 1;have g:=M2.hi 2;obtain⟨h0,h1,h2⟩:=(M2.bk 2).tri;go_wp2_with fail;clear h0 h1 h2;refine(HR _ qs cs M2.ext (M2.sq 0)).mono ?_;rintro e w3 ⟨q1,c1,rfl,t,ab⟩;have M3:=(M2.call ab t)
 clear M2 f g ab t;have h:=M3.hi 2;have i:=M3.hi 3;go_wp2_with fail;refine(HP _ q1 c1 M3.ext (M3.sq 0)).mono ?_;rintro e w4 ⟨q2,c2,rfl,u,ad⟩;have M4:=(M3.call ad u)
 clear M3 h i ad u;have j:=M4.hi 3;have k:=M4.hi 4;go_upto_region 7 with fail;obtain⟨gV,a⟩: ∃gV,gV=w4.heap.size:=⟨_,rfl⟩
 rw[←a];have M5:=(M4.blkNew TH3 #[aA,aB,.slice q2 n c2] gV a.symm)
 generalize World.alloc _ _=w7 at M5⊢;clear M4 j k a;have l:=M5.hi 0;have m:=M5.hi 4;have o:=M5.hi 5;obtain⟨h0,h1,h2⟩:=(M5.bk 5).tri;go_wp2_with fail;clear h0 h1 h2;refine(HL _ M5.ext).mono ?_;rintro e w6 ⟨q0,c0,rfl,x,ae⟩;have M6:=(M5.call ae x)
 clear M5 l m o ae x;have af:=M6.hi 1;have ag:=M6.hi 5;have ah:=M6.hi 6;obtain⟨z0,ai,z1,aj,z2,ak⟩:=(M6.bk 5).trif;go_wp2;have M7:=((M6.st 5 0 (.int .i64 aA)).st 5 1 (.int .i64 aB))
 have M8:=(M7.st 5 2 (.slice q0 n c0))
 clear z0 ai z1 aj z2 ak;have M9:=(show Mem w (((w6.setCell ⟨w.heap.size+1,0,none⟩ (.int .i64 aA)).setCell ⟨w.heap.size+1,1,none⟩ (.int .i64 aB)).setCell ⟨w.heap.size+1,2,none⟩ (.slice q0 n c0)) [aI w.heap.size TI 1 (q0) (n) (c0) (ivs xs),aJ w.heap.size (gV) TH3 #[aA,aB,.slice q2 n c2],aI w.heap.size TI 1 (q2) (n) (c2) (ivs zs),aI w.heap.size TI 1 (q1) (n) (c1) (ivs ys),aI w.heap.size TSL 2 (qs) (K) (cs) (sl.flatMap aK),aJ w.heap.size (w.heap.size+1) TH3 #[aA,aB,.slice q0 n c0],aJ w.heap.size (w.heap.size) TH3 #[aA,aB,.slice p n cap]]from M8)
 generalize y:World.setCell _ _ _=wz;rw[y]at M9;clear y M6 M7 M8;obtain⟨y0,y1,y2⟩:=(M9.bk 5).tri;exact bodyPost_ret (v:= .tuple #[.agg #[aA,aB,.slice q0 n c0],(-1:Int)]) (by simp[results,Tryz.results96,go_sem, *]) rfl (eD r.out (M9.ow 0) M9.ext)
theorem aCd (aA aB id:Int)(p:OA)(n cap K:Nat)(ys zs:List Int)(sl:List Sl2)(w:World)(o:Hid (zs.length=n))
  (HV:xB 53 #[aH aA aB p n cap] w true)
  (HC:xC 142 #[aH aA aB p n cap] w fun w' e w''=> ∃q c,e= .returned (.tuple #[.slice q K c,.bool true])∧w''.ownsRow w'.heap.size TSL 2 (.slice q K c) K (sl.flatMap aK)∧Ext w' w'')
  (HR:Hid (∀w' q c,Ext w w'→Sl w' q K c 2 (sl.flatMap aK)→Calls Tryz.prog 144 #[aH aA aB p n cap,.slice q K c] w' fun e w''=> ∃q c,e= .returned (aH aA aB q n c)∧w''.ownsRow w'.heap.size TI 1 (.slice q n c) n (ivs ys)∧Ext w' w''))
  (HP:Hid (∀w' q c,Ext w w'→Sl w' q n c 1 (ivs ys)→Calls Tryz.prog 143 #[aH aA aB q n c,(),id] w' fun e w''=> ∃q c,e= .returned (.tuple #[aH aA aB q n c,.bool true])∧w''.ownsRow w'.heap.size TI 1 (.slice q n c) n (ivs zs)∧Ext w' w'')):
  Calls Tryz.prog 96 #[aH aA aB p n cap,id] w (cM aA aB zs (K:Int) w):=by
 go_enter Tryz.func96,Tryz.ntmps96;go_wp2_with fail;refine(HV _ (((Mem.start w).c0 TH3 #[aA,aB,.slice p n cap]).c1 TH3 #[(),(),((),())]).ext).mono ?_;rintro e w1 ⟨rfl,x⟩;have M1:=((((Mem.start w).c0 TH3 #[aA,aB,.slice p n cap]).c1 TH3 #[(),(),((),())]).adv x)
 have f:=M1.hi 0;have g:=M1.hi 1;clear x;obtain⟨h0,h1,h2⟩:=(M1.bk 1).tri;go_wp2_with fail;clear h0 h1 h2;refine(HC _ M1.ext).mono ?_;rintro e w2 ⟨qs,cs,rfl,r,y⟩;have M2:=(M1.call y r)
 clear M1 f g y r;have h:=M2.hi 1;have i:=M2.hi 2;obtain⟨h0,h1,h2⟩:=(M2.bk 2).tri;go_wp2_with fail;clear h0 h1 h2;refine(HR _ qs cs M2.ext (M2.sq 0)).mono ?_;rintro e w3 ⟨q1,c1,rfl,s,z⟩;have M3:=(M2.call z s)
 clear M2 h i z s;have j:=M3.hi 2;have k:=M3.hi 3;go_wp2_with fail;refine(HP _ q1 c1 M3.ext (M3.sq 0)).mono ?_;rintro e w4 ⟨q2,c2,rfl,t,aa⟩;have M4:=(M3.call aa t)
 clear M3 j k aa t;have l:=M4.hi 3;have m:=M4.hi 4;go_upto_region 7 with fail;obtain⟨gV,d⟩: ∃gV,gV=w4.heap.size:=⟨_,rfl⟩
 rw[←d];have M5:=(M4.blkNew TH3 #[aA,aB,.slice q2 n c2] gV d.symm)
 generalize World.alloc _ _=w7 at M5⊢;clear M4 l m d;have ab:=M5.hi 0;have ad:=M5.hi 4;have ae:=M5.hi 5;obtain⟨v0,v1,v2⟩:=(M5.bk 0).tri;obtain⟨z0,af,z1,ag,z2,ah⟩:=(M5.bk 4).trif;obtain⟨a,b⟩:=M5.nq 0 4;go_wp2;have M6:=((M5.st 4 0 (.int .i64 aA)).st 4 1 (.int .i64 aB))
 have M7:=(M6.st 4 2 (.slice q2 n c2))
 clear v0 v1 v2 z0 af z1 ag z2 ah a b;have M8:=(show Mem w (((w7.setCell ⟨w.heap.size+1,0,none⟩ (.int .i64 aA)).setCell ⟨w.heap.size+1,1,none⟩ (.int .i64 aB)).setCell ⟨w.heap.size+1,2,none⟩ (.slice q2 n c2)) [aJ w.heap.size (gV) TH3 #[aA,aB,.slice q2 n c2],aI w.heap.size TI 1 (q2) (n) (c2) (ivs zs),aI w.heap.size TI 1 (q1) (n) (c1) (ivs ys),aI w.heap.size TSL 2 (qs) (K) (cs) (sl.flatMap aK),aJ w.heap.size (w.heap.size+1) TH3 #[aA,aB,.slice q2 n c2],aJ w.heap.size (w.heap.size) TH3 #[aA,aB,.slice p n cap]]from M7)
 generalize u:World.setCell _ _ _=wz;rw[u]at M8;clear u M5 M6 M7;obtain⟨y0,y1,y2⟩:=(M8.bk 4).tri;exact bodyPost_ret (v:= .tuple #[.agg #[aA,aB,.slice q2 n c2],(K:Int)]) (by simp[results,Tryz.results96,go_sem, *]) rfl (eD o.out (M8.ow 1) M8.ext)
theorem pV {aA aB:Int}: ∀(l:List Sl2) (xs ys:List Int),aY aA aB xs l=(ys,l.length)→dZ aA aB xs l=ys
 | [],xs,ys,h=>by simp only[aY,Prod.mk.injEq]at h;exact h.1
 |s::l,xs,ys,h=>by
  show dZ aA aB (bC aA aB xs s.1 s.2) l=ys;cases hm:aZ aA aB xs s.1 s.2 with
  |false=>rw[jU hm]at h;simp at h
  |true=>rw[dX hm]at h;simp only[Prod.mk.injEq,List.length_cons]at h;exact pV l _ ys (Prod.ext h.1 (by have:=h.2;dsimp only;omega))
theorem aHh (aA aB id:Int)(p:OA)(n cap:Nat)(xs:List Int)(w:World)(hS:Sl w p n cap 1 (ivs xs))(a:aN aA aB xs=true):
  Calls Tryz.prog 96 #[aH aA aB p n cap,id] w (cM aA aB (cF aA aB xs id).1 (cF aA aB xs id).2 w):=by
 have hl:=hS.ilen;subst hl;obtain⟨g1,g2,g3,g4,g5,g6,g7⟩:=cG (cK a);have HV: ∀w',Ext w w'→Calls Tryz.prog 53 #[aH aA aB p xs.length cap] w' fun e w''=>e= .returned (.bool true)∧Ext w' w'':=fun w' hy=>by have:=fW aA aB p xs.length cap xs w' (hS.ext hy);rwa[a]at this
 have HL:=fun(w':World) (hy:Ext w w')=>lA aA aB p xs.length cap xs w' (by omega) (hS.ext hy)
 have HC:=fun(w':World) (hy:Ext w w')=>aMv aA aB p xs.length cap xs w' (hS.ext hy) a
 cases hr:gM aA xs with
 |none=>
  have e:cF aA aB xs id=(xs,-1):=by unfold cF lE;rw[hr]
  rw[e];rw[hr]at HC;exact aA8 aA aB id p xs.length cap xs w rfl HV HC HL
 |some r=>
  rw[hr]at HC;obtain⟨f1,f2,f3,f4,f5⟩:=oA a hr;have b:dZ aA aB xs r.2=r.1:=pV _ _ _ f1;have HR: ∀w' q c,Ext w w'→Sl w' q r.2.length c 2 (r.2.flatMap aK)→Calls Tryz.prog 144 #[aH aA aB p xs.length cap,.slice q r.2.length c] w' fun e w''=> ∃q c,e= .returned (aH aA aB q xs.length c)∧w''.ownsRow w'.heap.size TI 1 (.slice q xs.length c) xs.length (ivs r.1)∧Ext w' w'':=fun w' q c hy hL=>by have:=yH aA aB p xs.length cap xs q r.2.length c r.2 w' rfl (hS.ext hy) a hL;rw[b]at this;unfold dK at this;rw[f3]at this;exact this
  have HP: ∀w' q c,Ext w w'→Sl w' q xs.length c 1 (ivs r.1)→Calls Tryz.prog 143 #[aH aA aB q xs.length c,(),id] w' fun e w''=> ∃q c,e= .returned (.tuple #[aH aA aB q xs.length c,.bool (cP aA aB r.1 id).2])∧w''.ownsRow w'.heap.size TI 1 (.slice q xs.length c) xs.length (ivs (cP aA aB r.1 id).1)∧Ext w' w'':=fun w' q c hy hL=>by have:=aMr aA aB id q xs.length c r.1 w' hL f2;unfold cN at this;rw[lL,f3]at this;exact this
  cases hb:(cP aA aB r.1 id).2 with
  |false=>
   have e:cF aA aB xs id=(xs,-1):=by simp[cF,lE,hr,hb]
   rw[e];rw[hb]at HP;exact aEq aA aB id p xs.length cap r.2.length xs r.1 (cP aA aB r.1 id).1 r.2 w rfl HV HC HR HP HL
  |true=>
   have e:cF aA aB xs id=((cP aA aB r.1 id).1,(r.2.length:Int)):=by simp[cF,lE,hr,hb]
   rw[e];rw[hb]at HP;exact aCd aA aB id p xs.length cap r.2.length r.1 (cP aA aB r.1 id).1 r.2 w (show _=_ by rw[lL,f3]) HV HC HR HP
theorem aE5 (id:Int)(p:OA)(n cap:Nat)(xs:List Int)(w:World)(hS:Sl w p n cap 1 (ivs xs)):
  Calls Tryz.prog 217 #[.slice p n cap,id] w fun e w'=>e= .returned (.int .i64 (oW xs id))∧Ext w w':=by
 have d:=hS.bd;have HS:=xQ hS;have hl:=xQ hS.ilen;clear hS;go_enter Tryz.func217,Tryz.ntmps217;go_wp2;go_loop [8] (fun i=> ∃k:Nat,k≤n∧i= .int .i64 k∧id∉xs.take k) (fun i=>n-(intOf i).toNat)
 case atStart=>exact⟨0,Nat.zero_le _,rfl,by simp⟩
 case round=>
  obtain⟨k,hk,rfl,hc⟩:=hrel;have HC:=xQ hc;clear hc;by_cases hlt:k<n
  ·obtain⟨b,f,y,rfl,hx,hb,c⟩:=HS.out.int_at hlt;have HX:=xQ hx;clear hx;by_cases hy:y=id
   ·have t1:(id==y)=true:=by simp[hy]
    have a:Hid (oW xs id=k):=qS (by rw[HX.out,hy]) HC.out;clear hy;go_wp2;go_ret;exact⟨dG a.out.symm,by exact .refl _⟩
   have t1:(id==y)=false:=by simp;exact fun e=>hy e.symm
   have a:Hid (id∉xs.take (k+1)):=by show _∉_;rw[bI HX.out,List.mem_append,List.mem_singleton];exact fun h=>h.elim HC (fun e=>hy e.symm)
   clear hy;go_wp2;go_round
   case rel=>exact⟨k+1,by omega,by go_num,a.out⟩
   case measure=>simp[intOf];omega
  have a:Hid (oW xs id= -1):=sF (by have:=HC.out;rwa[List.take_of_length_le (by rw[hl.out];omega)]at this);go_wp2;go_ret;exact⟨dG a.out.symm,by exact .refl _⟩
theorem wV (aA aB id:Int)(p:OA)(n cap:Nat)(b:Bool)(w:World)(hb:b=false∨b=true∧id<1)(HV:xB 53 #[aH aA aB p n cap] w b):
  Calls Tryz.prog 190 #[aH aA aB p n cap,id] w fun e w'=>e= .returned (.int .i64 (-1))∧Ext w w':=by
 rcases hb with rfl|⟨rfl,hi⟩
 all_goals
  go_enter Tryz.func190,Tryz.ntmps190;go_wp2_with fail;refine(HV _ (by exact .alloc (.refl _) _)).mono ?_;rintro e w1 ⟨rfl,a⟩;go_wp2;go_ret;exact⟨rfl,by exact .trans (.alloc (.refl _) _) a⟩
theorem aAi (aA aB id:Int)(p:OA)(n cap:Nat)(xs:List Int)(w:World)(hi:1≤id)(HI:xC 217 #[.slice p n cap,id] w fun w' e w''=>e= .returned (.int .i64 (oW xs id))∧Ext w' w'')(HV:xB 53 #[aH aA aB p n cap] w true):
  Calls Tryz.prog 190 #[aH aA aB p n cap,id] w fun e w'=>e= .returned (.int .i64 (oW xs id))∧Ext w w':=by
 go_enter Tryz.func190,Tryz.ntmps190;go_wp2_with fail;refine(HV _ (by exact .alloc (.refl _) _)).mono ?_;rintro e w1 ⟨rfl,a⟩;have hB:=(Blk.new w TH3 #[aA,aB,.slice p n cap]).ext a;have X1:=xQ (show Ext w w1 by exact .trans (.alloc (.refl _) _) a);obtain⟨b0,b1,b2⟩:=hB.cells3;have c:w.heap.size<w1.heap.size:=hB.lt;clear a hB;go_wp2_with fail;refine(HI _ X1.out).mono ?_;rintro e w2 ⟨rfl,b⟩;have X2:=X1.out.trans b;go_wp2;go_ret;exact⟨rfl,X2⟩
theorem yG (aA aB id:Int)(p:OA)(n cap:Nat)(xs:List Int)(w:World)(hS:Sl w p n cap 1 (ivs xs)):
  Calls Tryz.prog 190 #[aH aA aB p n cap,id] w fun e w'=>e= .returned (.int .i64 (iC aA aB xs id))∧Ext w w':=by
 have HV:=fun(w':World) (hx:Ext w w')=>fW aA aB p n cap xs w' (hS.ext hx)
 unfold iC;by_cases h:aN aA aB xs=true∧1≤id
 ·rw[if_pos h];rw[h.1]at HV;exact aAi aA aB id p n cap xs w h.2 (xQ fun w' hx=>aE5 id p n cap xs w' (hS.ext hx)) (xQ HV)
 rw[if_neg h];refine wV aA aB id p n cap (aN aA aB xs) w ?_ (xQ HV);cases hh:aN aA aB xs with
 |false=>exact .inl rfl
 |true=>
  refine .inr ⟨rfl,?_⟩;by_cases h1:1≤id
  ·exact absurd ⟨hh,h1⟩ h
  omega
theorem aMx (aA aB:Int)(c:Nat)(id:Int)(p:OA)(n cap:Nat)(xs:List Int)(w:World)(hS:Sl w p n cap 1 (ivs xs))(a:aN aA aB xs=true)(hc:xs[c]? =some id) (h0:id≠0) (hE:BitTab w):
  Calls Tryz.prog 191 #[aH aA aB p n cap,(c:Int)] w (jG (dH aA xs c) w):=by
 have hl:=hS.ilen;subst hl;obtain⟨g1,g2,g3,g4,g5,g6,g7,g8,g9⟩:=bQ a;have f:(2:Nat) ^ xs.length≤4096:=Nat.le_trans (Nat.pow_le_pow_right (by omega) g6) (by decide);have h:=Nat.two_pow_pos xs.length;have l:=(List.getElem?_eq_some_iff.1 hc).1;have hN:xs.length*2 ^ xs.length≤12*4096:=Nat.mul_le_mul g6 f;have hC:c*2 ^ xs.length≤12*4096:=Nat.mul_le_mul (by omega) f;have j:xs.length≤xs.length*2 ^ xs.length:=Nat.le_mul_of_pos_right _ h;obtain⟨p1,p2,p3⟩:=rM a hc h0;have hD:=lB (aA:=aA) (many:=(bE xs).length) g6;have g:=(qV g5 g6 hD).bd;obtain⟨pb,po,rfl,hb,i⟩:=hS.rd (by omega);have b: ∀(k:Nat) (B:List Int) (Q:List Nat),aL1 aA xs c k B Q→SOk (xs.length*2 ^ xs.length) B Q:=fun k B Q hr=>(hr.ok p1 g).1
 refine aKa aA aB pb po xs.length cap (xs.length*2 ^ xs.length) (2 ^ xs.length) c (c*2 ^ xs.length) (eI xs.length (st0 xs c)) xs (cV xs) (fun u=>mY aA xs.length (2 ^ xs.length) u) w g5 g6 rfl hb hE (by omega) j hC rfl rfl rfl rfl p1 (by simp) ?_ ?_ (fun k x hx=> ?_) rfl (fun k x hx=> ?_) (fun k hk w' hx=> ?_) (fun u v hu hv=>g u v hu hv) (fun k B Q hr=>b k B Q hr) (fun k u B Q hr hu hz=> ?_) (fun k B Q hr hk=>aE4 a g5 g6 hc h0 hr hk)
 ·have e:(c:Int)*((2 ^ xs.length:Nat):Int)=((c*2 ^ xs.length:Nat):Int):=by push_cast;rfl
  rw[e];exact IntWalk.i64_in _ (by omega)
 ·have e:(xs.length:Int)*((2 ^ xs.length:Nat):Int)=((xs.length*2 ^ xs.length:Nat):Int):=by push_cast;rfl
  rw[e];exact IntWalk.i64_in _ (by omega)
 ·have hk:=(List.getElem?_eq_some_iff.1 hx).1;rw[fH hk,List.getD_eq_getElem?_getD,hx];rfl
 ·have hk:=(List.getElem?_eq_some_iff.1 hx).1;rw[i k (by omega)];simp only[ivs,List.getElem?_map,hx,Option.map_some]
 ·have:=aF5 aA aB k _ xs.length cap xs w' (hS.ext hx) a (by omega) (by omega);rwa[kQ]at this
 obtain⟨d,hd⟩:=aBo a g5 g6 hc h0 hr hu hz;exact⟨d,_,_,hd.d60,hd.trail g6 (b k B Q hr).len,rfl,hd.last.symm,hd.way⟩
theorem aHy (aA aB id:Int)(p:OA)(n cap:Nat)(w:World)
  (HF:xC 190 #[aH aA aB p n cap,id] w fun w' e w''=>e= .returned (.int .i64 (-1))∧Ext w' w''):
  Calls Tryz.prog 148 #[aH aA aB p n cap,id] w (jG none w):=by
 go_enter Tryz.func148,Tryz.ntmps148;go_wp2_with fail;refine(HF _ ((Mem.start w).c0 TH3 #[aA,aB,.slice p n cap]).ext).mono ?_;rintro e w1 ⟨rfl,a⟩;have M1:=(((Mem.start w).c0 TH3 #[aA,aB,.slice p n cap]).adv a)
 have b:=M1.hi 0;clear a;have HX:=xQ (M1.ext);go_wp2;exact bodyPost_ret (v:= .tuple #[((),()),.bool false]) (by simp[results,Tryz.results148,go_sem, *]) rfl ⟨_,rfl,HX.out⟩
theorem aF6 (aA aB id:Int)(c:Nat)(p:OA)(n cap:Nat)(r:Option (List Sl2))(w:World)
  (HF:xC 190 #[aH aA aB p n cap,id] w fun w' e w''=>e= .returned (.int .i64 (c:Int))∧Ext w' w'')
  (HB:Hid (∀w',Ext w w'→Calls Tryz.prog 191 #[aH aA aB p n cap,(c:Int)] w' (jG r w'))):
  Calls Tryz.prog 148 #[aH aA aB p n cap,id] w (jG r w):=by
 have t0: ¬((c:Int)<0):=by omega
 go_enter Tryz.func148,Tryz.ntmps148;go_wp2_with fail;refine(HF _ ((Mem.start w).c0 TH3 #[aA,aB,.slice p n cap]).ext).mono ?_;rintro e w1 ⟨rfl,d⟩;have M1:=(((Mem.start w).c0 TH3 #[aA,aB,.slice p n cap]).adv d)
 have f:=M1.hi 0;clear d;obtain⟨h0,h1,h2⟩:=(M1.bk 0).tri;go_wp2_with fail;clear h0 h1 h2;have HX:=xQ (M1.ext);refine(HB _ HX.out).mono ?_;intro e w9 hr;have b:=xQ hr;clear hr HB;cases r with
 |none=>obtain⟨v,rfl,a⟩:=b.out;go_wp2;exact bodyPost_ret (v:= .tuple #[v,.bool false]) (by simp[results,Tryz.results148,go_sem, *]) rfl ⟨_,rfl,HX.out.trans a⟩
 |some l=>obtain⟨q9,c9,rfl,o9,a⟩:=b.out;go_wp2;exact bodyPost_ret (v:= .tuple #[.slice q9 l.length c9,.bool true]) (by simp[results,Tryz.results148,go_sem, *]) rfl ⟨q9,c9,rfl,bK o9 HX.out.sz,HX.out.trans a⟩
theorem vH (aA aB id:Int)(p:OA)(n cap:Nat)(xs:List Int)(w:World)(g:Hid (xs.length=n))
  (HV:xB 53 #[aH aA aB p n cap] w true)
  (HB:xC 148 #[aH aA aB p n cap,id] w fun w' e w''=> ∃v,e= .returned (.tuple #[v,.bool false])∧Ext w' w'')
  (HL:xC 79 #[aH aA aB p n cap] w fun w' e w''=> ∃q c,e= .returned (aH aA aB q n c)∧w''.ownsRow w'.heap.size TI 1 (.slice q n c) n (ivs xs)∧Ext w' w''):
  Calls Tryz.prog 100 #[aH aA aB p n cap,id] w (cM aA aB xs (-1) w):=by
 go_enter Tryz.func100,Tryz.ntmps100;go_wp2_with fail;refine(HV _ (((Mem.start w).c0 TH3 #[aA,aB,.slice p n cap]).c1 TH3 #[(),(),((),())]).ext).mono ?_;rintro e w1 ⟨rfl,j⟩;have M1:=((((Mem.start w).c0 TH3 #[aA,aB,.slice p n cap]).c1 TH3 #[(),(),((),())]).adv j)
 have a:=M1.hi 0;have b:=M1.hi 1;clear j;obtain⟨h0,h1,h2⟩:=(M1.bk 1).tri;go_wp2_with fail;clear h0 h1 h2;refine(HB _ M1.ext).mono ?_;rintro e w2 ⟨v,rfl,k⟩;have M2:=(M1.adv k)
 clear M1 a b k;have d:=M2.hi 0;have f:=M2.hi 1;obtain⟨h0,h1,h2⟩:=(M2.bk 1).tri;go_wp2_with fail;clear h0 h1 h2;refine(HL _ M2.ext).mono ?_;rintro e w3 ⟨q0,c0,rfl,h,l⟩;have M3:=(M2.call l h)
 clear M2 d f l h;have m:=M3.hi 1;have o:=M3.hi 2;obtain⟨z0,r,z1,s,z2,t⟩:=(M3.bk 1).trif;go_wp2;have M4:=((M3.st 1 0 (.int .i64 aA)).st 1 1 (.int .i64 aB))
 have M5:=(M4.st 1 2 (.slice q0 n c0))
 clear z0 r z1 s z2 t;have M6:=(show Mem w (((w3.setCell ⟨w.heap.size+1,0,none⟩ (.int .i64 aA)).setCell ⟨w.heap.size+1,1,none⟩ (.int .i64 aB)).setCell ⟨w.heap.size+1,2,none⟩ (.slice q0 n c0)) [aI w.heap.size TI 1 (q0) (n) (c0) (ivs xs),aJ w.heap.size (w.heap.size+1) TH3 #[aA,aB,.slice q0 n c0],aJ w.heap.size (w.heap.size) TH3 #[aA,aB,.slice p n cap]]from M5)
 generalize i:World.setCell _ _ _=wz;rw[i]at M6;clear i M3 M4 M5;obtain⟨y0,y1,y2⟩:=(M6.bk 1).tri;exact bodyPost_ret (v:= .tuple #[.agg #[aA,aB,.slice q0 n c0],(-1:Int)]) (by simp[results,Tryz.results100,go_sem, *]) rfl (eD g.out (M6.ow 0) M6.ext)
theorem aCo (aA aB id:Int)(p:OA)(n cap K:Nat)(y0:Int)(ys:List Int)(sl:List Sl2)(w:World)(av:0<n)(aa:Hid (ys.length=n))(aj:Hid (ys[0]? =some y0))
  (HV:xB 53 #[aH aA aB p n cap] w true)
  (HB:xC 148 #[aH aA aB p n cap,id] w fun w' e w''=> ∃q c,e= .returned (.tuple #[.slice q K c,.bool true])∧w''.ownsRow w'.heap.size TSL 2 (.slice q K c) K (sl.flatMap aK)∧Ext w' w'')
  (HR:Hid (∀w' q c,Ext w w'→Sl w' q K c 2 (sl.flatMap aK)→Calls Tryz.prog 144 #[aH aA aB p n cap,.slice q K c] w' fun e w''=> ∃q c,e= .returned (aH aA aB q n c)∧w''.ownsRow w'.heap.size TI 1 (.slice q n c) n (ivs ys)∧Ext w' w'')):
  Calls Tryz.prog 100 #[aH aA aB p n cap,id] w (cM aA aB (ys.set 0 0) (K:Int) w):=by
 go_enter Tryz.func100,Tryz.ntmps100;go_wp2_with fail;refine(HV _ (((Mem.start w).c0 TH3 #[aA,aB,.slice p n cap]).c1 TH3 #[(),(),((),())]).ext).mono ?_;rintro e w1 ⟨rfl,ag⟩;have M1:=((((Mem.start w).c0 TH3 #[aA,aB,.slice p n cap]).c1 TH3 #[(),(),((),())]).adv ag)
 have k:=M1.hi 0;have l:=M1.hi 1;clear ag;obtain⟨h0,h1,h2⟩:=(M1.bk 1).tri;go_wp2_with fail;clear h0 h1 h2;refine(HB _ M1.ext).mono ?_;rintro e w2 ⟨qs,cs,rfl,ab,ah⟩;have M2:=(M1.call ah ab)
 clear M1 k l ah ab;have m:=M2.hi 1;have o:=M2.hi 2;obtain⟨h0,h1,h2⟩:=(M2.bk 2).tri;go_wp2_with fail;clear h0 h1 h2;refine(HR _ qs cs M2.ext (M2.sq 0)).mono ?_;rintro e w3 ⟨q1,c1,rfl,ad,ai⟩;have M3:=(M2.call ai ad)
 clear M2 m o ai ad;have r:=M3.hi 2;have s:=M3.hi 3;obtain⟨g,rfl,al,am⟩:=M3.so 0;clear al am;go_upto_region 7 with fail;obtain⟨gV,j⟩: ∃gV,gV=w3.heap.size:=⟨_,rfl⟩
 rw[←j];have M4:=(M3.blkNew TH3 #[aA,aB,.slice (some ⟨g,0,none⟩) n c1] gV j.symm)
 generalize World.alloc _ _=w7 at M4⊢;clear M3 r s j;have t:=M4.hi 0;have u:=M4.hi 3;have x:=M4.hi 4;obtain⟨v0,v1,v2⟩:=(M4.bk 0).tri;have gi:w7.cell? ⟨g,0,none⟩=some (.int .i64 y0):=by have:=(M4.ow 1).cellAt 0 (by omega);rw[this];simpa[ivs]using aj.out
 have ak:w7.frozen? ⟨g,0,none⟩=false:=(M4.ow 1).frozenAt 0;obtain⟨b,d⟩:=M4.nq 0 1;go_upto_region 8 with fail;clear v0 v1 v2 b d gi ak;have MX:=(show Mem w (w7.setCell ⟨g,0,none⟩ (.int .i64 0)) [aJ w.heap.size (gV) TH3 #[aA,aB,.slice (some ⟨g,0,none⟩) n c1],aI w.heap.size TI 1 (some ⟨g,0,none⟩) (n) (c1) (ivs (ys.set 0 0)),aI w.heap.size TSL 2 (qs) (K) (cs) (sl.flatMap aK),aJ w.heap.size (w.heap.size+1) TH3 #[(),(),((),())],aJ w.heap.size (w.heap.size) TH3 #[aA,aB,.slice p n cap]]from by rw[←dN];exact M4.ostore (i:=1) rfl 0 (.int .i64 0))
 generalize ae:World.setCell _ _ _=w8;rw[ae]at MX;clear ae M4 t u x;have an:gV<w8.heap.size:=(MX.hi 0)
 have ao:w.heap.size+1<w8.heap.size:=(MX.hi 3)
 have ap:w.heap.size<w8.heap.size:=(MX.hi 4)
 obtain⟨v0,v1,v2⟩:=(MX.bk 0).tri;obtain⟨z0,aq,z1,ar,z2,au⟩:=(MX.bk 3).trif;obtain⟨f,h⟩:=MX.nq 0 3;go_wp2;have y:=((MX.st 3 0 (.int .i64 aA)).st 3 1 (.int .i64 aB))
 have z:=(y.st 3 2 (.slice (some ⟨g,0,none⟩) n c1))
 clear v0 v1 v2 z0 aq z1 ar z2 au f h;have a:=(show Mem w (((w8.setCell ⟨w.heap.size+1,0,none⟩ (.int .i64 aA)).setCell ⟨w.heap.size+1,1,none⟩ (.int .i64 aB)).setCell ⟨w.heap.size+1,2,none⟩ (.slice (some ⟨g,0,none⟩) n c1)) [aJ w.heap.size (gV) TH3 #[aA,aB,.slice (some ⟨g,0,none⟩) n c1],aI w.heap.size TI 1 (some ⟨g,0,none⟩) (n) (c1) (ivs (ys.set 0 0)),aI w.heap.size TSL 2 (qs) (K) (cs) (sl.flatMap aK),aJ w.heap.size (w.heap.size+1) TH3 #[aA,aB,.slice (some ⟨g,0,none⟩) n c1],aJ w.heap.size (w.heap.size) TH3 #[aA,aB,.slice p n cap]]from z)
 generalize af:World.setCell _ _ _=wz;rw[af]at a;clear af MX y z;obtain⟨y0,y1,y2⟩:=(a.bk 3).tri;exact bodyPost_ret (v:= .tuple #[.agg #[aA,aB,.slice (some ⟨g,0,none⟩) n c1],(K:Int)]) (by simp[results,Tryz.results100,go_sem, *]) rfl (eD (by rw[List.length_set];exact aa.out) (a.ow 1) a.ext)
theorem aHt (aA aB id:Int)(p:OA)(n cap:Nat)(xs:List Int)(w:World)(hS:Sl w p n cap 1 (ivs xs))(a:aN aA aB xs=true)(hE:BitTab w):
  Calls Tryz.prog 100 #[aH aA aB p n cap,id] w (cM aA aB (bT aA aB xs id).1 (bT aA aB xs id).2 w):=by
 have hl:=hS.ilen;subst hl;obtain⟨g1,g2,g3,g4,g5,g6,g7⟩:=cG (cK a);have HV: ∀w',Ext w w'→Calls Tryz.prog 53 #[aH aA aB p xs.length cap] w' fun e w''=>e= .returned (.bool true)∧Ext w' w'':=fun w' hy=>by have:=fW aA aB p xs.length cap xs w' (hS.ext hy);rwa[a]at this
 have HL:=fun(w':World) (hy:Ext w w')=>lA aA aB p xs.length cap xs w' (by omega) (hS.ext hy)
 by_cases hno:id<1∨id∉xs
 ·have e:bT aA aB xs id=(xs,-1):=by unfold bT lM;rw[if_pos hno]
  rw[e];refine vH aA aB id p xs.length cap xs w rfl HV (fun w' hy=> ?_) HL;refine aHy aA aB id p xs.length cap w' (fun w2 hy2=> ?_);have:=yG aA aB id p xs.length cap xs w2 (hS.ext (hy.trans hy2));rwa[aG1 hno]at this
 have f:1≤id:=by omega
 have hm:id∈xs:=by
  by_cases hm:id∈xs
  ·exact hm
  exact absurd (.inr hm) hno
 obtain⟨c,hc,b⟩:=vI hm;have hf:iC aA aB xs id=(c:Int):=by unfold iC;rw[if_pos ⟨a,f⟩];exact b
 have HB: ∀w',Ext w w'→Calls Tryz.prog 148 #[aH aA aB p xs.length cap,id] w' (jG (dH aA xs c) w'):=fun w' hy=>by refine aF6 aA aB id c p xs.length cap _ w' (fun w2 hy2=> ?_) (fun w2 hy2=>aMx aA aB c id p xs.length cap xs w2 (hS.ext (hy.trans hy2)) a hc (by omega) (hE.ext (hy.trans hy2)));have:=yG aA aB id p xs.length cap xs w2 (hS.ext (hy.trans hy2));rwa[hf]at this
 have d:(oW xs id).toNat=c:=by rw[b];simp
 cases hb:dH aA xs c with
 |none=>
  have e:bT aA aB xs id=(xs,-1):=by unfold bT lM;rw[if_neg hno,d,hb];rfl
  rw[e];rw[hb]at HB;exact vH aA aB id p xs.length cap xs w rfl HV HB HL
 |some l=>
  obtain⟨b1,ys,b2,b3,b4,b5⟩:=(oC a hc (by omega)).2 l hb;have e:bT aA aB xs id=(ys.set 0 0,(l.length:Int)):=by unfold bT lM;rw[if_neg hno,d,hb];simp[b2]
  rw[e];rw[hb]at HB;have g:dZ aA aB xs l=ys:=pV _ _ _ b2;refine aCo aA aB id p xs.length cap l.length id ys l w (by omega) b4 b5 HV HB (fun w' q c' hy hL=> ?_);have:=yH aA aB p xs.length cap xs q l.length c' l w' rfl (hS.ext hy) a hL;rw[g]at this;unfold dK at this;rw[b4]at this;exact this
end Go.Proofs.YtpelpnfhbepokaaGreatDoor
