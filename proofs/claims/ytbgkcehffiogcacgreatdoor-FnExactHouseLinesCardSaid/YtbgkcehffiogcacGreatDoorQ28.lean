/-
  Texts of this proof, packed (@packed).
-/
import Derived.Test.YtbgkcehffiogcacGreatDoorQ27
namespace Go.Proofs.YtbgkcehffiogcacGreatDoor
open Go.RowKit Go.Proofs.Tryz
set_option linter.unusedSimpArgs false
set_option linter.unusedVariables false
set_option maxHeartbeats 8000000
set_option maxRecDepth 100000
theorem aKm (aA aB id:Int)(b a cap:Nat)(x:Int)(xs:List Int)(w:World)(s:4≤xs.length)(hn:xs.length≤12)(p:Hid (xs[0]? =some x)) (hb:b<w.heap.size) (o:Hid (w.cell? ⟨b,a,none⟩=some (I x))) (r:id<1)
  (HV:xB 72 #[aH aA aB (some ⟨b,a,none⟩) xs.length cap] w true)
  (HK:Hid (∀w',Ext w w'→U 86 #[aH aA aB (some ⟨b,a,none⟩) xs.length cap] w' (eC aA aB xs w'))):
  U 152 #[aH aA aB (some ⟨b,a,none⟩) xs.length cap,(),id] w (cW aA aB xs false w):=by
 go_enter func152,ntmps152;go_wp2_with fail;refine Z (HV _ (((Mem.start w).c0 TH3 #[aA,aB,.slice (some ⟨b,a,none⟩) xs cap]).c1 TH3 #[(),(),((),())]).ext) fun w1 h=>?_
 have M1:=((((Mem.start w).c0 TH3 #[aA,aB,.slice (some ⟨b,a,none⟩) xs cap]).c1 TH3 #[(),(),((),())]).adv h)
 clear h;obtain⟨h0,h1,h2⟩:=(M1.bk 1).tri;go_wp2_with fail;clear h0 h1 h2;refine(HK _ M1.ext).mono ?_;rintro e w2 ⟨q,c2,rfl,d,i⟩;have M2:=(M1.call i d)
 clear M1 i d;obtain⟨g,rfl,j,k⟩:=M2.so 0;clear j k;go_upto_region 4 with fail;obtain⟨gV,c⟩: ∃gV,gV=w2.heap.size:=⟨_,rfl⟩
 rw[←c];have M3:=(M2.blkNew TH3 #[aA,aB,.slice (some ⟨g,0,none⟩) xs c2] gV c.symm)
 generalize World.alloc _ _=w4 at M3⊢;clear M2 c;obtain⟨v0,v1,v2⟩:=(M3.bk 0).tri;obtain⟨z0,l,z1,m,z2,n⟩:=(M3.bk 2).trif;go_wp2;have M4:=((M3.st 2 0 (I aA)).st 2 1 (I aB))
 have M5:=(M4.st 2 2 (.slice (some ⟨g,0,none⟩) xs c2))
 have M6:=(show Mem w (((w4.setCell ⟨w.heap.size+1,0,none⟩ (I aA)).setCell ⟨w.heap.size+1,1,none⟩ (I aB)).setCell ⟨w.heap.size+1,2,none⟩ (.slice (some ⟨g,0,none⟩) xs c2)) [aJ w (gV) TH3 #[aA,aB,.slice (some ⟨g,0,none⟩) xs c2],aI w TI 1 (some ⟨g,0,none⟩) (xs.length) (c2) (ivs xs),aJ w (w.heap.size+1) TH3 #[aA,aB,.slice (some ⟨g,0,none⟩) xs c2],aJ w w TH3 #[aA,aB,.slice (some ⟨b,a,none⟩) xs cap]]from M5)
 generalize f:World.setCell _ _ _=wz;rw[f]at M6;clear f M3 M4 M5 v0 v1 v2 z0 l z1 m z2 n;obtain⟨y0,y1,y2⟩:=(M6.bk 2).tri;exact bodyPost_ret (v:= .tuple #[.agg #[aA,aB,.slice (some ⟨g,0,none⟩) xs c2],.bool false]) (by simp[results,results152,go_sem, *]) rfl (eN (by simp) (by exact(M6.ow 1)) M6.ext)
theorem aEn (aA aB id:Int)(b a cap:Nat)(x:Int)(xs:List Int)(w:World)(u:4≤xs.length)(hn:xs.length≤12)(s:Hid (xs[0]? =some x)) (hb:b<w.heap.size) (k:Hid (w.cell? ⟨b,a,none⟩=some (I x))) (t:1≤id) (y:(x !=0)=true)
  (HH:Hid (∀w',U 159 #[aH aA aB (some ⟨b,a,none⟩) xs.length cap,()] w' (O (.bool true) w')))
  (HV:xB 72 #[aH aA aB (some ⟨b,a,none⟩) xs.length cap] w true)
  (HK:Hid (∀w',Ext w w'→U 86 #[aH aA aB (some ⟨b,a,none⟩) xs.length cap] w' (eC aA aB xs w'))):
  U 152 #[aH aA aB (some ⟨b,a,none⟩) xs.length cap,(),id] w (cW aA aB xs false w):=by
 have r:decide (id<1)=false:=by simp;omega
 go_enter func152,ntmps152;go_wp2_with fail;refine Z (HV _ (((Mem.start w).c0 TH3 #[aA,aB,.slice (some ⟨b,a,none⟩) xs cap]).c1 TH3 #[(),(),((),())]).ext) fun w1 h=>?_
 have M1:=((((Mem.start w).c0 TH3 #[aA,aB,.slice (some ⟨b,a,none⟩) xs cap]).c1 TH3 #[(),(),((),())]).adv h)
 clear h;obtain⟨h0,h1,h2⟩:=(M1.bk 1).tri;go_wp2_with fail;clear h0 h1 h2;refine(HK _ M1.ext).mono ?_;rintro e w2 ⟨q,c2,rfl,d,i⟩;have M2:=(M1.call i d)
 clear M1 i d;obtain⟨g,rfl,l,m⟩:=M2.so 0;clear l m;go_upto_region 4 with fail;obtain⟨gV,c⟩: ∃gV,gV=w2.heap.size:=⟨_,rfl⟩
 rw[←c];have M3:=(M2.blkNew TH3 #[aA,aB,.slice (some ⟨g,0,none⟩) xs c2] gV c.symm)
 generalize World.alloc _ _=w4 at M3⊢;clear M2 c;obtain⟨h0,h1,h2⟩:=(M3.bk 3).tri;go_wp2_with fail;clear h0 h1 h2;refine Z (HH _) fun w4 j=>?_
 have M4:=(M3.adv j)
 clear M3 j;have cx:w4.cell? ⟨b,a,none⟩=some (I x):=(M4.ext.cells.1 _ _ hb).trans k.out;obtain⟨h0,h1,h2⟩:=(M4.bk 3).tri;obtain⟨v0,v1,v2⟩:=(M4.bk 0).tri;obtain⟨z0,n,z1,o,z2,p⟩:=(M4.bk 2).trif;go_wp2;have M5:=((M4.st 2 0 (I aA)).st 2 1 (I aB))
 have M6:=(M5.st 2 2 (.slice (some ⟨g,0,none⟩) xs c2))
 have M7:=(show Mem w (((w4.setCell ⟨w.heap.size+1,0,none⟩ (I aA)).setCell ⟨w.heap.size+1,1,none⟩ (I aB)).setCell ⟨w.heap.size+1,2,none⟩ (.slice (some ⟨g,0,none⟩) xs c2)) [aJ w (gV) TH3 #[aA,aB,.slice (some ⟨g,0,none⟩) xs c2],aI w TI 1 (some ⟨g,0,none⟩) (xs.length) (c2) (ivs xs),aJ w (w.heap.size+1) TH3 #[aA,aB,.slice (some ⟨g,0,none⟩) xs c2],aJ w w TH3 #[aA,aB,.slice (some ⟨b,a,none⟩) xs cap]]from M6)
 generalize f:World.setCell _ _ _=wz;rw[f]at M7;clear f M4 M5 M6 v0 v1 v2 z0 n z1 o z2 p;obtain⟨y0,y1,y2⟩:=(M7.bk 2).tri;exact bodyPost_ret (v:= .tuple #[.agg #[aA,aB,.slice (some ⟨g,0,none⟩) xs c2],.bool false]) (by simp[results,results152,go_sem, *]) rfl (eN (by simp) (by exact(M7.ow 1)) M7.ext)
theorem aH9 (aA aB id:Int)(b a cap:Nat)(x:Int)(xs:List Int)(w:World)(aj:4≤xs.length)(hn:xs.length≤12)(y:Hid (xs[0]? =some x)) (hb:b<w.heap.size) (t:Hid (w.cell? ⟨b,a,none⟩=some (I x))) (ai:1≤id) (ak:(x !=0)=false)
  (HH:Hid (∀w',U 159 #[aH aA aB (some ⟨b,a,none⟩) xs.length cap,()] w' (O (.bool true) w')))
  (u:Hid (∀w' q c,Sl w' q xs.length c 1 (ivs (xs.set 0 id))→U 72 #[aH aA aB q xs.length c] w' (O (.bool true) w')))
  (HV:xB 72 #[aH aA aB (some ⟨b,a,none⟩) xs.length cap] w true)
  (HK:Hid (∀w',Ext w w'→U 86 #[aH aA aB (some ⟨b,a,none⟩) xs.length cap] w' (eC aA aB xs w'))):
  U 152 #[aH aA aB (some ⟨b,a,none⟩) xs.length cap,(),id] w (cW aA aB (xs.set 0 id) true w):=by
 have ah:decide (id<1)=false:=by simp;omega
 go_enter func152,ntmps152;go_wp2_with fail;refine Z (HV _ (((Mem.start w).c0 TH3 #[aA,aB,.slice (some ⟨b,a,none⟩) xs cap]).c1 TH3 #[(),(),((),())]).ext) fun w1 p=>?_
 have M1:=((((Mem.start w).c0 TH3 #[aA,aB,.slice (some ⟨b,a,none⟩) xs cap]).c1 TH3 #[(),(),((),())]).adv p)
 clear p;obtain⟨h0,h1,h2⟩:=(M1.bk 1).tri;go_wp2_with fail;clear h0 h1 h2;refine(HK _ M1.ext).mono ?_;rintro e w2 ⟨q,c2,rfl,m,r⟩;have M2:=(M1.call r m)
 clear M1 r m;obtain⟨g,rfl,aa,ab⟩:=M2.so 0;clear aa ab;go_upto_region 4 with fail;obtain⟨gV,j⟩: ∃gV,gV=w2.heap.size:=⟨_,rfl⟩
 rw[←j];have M3:=(M2.blkNew TH3 #[aA,aB,.slice (some ⟨g,0,none⟩) xs c2] gV j.symm)
 generalize World.alloc _ _=w4 at M3⊢;clear M2 j;obtain⟨h0,h1,h2⟩:=(M3.bk 3).tri;go_wp2_with fail;clear h0 h1 h2;refine Z (HH _) fun w4 s=>?_
 have M4:=(M3.adv s)
 clear M3 s;have cx:w4.cell? ⟨b,a,none⟩=some (I x):=(M4.ext.cells.1 _ _ hb).trans t.out;obtain⟨h0,h1,h2⟩:=(M4.bk 3).tri;obtain⟨v0,v1,v2⟩:=(M4.bk 0).tri;have gi:w4.cell? ⟨g,0,none⟩=some (I x):=by have:=(M4.ow 1).cellAt 0 (by omega);rw[this];simpa[ivs]using y.out
 have z:w4.frozen? ⟨g,0,none⟩=false:=(M4.ow 1).frozenAt 0;go_upto_region 7 with fail;clear h0 h1 h2 v0 v1 v2 cx gi z;have MX:=(show Mem w (w4.setCell ⟨g,0,none⟩ (I id)) [aJ w (gV) TH3 #[aA,aB,.slice (some ⟨g,0,none⟩) xs c2],aI w TI 1 (some ⟨g,0,none⟩) (xs.length) (c2) (ivs (xs.set 0 id)),aJ w (w.heap.size+1) TH3 #[(),(),((),())],aJ w w TH3 #[aA,aB,.slice (some ⟨b,a,none⟩) xs cap]]from by rw[←eF];exact M4.ostore (i:=1) rfl 0 (I id))
 generalize n:World.setCell _ _ _=w5;rw[n]at MX;clear n M4;obtain⟨v0,v1,v2⟩:=(MX.bk 0).tri;go_wp2_with fail;clear v0 v1 v2;refine Z (u _ _ _ (by exact(MX.sq 1))) fun ad h=>?_
 have d:=(MX.adv h)
 clear MX h;obtain⟨v0,v1,v2⟩:=(d.bk 0).tri;obtain⟨z0,ae,z1,af,z2,ag⟩:=(d.bk 2).trif;go_wp2;have k:=((d.st 2 0 (I aA)).st 2 1 (I aB))
 have l:=(k.st 2 2 (.slice (some ⟨g,0,none⟩) xs c2))
 have f:=(show Mem w (((ad.setCell ⟨w.heap.size+1,0,none⟩ (I aA)).setCell ⟨w.heap.size+1,1,none⟩ (I aB)).setCell ⟨w.heap.size+1,2,none⟩ (.slice (some ⟨g,0,none⟩) xs c2)) [aJ w (gV) TH3 #[aA,aB,.slice (some ⟨g,0,none⟩) xs c2],aI w TI 1 (some ⟨g,0,none⟩) (xs.length) (c2) (ivs (xs.set 0 id)),aJ w (w.heap.size+1) TH3 #[aA,aB,.slice (some ⟨g,0,none⟩) xs c2],aJ w w TH3 #[aA,aB,.slice (some ⟨b,a,none⟩) xs cap]]from l)
 generalize o:World.setCell _ _ _=wz;rw[o]at f;clear o d k l v0 v1 v2 z0 ae z1 af z2 ag;obtain⟨y0,y1,y2⟩:=(f.bk 2).tri;exact bodyPost_ret (v:= .tuple #[.agg #[aA,aB,.slice (some ⟨g,0,none⟩) xs c2],.bool true]) (by simp[results,results152,go_sem, *]) rfl (eN (by simp) (by exact(f.ow 1)) f.ext)
theorem aHa (aA aB id:Int)(b a cap:Nat)(x:Int)(xs:List Int)(w:World)(am:4≤xs.length)(hn:xs.length≤12)(ab:Hid (xs[0]? =some x)) (hb:b<w.heap.size) (z:Hid (w.cell? ⟨b,a,none⟩=some (I x))) (al:1≤id) (an:(x !=0)=false)
  (HH:Hid (∀w',U 159 #[aH aA aB (some ⟨b,a,none⟩) xs.length cap,()] w' (O (.bool true) w')))
  (aa:Hid (∀w' q c,Sl w' q xs.length c 1 (ivs (xs.set 0 id))→U 72 #[aH aA aB q xs.length c] w' (O (.bool false) w')))
  (HV:xB 72 #[aH aA aB (some ⟨b,a,none⟩) xs.length cap] w true)
  (HK:Hid (∀w',Ext w w'→U 86 #[aH aA aB (some ⟨b,a,none⟩) xs.length cap] w' (eC aA aB xs w'))):
  U 152 #[aH aA aB (some ⟨b,a,none⟩) xs.length cap,(),id] w (cW aA aB xs false w):=by
 have ak:decide (id<1)=false:=by simp;omega
 go_enter func152,ntmps152;go_wp2_with fail;refine Z (HV _ (((Mem.start w).c0 TH3 #[aA,aB,.slice (some ⟨b,a,none⟩) xs cap]).c1 TH3 #[(),(),((),())]).ext) fun w1 t=>?_
 have M1:=((((Mem.start w).c0 TH3 #[aA,aB,.slice (some ⟨b,a,none⟩) xs cap]).c1 TH3 #[(),(),((),())]).adv t)
 clear t;obtain⟨h0,h1,h2⟩:=(M1.bk 1).tri;go_wp2_with fail;clear h0 h1 h2;refine(HK _ M1.ext).mono ?_;rintro e w2 ⟨q,c2,rfl,p,u⟩;have M2:=(M1.call u p)
 clear M1 u p;obtain⟨g,rfl,ae,af⟩:=M2.so 0;clear ae af;go_upto_region 4 with fail;obtain⟨gV,m⟩: ∃gV,gV=w2.heap.size:=⟨_,rfl⟩
 rw[←m];have M3:=(M2.blkNew TH3 #[aA,aB,.slice (some ⟨g,0,none⟩) xs c2] gV m.symm)
 generalize World.alloc _ _=w4 at M3⊢;clear M2 m;obtain⟨h0,h1,h2⟩:=(M3.bk 3).tri;go_wp2_with fail;clear h0 h1 h2;refine Z (HH _) fun w4 y=>?_
 have M4:=(M3.adv y)
 clear M3 y;have cx:w4.cell? ⟨b,a,none⟩=some (I x):=(M4.ext.cells.1 _ _ hb).trans z.out;obtain⟨h0,h1,h2⟩:=(M4.bk 3).tri;obtain⟨v0,v1,v2⟩:=(M4.bk 0).tri;have gi:w4.cell? ⟨g,0,none⟩=some (I x):=by have:=(M4.ow 1).cellAt 0 (by omega);rw[this];simpa[ivs]using ab.out
 have ad:w4.frozen? ⟨g,0,none⟩=false:=(M4.ow 1).frozenAt 0;go_upto_region 7 with fail;clear h0 h1 h2 v0 v1 v2 cx gi ad;have MX:=(show Mem w (w4.setCell ⟨g,0,none⟩ (I id)) [aJ w (gV) TH3 #[aA,aB,.slice (some ⟨g,0,none⟩) xs c2],aI w TI 1 (some ⟨g,0,none⟩) (xs.length) (c2) (ivs (xs.set 0 id)),aJ w (w.heap.size+1) TH3 #[(),(),((),())],aJ w w TH3 #[aA,aB,.slice (some ⟨b,a,none⟩) xs cap]]from by rw[←eF];exact M4.ostore (i:=1) rfl 0 (I id))
 generalize r:World.setCell _ _ _=w5;rw[r]at MX;clear r M4;obtain⟨v0,v1,v2⟩:=(MX.bk 0).tri;go_wp2_with fail;clear v0 v1 v2;refine Z (aa _ _ _ (by exact(MX.sq 1))) fun ao j=>?_
 have d:=(MX.adv j)
 clear MX j;obtain⟨h0,h1,h2⟩:=(d.bk 3).tri;go_wp2_with fail;clear h0 h1 h2;refine(HK _ d.ext).mono ?_;rintro e ag ⟨q0,c0,rfl,h,k⟩;have l:=(d.call k h)
 clear d k h;obtain⟨z0,ah,z1,ai,z2,aj⟩:=(l.bk 3).trif;go_wp2;have n:=((l.st 3 0 (I aA)).st 3 1 (I aB))
 have o:=(n.st 3 2 (.slice q0 xs c0))
 have f:=(show Mem w (((ag.setCell ⟨w.heap.size+1,0,none⟩ (I aA)).setCell ⟨w.heap.size+1,1,none⟩ (I aB)).setCell ⟨w.heap.size+1,2,none⟩ (.slice q0 xs c0)) [aI w TI 1 (q0) (xs.length) (c0) (ivs xs),aJ w (gV) TH3 #[aA,aB,.slice (some ⟨g,0,none⟩) xs c2],aI w TI 1 (some ⟨g,0,none⟩) (xs.length) (c2) (ivs (xs.set 0 id)),aJ w (w.heap.size+1) TH3 #[aA,aB,.slice q0 xs c0],aJ w w TH3 #[aA,aB,.slice (some ⟨b,a,none⟩) xs cap]]from o)
 generalize s:World.setCell _ _ _=wz;rw[s]at f;clear s l n o z0 ah z1 ai z2 aj;obtain⟨y0,y1,y2⟩:=(f.bk 3).tri;exact bodyPost_ret (v:= .tuple #[.agg #[aA,aB,.slice q0 xs c0],.bool false]) (by simp[results,results152,go_sem, *]) rfl (eN (by simp) (by exact(f.ow 0)) f.ext)
theorem aQs (aA aB id:Int)(p:OA)(n cap:Nat)(xs:List Int)(w:World)(hS:Sl w p n cap 1 (ivs xs))(h:aO aA aB xs=true):
  U 152 #[aH aA aB p n cap,(),id] w (cW aA aB (cZ aA aB xs id).1 (cZ aA aB xs id).2 w):=by
 have hl:=hS.ilen;subst hl;obtain⟨g1,g2,g3,g4,g5,g6,g7,g8,g9⟩:=bN h;have HV: ∀w',Ext w w'→U 72 #[aH aA aB p xs.length cap] w' (O (.bool true) w'):=fun w' hx=>by have:=fY aA aB p xs.length cap xs w' (hS.ext hx);rwa[h]at this
 have HK:=fun(w':World) (hx:Ext w w')=>mC aA aB p xs.length cap xs w' (by omega) (hS.ext hx)
 have HH: ∀w',U 159 #[aH aA aB p xs.length cap,()] w' (O (.bool true) w'):=fun w'=>by have:=jH aA aB 0 p xs.length cap w' (by omega);rwa[decide_eq_true (⟨by omega,by omega⟩:0≤(0:Int)∧(0:Int)<xs.length)]at this
 obtain⟨b,f,rfl,hb,i⟩:=hS.rd (by omega);have a:xs[0]? =some (xs.getD 0 0):=by rw[aRw,aRq (by omega)];rfl
 have g:w.cell? ⟨b,f,none⟩=some (I (xs.getD 0 0)):=by have:=i 0 (by omega);rw[Nat.add_zero]at this;rw[this];simp only[ivs,aS9,a,aSm]
 by_cases h1:id<1
 ·rw[show cZ aA aB xs id=(xs,false) by unfold cZ;rw[if_neg (by omega)]];exact aKm aA aB id b f cap _ xs w g5 g6 a hb g h1 HV HK
 by_cases h2:xs.getD 0 0=0
 ·have d:(xs.getD 0 0 !=0)=false:=by rw[h2];rfl
  cases hv:aO aA aB (xs.set 0 id)with
  |true=>rw[show cZ aA aB xs id=(xs.set 0 id,true) by unfold cZ;rw[if_pos ⟨h2,by omega,hv⟩]];refine aH9 aA aB id b f cap _ xs w g5 g6 a hb g (by omega) d HH (fun w' q c hL=> ?_) HV HK;have:=fY aA aB q xs.length c _ w' hL;rwa[hv]at this
  |false=>rw[show cZ aA aB xs id=(xs,false) by unfold cZ;rw[if_neg (by rw[hv];simp)]];refine aHa aA aB id b f cap _ xs w g5 g6 a hb g (by omega) d HH (fun w' q c hL=> ?_) HV HK;have:=fY aA aB q xs.length c _ w' hL;rwa[hv]at this
 rw[show cZ aA aB xs id=(xs,false) by unfold cZ;rw[if_neg (by omega)]];exact aEn aA aB id b f cap _ xs w g5 g6 a hb g (by omega) (by simpa using h2) HH HV HK
theorem aC1 (aA aB id:Int)(p:OA)(n cap:Nat)(xs:List Int)(w:World)(a:Hid (xs.length=n))
  (HV:xB 72 #[aH aA aB p n cap] w true)
  (HC:xC 151 #[aH aA aB p n cap] w fun w' e w''=> ∃v,e= .returned (.tuple #[v,.bool false])∧Ext w' w'')
  (HL:xC 86 #[aH aA aB p n cap] w fun w' e w''=> ∃q c,e= .returned (aH aA aB q n c)∧w''.ownsRow w' TI 1 (.slice q n c) n (ivs xs)∧Ext w' w''):
  U 117 #[aH aA aB p n cap,id] w (cT aA aB xs (-1) w):=by
 go_enter func117,ntmps117;go_wp2_with fail;refine Z (HV _ (((Mem.start w).c0 TH3 #[aA,aB,.slice p n cap]).c1 TH3 #[(),(),((),())]).ext) fun w1 f=>?_
 have M1:=((((Mem.start w).c0 TH3 #[aA,aB,.slice p n cap]).c1 TH3 #[(),(),((),())]).adv f)
 clear f;obtain⟨h0,h1,h2⟩:=(M1.bk 1).tri;go_wp2_with fail;clear h0 h1 h2;refine(HC _ M1.ext).mono ?_;rintro e w2 ⟨v,rfl,g⟩;have M2:=(M1.adv g)
 clear M1 g;obtain⟨h0,h1,h2⟩:=(M2.bk 1).tri;go_wp2_with fail;clear h0 h1 h2;refine(HL _ M2.ext).mono ?_;rintro e w3 ⟨q0,c0,rfl,b,h⟩;have M3:=(M2.call h b)
 clear M2 h b;obtain⟨z0,i,z1,j,z2,k⟩:=(M3.bk 1).trif;go_wp2;have M4:=((M3.st 1 0 (I aA)).st 1 1 (I aB))
 have M5:=(M4.st 1 2 (.slice q0 n c0))
 clear z0 i z1 j z2 k;have M6:=(show Mem w (((w3.setCell ⟨w.heap.size+1,0,none⟩ (I aA)).setCell ⟨w.heap.size+1,1,none⟩ (I aB)).setCell ⟨w.heap.size+1,2,none⟩ (.slice q0 n c0)) [aI w TI 1 (q0) (n) (c0) (ivs xs),aJ w (w.heap.size+1) TH3 #[aA,aB,.slice q0 n c0],aJ w w TH3 #[aA,aB,.slice p n cap]]from M5)
 generalize d:World.setCell _ _ _=wz;rw[d]at M6;clear d M3 M4 M5;obtain⟨y0,y1,y2⟩:=(M6.bk 1).tri;exact bodyPost_ret (v:= .tuple #[.agg #[aA,aB,.slice q0 n c0],(-1:Int)]) (by simp[results,results117,go_sem, *]) rfl (eU a.out (M6.ow 0) M6.ext)
theorem aH3 (aA aB id:Int)(p:OA)(n cap K:Nat)(xs ys zs:List Int)(sl:List Sl2)(w:World)(b:Hid (xs.length=n))
  (HV:xB 72 #[aH aA aB p n cap] w true)
  (HC:xC 151 #[aH aA aB p n cap] w fun w' e w''=> ∃q c,e= .returned (.tuple #[.slice q K c,.bool true])∧w''.ownsRow w' TSL 2 (.slice q K c) K (sl.flatMap aM)∧Ext w' w'')
  (HR:Hid (∀w' q c,Ext w w'→Sl w' q K c 2 (sl.flatMap aM)→U 153 #[aH aA aB p n cap,.slice q K c] w' fun e w''=> ∃q c,e= .returned (aH aA aB q n c)∧w''.ownsRow w' TI 1 (.slice q n c) n (ivs ys)∧Ext w' w''))
  (HP:Hid (∀w' q c,Ext w w'→Sl w' q n c 1 (ivs ys)→U 152 #[aH aA aB q n c,(),id] w' fun e w''=> ∃q c,e= .returned (.tuple #[aH aA aB q n c,.bool false])∧w''.ownsRow w' TI 1 (.slice q n c) n (ivs zs)∧Ext w' w''))
  (HL:xC 86 #[aH aA aB p n cap] w fun w' e w''=> ∃q c,e= .returned (aH aA aB q n c)∧w''.ownsRow w' TI 1 (.slice q n c) n (ivs xs)∧Ext w' w''):
  U 117 #[aH aA aB p n cap,id] w (cT aA aB xs (-1) w):=by
 go_enter func117,ntmps117;go_wp2_with fail;refine Z (HV _ (((Mem.start w).c0 TH3 #[aA,aB,.slice p n cap]).c1 TH3 #[(),(),((),())]).ext) fun w1 j=>?_
 have M1:=((((Mem.start w).c0 TH3 #[aA,aB,.slice p n cap]).c1 TH3 #[(),(),((),())]).adv j)
 clear j;obtain⟨h0,h1,h2⟩:=(M1.bk 1).tri;go_wp2_with fail;clear h0 h1 h2;refine(HC _ M1.ext).mono ?_;rintro e w2 ⟨qs,cs,rfl,d,k⟩;have M2:=(M1.call k d)
 clear M1 k d;obtain⟨h0,h1,h2⟩:=(M2.bk 2).tri;go_wp2_with fail;clear h0 h1 h2;refine(HR _ qs cs M2.ext (M2.sq 0)).mono ?_;rintro e w3 ⟨q1,c1,rfl,f,l⟩;have M3:=(M2.call l f)
 clear M2 l f;go_wp2_with fail;refine(HP _ q1 c1 M3.ext (M3.sq 0)).mono ?_;rintro e w4 ⟨q2,c2,rfl,g,m⟩;have M4:=(M3.call m g)
 clear M3 m g;go_upto_region 7 with fail;obtain⟨gV,a⟩: ∃gV,gV=w4.heap.size:=⟨_,rfl⟩
 rw[←a];have M5:=(M4.blkNew TH3 #[aA,aB,.slice q2 n c2] gV a.symm)
 generalize World.alloc _ _=w7 at M5⊢;clear M4 a;obtain⟨h0,h1,h2⟩:=(M5.bk 5).tri;go_wp2_with fail;clear h0 h1 h2;refine(HL _ M5.ext).mono ?_;rintro e w6 ⟨q0,c0,rfl,h,o⟩;have M6:=(M5.call o h)
 clear M5 o h;obtain⟨z0,r,z1,s,z2,t⟩:=(M6.bk 5).trif;go_wp2;have M7:=((M6.st 5 0 (I aA)).st 5 1 (I aB))
 have M8:=(M7.st 5 2 (.slice q0 n c0))
 clear z0 r z1 s z2 t;have M9:=(show Mem w (((w6.setCell ⟨w.heap.size+1,0,none⟩ (I aA)).setCell ⟨w.heap.size+1,1,none⟩ (I aB)).setCell ⟨w.heap.size+1,2,none⟩ (.slice q0 n c0)) [aI w TI 1 (q0) (n) (c0) (ivs xs),aJ w (gV) TH3 #[aA,aB,.slice q2 n c2],aI w TI 1 (q2) (n) (c2) (ivs zs),aI w TI 1 (q1) (n) (c1) (ivs ys),aI w TSL 2 (qs) (K) (cs) (sl.flatMap aM),aJ w (w.heap.size+1) TH3 #[aA,aB,.slice q0 n c0],aJ w w TH3 #[aA,aB,.slice p n cap]]from M8)
 generalize i:World.setCell _ _ _=wz;rw[i]at M9;clear i M6 M7 M8;obtain⟨y0,y1,y2⟩:=(M9.bk 5).tri;exact bodyPost_ret (v:= .tuple #[.agg #[aA,aB,.slice q0 n c0],(-1:Int)]) (by simp[results,results117,go_sem, *]) rfl (eU b.out (M9.ow 0) M9.ext)
theorem aEd (aA aB id:Int)(p:OA)(n cap K:Nat)(ys zs:List Int)(sl:List Sl2)(w:World)(b:Hid (zs.length=n))
  (HV:xB 72 #[aH aA aB p n cap] w true)
  (HC:xC 151 #[aH aA aB p n cap] w fun w' e w''=> ∃q c,e= .returned (.tuple #[.slice q K c,.bool true])∧w''.ownsRow w' TSL 2 (.slice q K c) K (sl.flatMap aM)∧Ext w' w'')
  (HR:Hid (∀w' q c,Ext w w'→Sl w' q K c 2 (sl.flatMap aM)→U 153 #[aH aA aB p n cap,.slice q K c] w' fun e w''=> ∃q c,e= .returned (aH aA aB q n c)∧w''.ownsRow w' TI 1 (.slice q n c) n (ivs ys)∧Ext w' w''))
  (HP:Hid (∀w' q c,Ext w w'→Sl w' q n c 1 (ivs ys)→U 152 #[aH aA aB q n c,(),id] w' fun e w''=> ∃q c,e= .returned (.tuple #[aH aA aB q n c,.bool true])∧w''.ownsRow w' TI 1 (.slice q n c) n (ivs zs)∧Ext w' w'')):
  U 117 #[aH aA aB p n cap,id] w (cT aA aB zs (K:Int) w):=by
 go_enter func117,ntmps117;go_wp2_with fail;refine Z (HV _ (((Mem.start w).c0 TH3 #[aA,aB,.slice p n cap]).c1 TH3 #[(),(),((),())]).ext) fun w1 i=>?_
 have M1:=((((Mem.start w).c0 TH3 #[aA,aB,.slice p n cap]).c1 TH3 #[(),(),((),())]).adv i)
 clear i;obtain⟨h0,h1,h2⟩:=(M1.bk 1).tri;go_wp2_with fail;clear h0 h1 h2;refine(HC _ M1.ext).mono ?_;rintro e w2 ⟨qs,cs,rfl,d,j⟩;have M2:=(M1.call j d)
 clear M1 j d;obtain⟨h0,h1,h2⟩:=(M2.bk 2).tri;go_wp2_with fail;clear h0 h1 h2;refine(HR _ qs cs M2.ext (M2.sq 0)).mono ?_;rintro e w3 ⟨q1,c1,rfl,f,k⟩;have M3:=(M2.call k f)
 clear M2 k f;go_wp2_with fail;refine(HP _ q1 c1 M3.ext (M3.sq 0)).mono ?_;rintro e w4 ⟨q2,c2,rfl,g,l⟩;have M4:=(M3.call l g)
 clear M3 l g;go_upto_region 7 with fail;obtain⟨gV,a⟩: ∃gV,gV=w4.heap.size:=⟨_,rfl⟩
 rw[←a];have M5:=(M4.blkNew TH3 #[aA,aB,.slice q2 n c2] gV a.symm)
 generalize World.alloc _ _=w7 at M5⊢;clear M4 a;obtain⟨v0,v1,v2⟩:=(M5.bk 0).tri;obtain⟨z0,m,z1,o,z2,r⟩:=(M5.bk 4).trif;go_wp2;have M6:=((M5.st 4 0 (I aA)).st 4 1 (I aB))
 have M7:=(M6.st 4 2 (.slice q2 n c2))
 clear v0 v1 v2 z0 m z1 o z2 r;have M8:=(show Mem w (((w7.setCell ⟨w.heap.size+1,0,none⟩ (I aA)).setCell ⟨w.heap.size+1,1,none⟩ (I aB)).setCell ⟨w.heap.size+1,2,none⟩ (.slice q2 n c2)) [aJ w (gV) TH3 #[aA,aB,.slice q2 n c2],aI w TI 1 (q2) (n) (c2) (ivs zs),aI w TI 1 (q1) (n) (c1) (ivs ys),aI w TSL 2 (qs) (K) (cs) (sl.flatMap aM),aJ w (w.heap.size+1) TH3 #[aA,aB,.slice q2 n c2],aJ w w TH3 #[aA,aB,.slice p n cap]]from M7)
 generalize h:World.setCell _ _ _=wz;rw[h]at M8;clear h M5 M6 M7;obtain⟨y0,y1,y2⟩:=(M8.bk 4).tri;exact bodyPost_ret (v:= .tuple #[.agg #[aA,aB,.slice q2 n c2],K]) (by simp[results,results117,go_sem, *]) rfl (eU b.out (M8.ow 1) M8.ext)
theorem rN {aA aB:Int}: ∀(l:List Sl2) (xs ys:List Int),bD aA aB xs l=(ys,l.length)→eR aA aB xs l=ys
 | [],xs,ys,h=>by simp only[bD,aSy]at h;exact h.1
 |s::l,xs,ys,h=>by
  show eR aA aB (bI aA aB xs s.1 s.2) l=ys;cases hm:bF aA aB xs s.1 s.2 with
  |false=>rw[kS hm]at h;simp at h
  |true=>rw[eQ hm]at h;simp only[aSy,aSo]at h;exact rN l _ ys (Prod.ext h.1 (by have:=h.2;dsimp only;omega))
theorem aKd (aA aB id:Int)(p:OA)(n cap:Nat)(xs:List Int)(w:World)(hS:Sl w p n cap 1 (ivs xs))(a:aO aA aB xs=true):
  U 117 #[aH aA aB p n cap,id] w (cT aA aB (cK aA aB xs id).1 (cK aA aB xs id).2 w):=by
 have hl:=hS.ilen;subst hl;obtain⟨g1,g2,g3,g4,g5,g6,g7⟩:=cE (cQ a);have HV: ∀w',Ext w w'→U 72 #[aH aA aB p xs.length cap] w' (O (.bool true) w'):=fun w' hy=>by have:=fY aA aB p xs.length cap xs w' (hS.ext hy);rwa[a]at this
 have HL:=fun(w':World) (hy:Ext w w')=>mC aA aB p xs.length cap xs w' (by omega) (hS.ext hy)
 have HC:=fun(w':World) (hy:Ext w w')=>aQv aA aB p xs.length cap xs w' (hS.ext hy) a
 cases hr:iJ aA xs with
 |none=>
  have e:cK aA aB xs id=(xs,-1):=by unfold cK mJ;rw[hr]
  rw[e];rw[hr]at HC;exact aC1 aA aB id p xs.length cap xs w rfl HV HC HL
 |some r=>
  rw[hr]at HC;obtain⟨f1,f2,f3,f4,f5⟩:=pQ a hr;have b:eR aA aB xs r.2=r.1:=rN _ _ _ f1;have HR: ∀w' q c,Ext w w'→Sl w' q r.2.length c 2 (r.2.flatMap aM)→U 153 #[aH aA aB p xs.length cap,.slice q r.2.length c] w' fun e w''=> ∃q c,e= .returned (aH aA aB q xs.length c)∧w''.ownsRow w' TI 1 (.slice q xs c) xs.length (ivs r.1)∧Ext w' w'':=fun w' q c hy hL=>by have:=aAe aA aB p xs.length cap xs q r.2.length c r.2 w' rfl (hS.ext hy) a hL;rw[b]at this;unfold eC at this;rw[f3]at this;exact this
  have HP: ∀w' q c,Ext w w'→Sl w' q xs.length c 1 (ivs r.1)→U 152 #[aH aA aB q xs.length c,(),id] w' fun e w''=> ∃q c,e= .returned (.tuple #[aH aA aB q xs.length c,.bool (cZ aA aB r.1 id).2])∧w''.ownsRow w' TI 1 (.slice q xs c) xs.length (ivs (cZ aA aB r.1 id).1)∧Ext w' w'':=fun w' q c hy hL=>by have:=aQs aA aB id q xs.length c r.1 w' hL f2;unfold cW at this;rw[mR,f3]at this;exact this
  cases hb:(cZ aA aB r.1 id).2 with
  |false=>
   have e:cK aA aB xs id=(xs,-1):=by simp[cK,mJ,hr,hb]
   rw[e];rw[hb]at HP;exact aH3 aA aB id p xs.length cap r.2.length xs r.1 (cZ aA aB r.1 id).1 r.2 w rfl HV HC HR HP HL
  |true=>
   have e:cK aA aB xs id=((cZ aA aB r.1 id).1,(r.2.length:Int)):=by simp[cK,mJ,hr,hb]
   rw[e];rw[hb]at HP;exact aEd aA aB id p xs.length cap r.2.length r.1 (cZ aA aB r.1 id).1 r.2 w (show _=_ by rw[mR,f3]) HV HC HR HP
theorem aGd (id:Int)(p:OA)(n cap:Nat)(xs:List Int)(w:World)(hS:Sl w p n cap 1 (ivs xs)):
  U 220 #[.slice p n cap,id] w (O (I (qS xs id)) w):=by
 have d:=hS.bd;have HS:=xQ hS;have hl:=xQ hS.ilen;clear hS;go_enter func220,ntmps220;go_wp2;go_loop [8] (fun i=> ∃k:Nat,k≤n∧i=I k∧id∉xs.take k) (fun i=>n-(intOf i).toNat)
 case atStart=>exact⟨0,aRv _,rfl,by simp⟩
 case round=>
  obtain⟨k,hk,rfl,hc⟩:=hrel;have HC:=xQ hc;clear hc;by_cases hlt:k<n
  ·obtain⟨b,f,y,rfl,hx,hb,c⟩:=HS.out.int_at hlt;have HX:=xQ hx;clear hx;by_cases hy:y=id
   ·have t1:(id==y)=true:=by simp[hy]
    have a:Hid (qS xs id=k):=sR (by rw[HX.out,hy]) HC.out;clear hy;go_wp2;go_ret;exact⟨dV a.out.symm,by exact .refl _⟩
   have t1:(id==y)=false:=by simp;exact fun e=>hy e.symm
   have a:Hid (id∉xs.take (k+1)):=by show _∉_;rw[aY HX.out,aSa,aSc];exact fun h=>h.elim HC (fun e=>hy e.symm)
   clear hy;go_wp2;go_round
   case rel=>exact⟨k+1,by omega,by go_num,a.out⟩
   case measure=>simp[intOf];omega
  have a:Hid (qS xs id= -1):=uC (by have:=HC.out;rwa[aRu (by rw[hl.out];omega)]at this);go_wp2;go_ret;exact⟨dV a.out.symm,by exact .refl _⟩
theorem zI (aA aB id:Int)(p:OA)(n cap:Nat)(b:Bool)(w:World)(hb:b=false∨b=true∧id<1)(HV:xB 72 #[aH aA aB p n cap] w b):
  U 193 #[aH aA aB p n cap,id] w (O (I (-1)) w):=by
 rcases hb with rfl|⟨rfl,hi⟩
 all_goals
  go_enter func193,ntmps193;go_wp2_with fail;refine Z (HV _ (by exact .alloc (.refl _) _)) fun w1 a=>?_
  go_wp2;go_ret;exact⟨rfl,by exact .trans (.alloc (.refl _) _) a⟩
theorem aCa (aA aB id:Int)(p:OA)(n cap:Nat)(xs:List Int)(w:World)(hi:1≤id)(HI:xC 220 #[.slice p n cap,id] w fun w' e w''=>e= .returned (I (qS xs id))∧Ext w' w'')(HV:xB 72 #[aH aA aB p n cap] w true):
  U 193 #[aH aA aB p n cap,id] w (O (I (qS xs id)) w):=by
 go_enter func193,ntmps193;go_wp2_with fail;refine Z (HV _ (by exact .alloc (.refl _) _)) fun w1 a=>?_
 have hB:=(Blk.new w TH3 #[aA,aB,.slice p n cap]).ext a;have X1:=xQ (show Ext w w1 by exact .trans (.alloc (.refl _) _) a);obtain⟨b0,b1,b2⟩:=hB.cells3;clear a hB;go_wp2_with fail;refine Z (HI _ X1.out) fun w2 b=>?_
 have X2:=X1.out.trans b;go_wp2;go_ret;exact⟨rfl,X2⟩
theorem aAd (aA aB id:Int)(p:OA)(n cap:Nat)(xs:List Int)(w:World)(hS:Sl w p n cap 1 (ivs xs)):
  U 193 #[aH aA aB p n cap,id] w (O (I (iT aA aB xs id)) w):=by
 have HV:=fun(w':World) (hx:Ext w w')=>fY aA aB p n cap xs w' (hS.ext hx)
 unfold iT;by_cases h:aO aA aB xs=true∧1≤id
 ·rw[if_pos h];rw[h.1]at HV;exact aCa aA aB id p n cap xs w h.2 (xQ fun w' hx=>aGd id p n cap xs w' (hS.ext hx)) (xQ HV)
 rw[if_neg h];refine zI aA aB id p n cap (aO aA aB xs) w ?_ (xQ HV);cases hh:aO aA aB xs with
 |false=>exact .inl rfl
 |true=>
  refine .inr ⟨rfl,?_⟩;by_cases h1:1≤id
  ·exact absurd ⟨hh,h1⟩ h
  omega
theorem aQx (aA aB:Int)(c:Nat)(id:Int)(p:OA)(n cap:Nat)(xs:List Int)(w:World)(hS:Sl w p n cap 1 (ivs xs))(a:aO aA aB xs=true)(hc:xs[c]? =some id) (h0:id≠0) (hE:BitTab w):
  U 194 #[aH aA aB p n cap,c] w (jY (dX aA xs c) w):=by
 have hl:=hS.ilen;subst hl;obtain⟨g1,g2,g3,g4,g5,g6,g7,g8,g9⟩:=bN a;have f:(2:Nat) ^ xs.length≤4096:=aRz (aS0 (by omega) g6) (by decide);have h:=aU5 xs.length;have l:=(aRt.1 hc).1;have hN:xs.length*2 ^ xs.length≤12*4096:=Nat.mul_le_mul g6 f;have hC:c*2 ^ xs.length≤12*4096:=Nat.mul_le_mul (by omega) f;have j:xs.length≤xs.length*2 ^ xs.length:=Nat.le_mul_of_pos_right _ h;obtain⟨p1,p2,p3⟩:=tL a hc h0;have hD:=mF (aA:=aA) (many:=(bP xs).length) g6;have g:=(sW g5 g6 hD).bd;obtain⟨pb,po,rfl,hb,i⟩:=hS.rd (by omega);have b: ∀(k:Nat) (B:List Int) (Q:List Nat),aOn aA xs c k B Q→SOk (xs.length*2 ^ xs.length) B Q:=fun k B Q hr=>(hr.ok p1 g).1
 refine aNm aA aB pb po xs.length cap (xs.length*2 ^ xs.length) (2 ^ xs.length) c (c*2 ^ xs.length) (eY xs.length (st0 xs c)) xs (cX xs) (fun u=>oK aA xs.length (2 ^ xs.length) u) w g5 g6 rfl hb hE (by omega) j hC rfl rfl rfl rfl p1 (by simp) ?_ ?_ (fun k x hx=> ?_) rfl (fun k x hx=> ?_) (fun k hk w' hx=> ?_) (fun u v hu hv=>g u v hu hv) (fun k B Q hr=>b k B Q hr) (fun k u B Q hr hu hz=> ?_) (fun k B Q hr hk=>aGc a g5 g6 hc h0 hr hk)
 ·have e:(c:Int)*((2 ^ xs.length:Nat):Int)=((c*2 ^ xs.length:Nat):Int):=by push_cast;rfl
  rw[e];exact aRr _ (by omega)
 ·have e:(xs.length:Int)*((2 ^ xs.length:Nat):Int)=((xs.length*2 ^ xs.length:Nat):Int):=by push_cast;rfl
  rw[e];exact aRr _ (by omega)
 ·have hk:=(aRt.1 hx).1;rw[fX hk,aRw,hx];rfl
 ·have hk:=(aRt.1 hx).1;rw[i k (by omega)];simp only[ivs,aS9,hx,aSm]
 ·have:=aHk aA aB k _ xs.length cap xs w' (hS.ext hx) a (by omega) (by omega);rwa[lQ]at this
 obtain⟨d,hd⟩:=aDo a g5 g6 hc h0 hr hu hz;exact⟨d,_,_,hd.d60,hd.trail g6 (b k B Q hr).len,rfl,hd.last.symm,hd.way⟩
theorem aKv (aA aB id:Int)(p:OA)(n cap:Nat)(w:World)
  (HF:xC 193 #[aH aA aB p n cap,id] w fun w' e w''=>e= .returned (I (-1))∧Ext w' w''):
  U 158 #[aH aA aB p n cap,id] w (jY none w):=by
 go_enter func158,ntmps158;go_wp2_with fail;refine Z (HF _ ((Mem.start w).c0 TH3 #[aA,aB,.slice p n cap]).ext) fun w1 a=>?_
 have M1:=(((Mem.start w).c0 TH3 #[aA,aB,.slice p n cap]).adv a)
 clear a;have HX:=xQ (M1.ext);go_wp2;exact bodyPost_ret (v:= .tuple #[((),()),.bool false]) (by simp[results,results158,go_sem, *]) rfl ⟨_,rfl,HX.out⟩
theorem aHl (aA aB id:Int)(c:Nat)(p:OA)(n cap:Nat)(r:Option (List Sl2))(w:World)
  (HF:xC 193 #[aH aA aB p n cap,id] w fun w' e w''=>e= .returned (I c)∧Ext w' w'')
  (HB:Hid (∀w',Ext w w'→U 194 #[aH aA aB p n cap,c] w' (jY r w'))):
  U 158 #[aH aA aB p n cap,id] w (jY r w):=by
 go_enter func158,ntmps158;go_wp2_with fail;refine Z (HF _ ((Mem.start w).c0 TH3 #[aA,aB,.slice p n cap]).ext) fun w1 d=>?_
 have M1:=(((Mem.start w).c0 TH3 #[aA,aB,.slice p n cap]).adv d)
 clear d;obtain⟨h0,h1,h2⟩:=(M1.bk 0).tri;go_wp2_with fail;clear h0 h1 h2;have HX:=xQ (M1.ext);refine(HB _ HX.out).mono ?_;intro e w9 hr;have b:=xQ hr;clear hr HB;cases r with
 |none=>obtain⟨v,rfl,a⟩:=b.out;go_wp2;exact bodyPost_ret (v:= .tuple #[v,.bool false]) (by simp[results,results158,go_sem, *]) rfl ⟨_,rfl,HX.out.trans a⟩
 |some l=>obtain⟨q9,c9,rfl,o9,a⟩:=b.out;go_wp2;exact bodyPost_ret (v:= .tuple #[.slice q9 l c9,.bool true]) (by simp[results,results158,go_sem, *]) rfl ⟨q9,c9,rfl,bJ o9 HX.out.sz,HX.out.trans a⟩
theorem xU (aA aB id:Int)(p:OA)(n cap:Nat)(xs:List Int)(w:World)(a:Hid (xs.length=n))
  (HV:xB 72 #[aH aA aB p n cap] w true)
  (HB:xC 158 #[aH aA aB p n cap,id] w fun w' e w''=> ∃v,e= .returned (.tuple #[v,.bool false])∧Ext w' w'')
  (HL:xC 86 #[aH aA aB p n cap] w fun w' e w''=> ∃q c,e= .returned (aH aA aB q n c)∧w''.ownsRow w' TI 1 (.slice q n c) n (ivs xs)∧Ext w' w''):
  U 121 #[aH aA aB p n cap,id] w (cT aA aB xs (-1) w):=by
 go_enter func121,ntmps121;go_wp2_with fail;refine Z (HV _ (((Mem.start w).c0 TH3 #[aA,aB,.slice p n cap]).c1 TH3 #[(),(),((),())]).ext) fun w1 f=>?_
 have M1:=((((Mem.start w).c0 TH3 #[aA,aB,.slice p n cap]).c1 TH3 #[(),(),((),())]).adv f)
 clear f;obtain⟨h0,h1,h2⟩:=(M1.bk 1).tri;go_wp2_with fail;clear h0 h1 h2;refine(HB _ M1.ext).mono ?_;rintro e w2 ⟨v,rfl,g⟩;have M2:=(M1.adv g)
 clear M1 g;obtain⟨h0,h1,h2⟩:=(M2.bk 1).tri;go_wp2_with fail;clear h0 h1 h2;refine(HL _ M2.ext).mono ?_;rintro e w3 ⟨q0,c0,rfl,b,h⟩;have M3:=(M2.call h b)
 clear M2 h b;obtain⟨z0,i,z1,j,z2,k⟩:=(M3.bk 1).trif;go_wp2;have M4:=((M3.st 1 0 (I aA)).st 1 1 (I aB))
 have M5:=(M4.st 1 2 (.slice q0 n c0))
 clear z0 i z1 j z2 k;have M6:=(show Mem w (((w3.setCell ⟨w.heap.size+1,0,none⟩ (I aA)).setCell ⟨w.heap.size+1,1,none⟩ (I aB)).setCell ⟨w.heap.size+1,2,none⟩ (.slice q0 n c0)) [aI w TI 1 (q0) (n) (c0) (ivs xs),aJ w (w.heap.size+1) TH3 #[aA,aB,.slice q0 n c0],aJ w w TH3 #[aA,aB,.slice p n cap]]from M5)
 generalize d:World.setCell _ _ _=wz;rw[d]at M6;clear d M3 M4 M5;obtain⟨y0,y1,y2⟩:=(M6.bk 1).tri;exact bodyPost_ret (v:= .tuple #[.agg #[aA,aB,.slice q0 n c0],(-1:Int)]) (by simp[results,results121,go_sem, *]) rfl (eU a.out (M6.ow 0) M6.ext)
theorem aEo (aA aB id:Int)(p:OA)(n cap K:Nat)(y0:Int)(ys:List Int)(sl:List Sl2)(w:World)(ad:0<n)(h:Hid (ys.length=n))(t:Hid (ys[0]? =some y0))
  (HV:xB 72 #[aH aA aB p n cap] w true)
  (HB:xC 158 #[aH aA aB p n cap,id] w fun w' e w''=> ∃q c,e= .returned (.tuple #[.slice q K c,.bool true])∧w''.ownsRow w' TSL 2 (.slice q K c) K (sl.flatMap aM)∧Ext w' w'')
  (HR:Hid (∀w' q c,Ext w w'→Sl w' q K c 2 (sl.flatMap aM)→U 153 #[aH aA aB p n cap,.slice q K c] w' fun e w''=> ∃q c,e= .returned (aH aA aB q n c)∧w''.ownsRow w' TI 1 (.slice q n c) n (ivs ys)∧Ext w' w'')):
  U 121 #[aH aA aB p n cap,id] w (cT aA aB (ys.set 0 0) (K:Int) w):=by
 go_enter func121,ntmps121;go_wp2_with fail;refine Z (HV _ (((Mem.start w).c0 TH3 #[aA,aB,.slice p n cap]).c1 TH3 #[(),(),((),())]).ext) fun w1 o=>?_
 have M1:=((((Mem.start w).c0 TH3 #[aA,aB,.slice p n cap]).c1 TH3 #[(),(),((),())]).adv o)
 clear o;obtain⟨h0,h1,h2⟩:=(M1.bk 1).tri;go_wp2_with fail;clear h0 h1 h2;refine(HB _ M1.ext).mono ?_;rintro e w2 ⟨qs,cs,rfl,j,r⟩;have M2:=(M1.call r j)
 clear M1 r j;obtain⟨h0,h1,h2⟩:=(M2.bk 2).tri;go_wp2_with fail;clear h0 h1 h2;refine(HR _ qs cs M2.ext (M2.sq 0)).mono ?_;rintro e w3 ⟨q1,c1,rfl,k,s⟩;have M3:=(M2.call s k)
 clear M2 s k;obtain⟨g,rfl,x,y⟩:=M3.so 0;clear x y;go_upto_region 7 with fail;obtain⟨gV,b⟩: ∃gV,gV=w3.heap.size:=⟨_,rfl⟩
 rw[←b];have M4:=(M3.blkNew TH3 #[aA,aB,.slice (some ⟨g,0,none⟩) n c1] gV b.symm)
 generalize World.alloc _ _=w7 at M4⊢;clear M3 b;obtain⟨v0,v1,v2⟩:=(M4.bk 0).tri;have gi:w7.cell? ⟨g,0,none⟩=some (I y0):=by have:=(M4.ow 1).cellAt 0 (by omega);rw[this];simpa[ivs]using t.out
 have u:w7.frozen? ⟨g,0,none⟩=false:=(M4.ow 1).frozenAt 0;go_upto_region 8 with fail;clear v0 v1 v2 gi u;have MX:=(show Mem w (w7.setCell ⟨g,0,none⟩ (I 0)) [aJ w (gV) TH3 #[aA,aB,.slice (some ⟨g,0,none⟩) n c1],aI w TI 1 (some ⟨g,0,none⟩) (n) (c1) (ivs (ys.set 0 0)),aI w TSL 2 (qs) (K) (cs) (sl.flatMap aM),aJ w (w.heap.size+1) TH3 #[(),(),((),())],aJ w w TH3 #[aA,aB,.slice p n cap]]from by rw[←eF];exact M4.ostore (i:=1) rfl 0 (I 0))
 generalize l:World.setCell _ _ _=w8;rw[l]at MX;clear l M4;obtain⟨v0,v1,v2⟩:=(MX.bk 0).tri;obtain⟨z0,z,z1,aa,z2,ab⟩:=(MX.bk 3).trif;go_wp2;have d:=((MX.st 3 0 (I aA)).st 3 1 (I aB))
 have f:=(d.st 3 2 (.slice (some ⟨g,0,none⟩) n c1))
 clear v0 v1 v2 z0 z z1 aa z2 ab;have a:=(show Mem w (((w8.setCell ⟨w.heap.size+1,0,none⟩ (I aA)).setCell ⟨w.heap.size+1,1,none⟩ (I aB)).setCell ⟨w.heap.size+1,2,none⟩ (.slice (some ⟨g,0,none⟩) n c1)) [aJ w (gV) TH3 #[aA,aB,.slice (some ⟨g,0,none⟩) n c1],aI w TI 1 (some ⟨g,0,none⟩) (n) (c1) (ivs (ys.set 0 0)),aI w TSL 2 (qs) (K) (cs) (sl.flatMap aM),aJ w (w.heap.size+1) TH3 #[aA,aB,.slice (some ⟨g,0,none⟩) n c1],aJ w w TH3 #[aA,aB,.slice p n cap]]from f)
 generalize m:World.setCell _ _ _=wz;rw[m]at a;clear m MX d f;obtain⟨y0,y1,y2⟩:=(a.bk 3).tri;exact bodyPost_ret (v:= .tuple #[.agg #[aA,aB,.slice (some ⟨g,0,none⟩) n c1],K]) (by simp[results,results121,go_sem, *]) rfl (eU (by rw[aTb];exact h.out) (a.ow 1) a.ext)
theorem aKr (aA aB id:Int)(p:OA)(n cap:Nat)(xs:List Int)(w:World)(hS:Sl w p n cap 1 (ivs xs))(a:aO aA aB xs=true)(hE:BitTab w):
  U 121 #[aH aA aB p n cap,id] w (cT aA aB (cA aA aB xs id).1 (cA aA aB xs id).2 w):=by
 have hl:=hS.ilen;subst hl;obtain⟨g1,g2,g3,g4,g5,g6,g7⟩:=cE (cQ a);have HV: ∀w',Ext w w'→U 72 #[aH aA aB p xs.length cap] w' (O (.bool true) w'):=fun w' hy=>by have:=fY aA aB p xs.length cap xs w' (hS.ext hy);rwa[a]at this
 have HL:=fun(w':World) (hy:Ext w w')=>mC aA aB p xs.length cap xs w' (by omega) (hS.ext hy)
 by_cases hno:id<1∨id∉xs
 ·have e:cA aA aB xs id=(xs,-1):=by unfold cA mU;rw[if_pos hno]
  rw[e];refine xU aA aB id p xs.length cap xs w rfl HV (fun w' hy=> ?_) HL;refine aKv aA aB id p xs.length cap w' (fun w2 hy2=> ?_);have:=aAd aA aB id p xs.length cap xs w2 (hS.ext (hy.trans hy2));rwa[aIj hno]at this
 have f:1≤id:=by omega
 have hm:id∈xs:=by
  by_cases hm:id∈xs
  ·exact hm
  exact absurd (.inr hm) hno
 obtain⟨c,hc,b⟩:=xV hm;have hf:iT aA aB xs id=(c:Int):=by unfold iT;rw[if_pos ⟨a,f⟩];exact b
 have HB: ∀w',Ext w w'→U 158 #[aH aA aB p xs.length cap,id] w' (jY (dX aA xs c) w'):=fun w' hy=>by refine aHl aA aB id c p xs.length cap _ w' (fun w2 hy2=> ?_) (fun w2 hy2=>aQx aA aB c id p xs.length cap xs w2 (hS.ext (hy.trans hy2)) a hc (by omega) (hE.ext (hy.trans hy2)));have:=aAd aA aB id p xs.length cap xs w2 (hS.ext (hy.trans hy2));rwa[hf]at this
 have d:(qS xs id).toNat=c:=by rw[b];simp
 cases hb:dX aA xs c with
 |none=>
  have e:cA aA aB xs id=(xs,-1):=by unfold cA mU;rw[if_neg hno,d,hb];rfl
  rw[e];rw[hb]at HB;exact xU aA aB id p xs.length cap xs w rfl HV HB HL
 |some l=>
  obtain⟨b1,ys,b2,b3,b4,b5⟩:=(pU a hc (by omega)).2 l hb;have e:cA aA aB xs id=(ys.set 0 0,(l.length:Int)):=by unfold cA mU;rw[if_neg hno,d,hb];simp[b2]
  rw[e];rw[hb]at HB;have g:eR aA aB xs l=ys:=rN _ _ _ b2;refine aEo aA aB id p xs.length cap l.length id ys l w (by omega) b4 b5 HV HB (fun w' q c' hy hL=> ?_);have:=aAe aA aB p xs.length cap xs q l.length c' l w' rfl (hS.ext hy) a hL;rw[g]at this;unfold eC at this;rw[b4]at this;exact this
end Go.Proofs.YtbgkcehffiogcacGreatDoor
