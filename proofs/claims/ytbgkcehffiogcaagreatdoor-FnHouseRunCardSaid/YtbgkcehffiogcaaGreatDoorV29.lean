/-
  Texts of this proof, packed (@packed).
-/
import Derived.Test.YtbgkcehffiogcaaGreatDoorV28
namespace Go.Proofs.YtbgkcehffiogcaaGreatDoor
open Go.RowKit Go.Proofs.Tryz
set_option linter.unusedSimpArgs false
set_option linter.unusedVariables false
set_option maxHeartbeats 8000000
set_option maxRecDepth 100000
theorem aEg (aA aB id:Int)(b a c:Nat)(x:Int)(xs:List Int)(w:World)(t:4≤xs.length)(hn:xs.length≤12)(r:Hid (xs[0]? =some x)) (hb:b<w.heap.size) (p:Hid (w.cell? ⟨b,a,none⟩=some (I x))) (s:id<1)
  (HV:xB 41 #[aH aA aB (some ⟨b,a,none⟩) xs.length c] w true)
  (HK:Hid (∀w',Ext w w'→U 52 #[aH aA aB (some ⟨b,a,none⟩) xs.length c] w' (cP aA aB xs w'))):
  U 103 #[aH aA aB (some ⟨b,a,none⟩) xs.length c,(),id] w (cG aA aB xs false w):=by
 go_enter func103,ntmps103;go_wp2_with fail;refine Z (HV _ (((Mem.start w).c0 TH3 #[aA,aB,.slice (some ⟨b,a,none⟩) xs c]).c1 TH3 #[(),(),((),())]).ext) fun w1 i=>?_
 have M1:=((((Mem.start w).c0 TH3 #[aA,aB,.slice (some ⟨b,a,none⟩) xs c]).c1 TH3 #[(),(),((),())]).adv i)
 clear i;obtain⟨h0,h1,h2⟩:=(M1.bk 1).tri;go_wp2_with fail;clear h0 h1 h2;refine(HK _ M1.ext).mono ?_;rintro e w2 ⟨q,c2,rfl,f,j⟩;have M2:=(M1.call j f)
 clear M1 j f;obtain⟨g,rfl,k,l⟩:=M2.so 0;clear k l;go_upto_region 4 with fail;obtain⟨gV,d⟩: ∃gV,gV=w2.heap.size:=⟨_,rfl⟩
 rw[←d];have M3:=(M2.blkNew TH3 #[aA,aB,.slice (some ⟨g,0,none⟩) xs c2] gV d.symm)
 generalize World.alloc _ _=w4 at M3⊢;clear M2 d;obtain⟨v0,v1,v2⟩:=(M3.bk 0).tri;obtain⟨z0,m,z1,n,z2,o⟩:=(M3.bk 2).trif;go_wp2;have M4:=((M3.st 2 0 (I aA)).st 2 1 (I aB))
 have M5:=(M4.st 2 2 (.slice (some ⟨g,0,none⟩) xs c2))
 have M6:=(show Mem w (((w4.setCell ⟨w.heap.size+1,0,none⟩ (I aA)).setCell ⟨w.heap.size+1,1,none⟩ (I aB)).setCell ⟨w.heap.size+1,2,none⟩ (.slice (some ⟨g,0,none⟩) xs c2)) [aI w (gV) TH3 #[aA,aB,.slice (some ⟨g,0,none⟩) xs c2],aJ w TI 1 (some ⟨g,0,none⟩) (xs.length) (c2) (ivs xs),aI w (w.heap.size+1) TH3 #[aA,aB,.slice (some ⟨g,0,none⟩) xs c2],aI w w TH3 #[aA,aB,.slice (some ⟨b,a,none⟩) xs c]]from M5)
 generalize h:World.setCell _ _ _=wz;rw[h]at M6;clear h M3 M4 M5 v0 v1 v2 z0 m z1 n z2 o;obtain⟨y0,y1,y2⟩:=(M6.bk 2).tri;exact bodyPost_ret (v:= .tuple #[.agg #[aA,aB,.slice (some ⟨g,0,none⟩) xs c2],.bool false]) (by simp[results,results103,go_sem, *]) rfl (dP (by simp) (by exact(M6.ow 1)) M6.ext)
theorem zH (aA aB id:Int)(b a c:Nat)(x:Int)(xs:List Int)(w:World)(y:4≤xs.length)(hn:xs.length≤12)(t:Hid (xs[0]? =some x)) (hb:b<w.heap.size) (l:Hid (w.cell? ⟨b,a,none⟩=some (I x))) (u:1≤id) (z:(x !=0)=true)
  (HH:Hid (∀w',U 110 #[aH aA aB (some ⟨b,a,none⟩) xs.length c,()] w' (O (.bool true) w')))
  (HV:xB 41 #[aH aA aB (some ⟨b,a,none⟩) xs.length c] w true)
  (HK:Hid (∀w',Ext w w'→U 52 #[aH aA aB (some ⟨b,a,none⟩) xs.length c] w' (cP aA aB xs w'))):
  U 103 #[aH aA aB (some ⟨b,a,none⟩) xs.length c,(),id] w (cG aA aB xs false w):=by
 have s:decide (id<1)=false:=by simp;omega
 go_enter func103,ntmps103;go_wp2_with fail;refine Z (HV _ (((Mem.start w).c0 TH3 #[aA,aB,.slice (some ⟨b,a,none⟩) xs c]).c1 TH3 #[(),(),((),())]).ext) fun w1 i=>?_
 have M1:=((((Mem.start w).c0 TH3 #[aA,aB,.slice (some ⟨b,a,none⟩) xs c]).c1 TH3 #[(),(),((),())]).adv i)
 clear i;obtain⟨h0,h1,h2⟩:=(M1.bk 1).tri;go_wp2_with fail;clear h0 h1 h2;refine(HK _ M1.ext).mono ?_;rintro e w2 ⟨q,c2,rfl,f,j⟩;have M2:=(M1.call j f)
 clear M1 j f;obtain⟨g,rfl,m,n⟩:=M2.so 0;clear m n;go_upto_region 4 with fail;obtain⟨gV,d⟩: ∃gV,gV=w2.heap.size:=⟨_,rfl⟩
 rw[←d];have M3:=(M2.blkNew TH3 #[aA,aB,.slice (some ⟨g,0,none⟩) xs c2] gV d.symm)
 generalize World.alloc _ _=w4 at M3⊢;clear M2 d;obtain⟨h0,h1,h2⟩:=(M3.bk 3).tri;go_wp2_with fail;clear h0 h1 h2;refine Z (HH _) fun w4 k=>?_
 have M4:=(M3.adv k)
 clear M3 k;have cx:w4.cell? ⟨b,a,none⟩=some (I x):=(M4.ext.cells.1 _ _ hb).trans l.out;obtain⟨h0,h1,h2⟩:=(M4.bk 3).tri;obtain⟨v0,v1,v2⟩:=(M4.bk 0).tri;obtain⟨z0,o,z1,p,z2,r⟩:=(M4.bk 2).trif;go_wp2;have M5:=((M4.st 2 0 (I aA)).st 2 1 (I aB))
 have M6:=(M5.st 2 2 (.slice (some ⟨g,0,none⟩) xs c2))
 have M7:=(show Mem w (((w4.setCell ⟨w.heap.size+1,0,none⟩ (I aA)).setCell ⟨w.heap.size+1,1,none⟩ (I aB)).setCell ⟨w.heap.size+1,2,none⟩ (.slice (some ⟨g,0,none⟩) xs c2)) [aI w (gV) TH3 #[aA,aB,.slice (some ⟨g,0,none⟩) xs c2],aJ w TI 1 (some ⟨g,0,none⟩) (xs.length) (c2) (ivs xs),aI w (w.heap.size+1) TH3 #[aA,aB,.slice (some ⟨g,0,none⟩) xs c2],aI w w TH3 #[aA,aB,.slice (some ⟨b,a,none⟩) xs c]]from M6)
 generalize h:World.setCell _ _ _=wz;rw[h]at M7;clear h M4 M5 M6 v0 v1 v2 z0 o z1 p z2 r;obtain⟨y0,y1,y2⟩:=(M7.bk 2).tri;exact bodyPost_ret (v:= .tuple #[.agg #[aA,aB,.slice (some ⟨g,0,none⟩) xs c2],.bool false]) (by simp[results,results103,go_sem, *]) rfl (dP (by simp) (by exact(M7.ow 1)) M7.ext)
theorem aBp (aA aB id:Int)(b a d:Nat)(x:Int)(xs:List Int)(w:World)(ak:4≤xs.length)(hn:xs.length≤12)(z:Hid (xs[0]? =some x)) (hb:b<w.heap.size) (u:Hid (w.cell? ⟨b,a,none⟩=some (I x))) (aj:1≤id) (al:(x !=0)=false)
  (HH:Hid (∀w',U 110 #[aH aA aB (some ⟨b,a,none⟩) xs.length d,()] w' (O (.bool true) w')))
  (y:Hid (∀w' q c,Sl w' q xs.length c 1 (ivs (xs.set 0 id))→U 41 #[aH aA aB q xs.length c] w' (O (.bool true) w')))
  (HV:xB 41 #[aH aA aB (some ⟨b,a,none⟩) xs.length d] w true)
  (HK:Hid (∀w',Ext w w'→U 52 #[aH aA aB (some ⟨b,a,none⟩) xs.length d] w' (cP aA aB xs w'))):
  U 103 #[aH aA aB (some ⟨b,a,none⟩) xs.length d,(),id] w (cG aA aB (xs.set 0 id) true w):=by
 have ai:decide (id<1)=false:=by simp;omega
 go_enter func103,ntmps103;go_wp2_with fail;refine Z (HV _ (((Mem.start w).c0 TH3 #[aA,aB,.slice (some ⟨b,a,none⟩) xs d]).c1 TH3 #[(),(),((),())]).ext) fun w1 r=>?_
 have M1:=((((Mem.start w).c0 TH3 #[aA,aB,.slice (some ⟨b,a,none⟩) xs d]).c1 TH3 #[(),(),((),())]).adv r)
 clear r;obtain⟨h0,h1,h2⟩:=(M1.bk 1).tri;go_wp2_with fail;clear h0 h1 h2;refine(HK _ M1.ext).mono ?_;rintro e w2 ⟨q,c2,rfl,n,s⟩;have M2:=(M1.call s n)
 clear M1 s n;obtain⟨g,rfl,ab,ad⟩:=M2.so 0;clear ab ad;go_upto_region 4 with fail;obtain⟨gV,k⟩: ∃gV,gV=w2.heap.size:=⟨_,rfl⟩
 rw[←k];have M3:=(M2.blkNew TH3 #[aA,aB,.slice (some ⟨g,0,none⟩) xs c2] gV k.symm)
 generalize World.alloc _ _=w4 at M3⊢;clear M2 k;obtain⟨h0,h1,h2⟩:=(M3.bk 3).tri;go_wp2_with fail;clear h0 h1 h2;refine Z (HH _) fun w4 t=>?_
 have M4:=(M3.adv t)
 clear M3 t;have cx:w4.cell? ⟨b,a,none⟩=some (I x):=(M4.ext.cells.1 _ _ hb).trans u.out;obtain⟨h0,h1,h2⟩:=(M4.bk 3).tri;obtain⟨v0,v1,v2⟩:=(M4.bk 0).tri;have gi:w4.cell? ⟨g,0,none⟩=some (I x):=by have:=(M4.ow 1).cellAt 0 (by omega);rw[this];simpa[ivs]using z.out
 have aa:w4.frozen? ⟨g,0,none⟩=false:=(M4.ow 1).frozenAt 0;go_upto_region 7 with fail;clear h0 h1 h2 v0 v1 v2 cx gi aa;have MX:=(show Mem w (w4.setCell ⟨g,0,none⟩ (I id)) [aI w (gV) TH3 #[aA,aB,.slice (some ⟨g,0,none⟩) xs c2],aJ w TI 1 (some ⟨g,0,none⟩) (xs.length) (c2) (ivs (xs.set 0 id)),aI w (w.heap.size+1) TH3 #[(),(),((),())],aI w w TH3 #[aA,aB,.slice (some ⟨b,a,none⟩) xs d]]from by rw[←dJ];exact M4.ostore (i:=1) rfl 0 (I id))
 generalize o:World.setCell _ _ _=w5;rw[o]at MX;clear o M4;obtain⟨v0,v1,v2⟩:=(MX.bk 0).tri;go_wp2_with fail;clear v0 v1 v2;refine Z (y _ _ _ (by exact(MX.sq 1))) fun ae j=>?_
 have f:=(MX.adv j)
 clear MX j;obtain⟨v0,v1,v2⟩:=(f.bk 0).tri;obtain⟨z0,af,z1,ag,z2,ah⟩:=(f.bk 2).trif;go_wp2;have l:=((f.st 2 0 (I aA)).st 2 1 (I aB))
 have m:=(l.st 2 2 (.slice (some ⟨g,0,none⟩) xs c2))
 have h:=(show Mem w (((ae.setCell ⟨w.heap.size+1,0,none⟩ (I aA)).setCell ⟨w.heap.size+1,1,none⟩ (I aB)).setCell ⟨w.heap.size+1,2,none⟩ (.slice (some ⟨g,0,none⟩) xs c2)) [aI w (gV) TH3 #[aA,aB,.slice (some ⟨g,0,none⟩) xs c2],aJ w TI 1 (some ⟨g,0,none⟩) (xs.length) (c2) (ivs (xs.set 0 id)),aI w (w.heap.size+1) TH3 #[aA,aB,.slice (some ⟨g,0,none⟩) xs c2],aI w w TH3 #[aA,aB,.slice (some ⟨b,a,none⟩) xs d]]from m)
 generalize p:World.setCell _ _ _=wz;rw[p]at h;clear p f l m v0 v1 v2 z0 af z1 ag z2 ah;obtain⟨y0,y1,y2⟩:=(h.bk 2).tri;exact bodyPost_ret (v:= .tuple #[.agg #[aA,aB,.slice (some ⟨g,0,none⟩) xs c2],.bool true]) (by simp[results,results103,go_sem, *]) rfl (dP (by simp) (by exact(h.ow 1)) h.ext)
theorem aBq (aA aB id:Int)(b a d:Nat)(x:Int)(xs:List Int)(w:World)(an:4≤xs.length)(hn:xs.length≤12)(ad:Hid (xs[0]? =some x)) (hb:b<w.heap.size) (aa:Hid (w.cell? ⟨b,a,none⟩=some (I x))) (am:1≤id) (ao:(x !=0)=false)
  (HH:Hid (∀w',U 110 #[aH aA aB (some ⟨b,a,none⟩) xs.length d,()] w' (O (.bool true) w')))
  (ab:Hid (∀w' q c,Sl w' q xs.length c 1 (ivs (xs.set 0 id))→U 41 #[aH aA aB q xs.length c] w' (O (.bool false) w')))
  (HV:xB 41 #[aH aA aB (some ⟨b,a,none⟩) xs.length d] w true)
  (HK:Hid (∀w',Ext w w'→U 52 #[aH aA aB (some ⟨b,a,none⟩) xs.length d] w' (cP aA aB xs w'))):
  U 103 #[aH aA aB (some ⟨b,a,none⟩) xs.length d,(),id] w (cG aA aB xs false w):=by
 have al:decide (id<1)=false:=by simp;omega
 go_enter func103,ntmps103;go_wp2_with fail;refine Z (HV _ (((Mem.start w).c0 TH3 #[aA,aB,.slice (some ⟨b,a,none⟩) xs d]).c1 TH3 #[(),(),((),())]).ext) fun w1 u=>?_
 have M1:=((((Mem.start w).c0 TH3 #[aA,aB,.slice (some ⟨b,a,none⟩) xs d]).c1 TH3 #[(),(),((),())]).adv u)
 clear u;obtain⟨h0,h1,h2⟩:=(M1.bk 1).tri;go_wp2_with fail;clear h0 h1 h2;refine(HK _ M1.ext).mono ?_;rintro e w2 ⟨q,c2,rfl,r,y⟩;have M2:=(M1.call y r)
 clear M1 y r;obtain⟨g,rfl,af,ag⟩:=M2.so 0;clear af ag;go_upto_region 4 with fail;obtain⟨gV,n⟩: ∃gV,gV=w2.heap.size:=⟨_,rfl⟩
 rw[←n];have M3:=(M2.blkNew TH3 #[aA,aB,.slice (some ⟨g,0,none⟩) xs c2] gV n.symm)
 generalize World.alloc _ _=w4 at M3⊢;clear M2 n;obtain⟨h0,h1,h2⟩:=(M3.bk 3).tri;go_wp2_with fail;clear h0 h1 h2;refine Z (HH _) fun w4 z=>?_
 have M4:=(M3.adv z)
 clear M3 z;have cx:w4.cell? ⟨b,a,none⟩=some (I x):=(M4.ext.cells.1 _ _ hb).trans aa.out;obtain⟨h0,h1,h2⟩:=(M4.bk 3).tri;obtain⟨v0,v1,v2⟩:=(M4.bk 0).tri;have gi:w4.cell? ⟨g,0,none⟩=some (I x):=by have:=(M4.ow 1).cellAt 0 (by omega);rw[this];simpa[ivs]using ad.out
 have ae:w4.frozen? ⟨g,0,none⟩=false:=(M4.ow 1).frozenAt 0;go_upto_region 7 with fail;clear h0 h1 h2 v0 v1 v2 cx gi ae;have MX:=(show Mem w (w4.setCell ⟨g,0,none⟩ (I id)) [aI w (gV) TH3 #[aA,aB,.slice (some ⟨g,0,none⟩) xs c2],aJ w TI 1 (some ⟨g,0,none⟩) (xs.length) (c2) (ivs (xs.set 0 id)),aI w (w.heap.size+1) TH3 #[(),(),((),())],aI w w TH3 #[aA,aB,.slice (some ⟨b,a,none⟩) xs d]]from by rw[←dJ];exact M4.ostore (i:=1) rfl 0 (I id))
 generalize s:World.setCell _ _ _=w5;rw[s]at MX;clear s M4;obtain⟨v0,v1,v2⟩:=(MX.bk 0).tri;go_wp2_with fail;clear v0 v1 v2;refine Z (ab _ _ _ (by exact(MX.sq 1))) fun ap k=>?_
 have f:=(MX.adv k)
 clear MX k;obtain⟨h0,h1,h2⟩:=(f.bk 3).tri;go_wp2_with fail;clear h0 h1 h2;refine(HK _ f.ext).mono ?_;rintro e ah ⟨q0,c0,rfl,j,l⟩;have m:=(f.call l j)
 clear f l j;obtain⟨z0,ai,z1,aj,z2,ak⟩:=(m.bk 3).trif;go_wp2;have o:=((m.st 3 0 (I aA)).st 3 1 (I aB))
 have p:=(o.st 3 2 (.slice q0 xs c0))
 have h:=(show Mem w (((ah.setCell ⟨w.heap.size+1,0,none⟩ (I aA)).setCell ⟨w.heap.size+1,1,none⟩ (I aB)).setCell ⟨w.heap.size+1,2,none⟩ (.slice q0 xs c0)) [aJ w TI 1 (q0) (xs.length) (c0) (ivs xs),aI w (gV) TH3 #[aA,aB,.slice (some ⟨g,0,none⟩) xs c2],aJ w TI 1 (some ⟨g,0,none⟩) (xs.length) (c2) (ivs (xs.set 0 id)),aI w (w.heap.size+1) TH3 #[aA,aB,.slice q0 xs c0],aI w w TH3 #[aA,aB,.slice (some ⟨b,a,none⟩) xs d]]from p)
 generalize t:World.setCell _ _ _=wz;rw[t]at h;clear t m o p z0 ai z1 aj z2 ak;obtain⟨y0,y1,y2⟩:=(h.bk 3).tri;exact bodyPost_ret (v:= .tuple #[.agg #[aA,aB,.slice q0 xs c0],.bool false]) (by simp[results,results103,go_sem, *]) rfl (dP (by simp) (by exact(h.ow 0)) h.ext)
theorem aJe (aA aB id:Int)(p:OA)(n a:Nat)(xs:List Int)(w:World)(hS:Sl w p n a 1 (ivs xs))(i:aN aA aB xs=true):
  U 103 #[aH aA aB p n a,(),id] w (cG aA aB (cH aA aB xs id).1 (cH aA aB xs id).2 w):=by
 have hl:=hS.ilen;subst hl;obtain⟨g1,g2,g3,g4,g5,g6,g7,g8,g9⟩:=bL i;have HV: ∀w',Ext w w'→U 41 #[aH aA aB p xs.length a] w' (O (.bool true) w'):=fun w' hx=>by have:=eV aA aB p xs.length a xs w' (hS.ext hx);rwa[i]at this
 have HK:=fun(w':World) (hx:Ext w w')=>kC aA aB p xs.length a xs w' (by omega) (hS.ext hx)
 have HH: ∀w',U 110 #[aH aA aB p xs.length a,()] w' (O (.bool true) w'):=fun w'=>by have:=gY aA aB 0 p xs.length a w' (by omega);rwa[decide_eq_true (⟨by omega,by omega⟩:0≤(0:Int)∧(0:Int)<xs.length)]at this
 obtain⟨b,g,rfl,hb,j⟩:=hS.rd (by omega);have f:xs[0]? =some (xs.getD 0 0):=by rw[aK6,aK2 (by omega)];rfl
 have h:w.cell? ⟨b,g,none⟩=some (I (xs.getD 0 0)):=by have:=j 0 (by omega);rw[Nat.add_zero]at this;rw[this];simp only[ivs,aKl,f,aKv]
 by_cases h1:id<1
 ·rw[show cH aA aB xs id=(xs,false) by unfold cH;rw[if_neg (by omega)]];exact aEg aA aB id b g a _ xs w g5 g6 f hb h h1 HV HK
 by_cases h2:xs.getD 0 0=0
 ·have d:(xs.getD 0 0 !=0)=false:=by rw[h2];rfl
  cases hv:aN aA aB (xs.set 0 id)with
  |true=>rw[show cH aA aB xs id=(xs.set 0 id,true) by unfold cH;rw[if_pos ⟨h2,by omega,hv⟩]];refine aBp aA aB id b g a _ xs w g5 g6 f hb h (by omega) d HH (fun w' q c hL=> ?_) HV HK;have:=eV aA aB q xs.length c _ w' hL;rwa[hv]at this
  |false=>rw[show cH aA aB xs id=(xs,false) by unfold cH;rw[if_neg (by rw[hv];simp)]];refine aBq aA aB id b g a _ xs w g5 g6 f hb h (by omega) d HH (fun w' q c hL=> ?_) HV HK;have:=eV aA aB q xs.length c _ w' hL;rwa[hv]at this
 rw[show cH aA aB xs id=(xs,false) by unfold cH;rw[if_neg (by omega)]];exact zH aA aB id b g a _ xs w g5 g6 f hb h (by omega) (by simpa using h2) HH HV HK
theorem wV (aA aB id:Int)(p:OA)(n a:Nat)(xs:List Int)(w:World)(b:Hid (xs.length=n))
  (HV:xB 41 #[aH aA aB p n a] w true)
  (HC:xC 102 #[aH aA aB p n a] w fun w' e w''=> ∃v,e= .returned (.tuple #[v,.bool false])∧Ext w' w'')
  (HL:xC 52 #[aH aA aB p n a] w fun w' e w''=> ∃q c,e= .returned (aH aA aB q n c)∧w''.ownsRow w' TI 1 (.slice q n c) n (ivs xs)∧Ext w' w''):
  U 69 #[aH aA aB p n a,id] w (cF aA aB xs (-1) w):=by
 go_enter func69,ntmps69;go_wp2_with fail;refine Z (HV _ (((Mem.start w).c0 TH3 #[aA,aB,.slice p n a]).c1 TH3 #[(),(),((),())]).ext) fun w1 g=>?_
 have M1:=((((Mem.start w).c0 TH3 #[aA,aB,.slice p n a]).c1 TH3 #[(),(),((),())]).adv g)
 clear g;obtain⟨h0,h1,h2⟩:=(M1.bk 1).tri;go_wp2_with fail;clear h0 h1 h2;refine(HC _ M1.ext).mono ?_;rintro e w2 ⟨v,rfl,h⟩;have M2:=(M1.adv h)
 clear M1 h;obtain⟨h0,h1,h2⟩:=(M2.bk 1).tri;go_wp2_with fail;clear h0 h1 h2;refine(HL _ M2.ext).mono ?_;rintro e w3 ⟨q0,c0,rfl,d,i⟩;have M3:=(M2.call i d)
 clear M2 i d;obtain⟨z0,j,z1,k,z2,l⟩:=(M3.bk 1).trif;go_wp2;have M4:=((M3.st 1 0 (I aA)).st 1 1 (I aB))
 have M5:=(M4.st 1 2 (.slice q0 n c0))
 clear z0 j z1 k z2 l;have M6:=(show Mem w (((w3.setCell ⟨w.heap.size+1,0,none⟩ (I aA)).setCell ⟨w.heap.size+1,1,none⟩ (I aB)).setCell ⟨w.heap.size+1,2,none⟩ (.slice q0 n c0)) [aJ w TI 1 (q0) (n) (c0) (ivs xs),aI w (w.heap.size+1) TH3 #[aA,aB,.slice q0 n c0],aI w w TH3 #[aA,aB,.slice p n a]]from M5)
 generalize f:World.setCell _ _ _=wz;rw[f]at M6;clear f M3 M4 M5;obtain⟨y0,y1,y2⟩:=(M6.bk 1).tri;exact bodyPost_ret (v:= .tuple #[.agg #[aA,aB,.slice q0 n c0],(-1:Int)]) (by simp[results,results69,go_sem, *]) rfl (dX b.out (M6.ow 0) M6.ext)
theorem aBj (aA aB id:Int)(p:OA)(n a K:Nat)(xs ys zs:List Int)(sl:List Sl2)(w:World)(d:Hid (xs.length=n))
  (HV:xB 41 #[aH aA aB p n a] w true)
  (HC:xC 102 #[aH aA aB p n a] w fun w' e w''=> ∃q c,e= .returned (.tuple #[.slice q K c,.bool true])∧w''.ownsRow w' TSL 2 (.slice q K c) K (sl.flatMap aK)∧Ext w' w'')
  (HR:Hid (∀w' q c,Ext w w'→Sl w' q K c 2 (sl.flatMap aK)→U 104 #[aH aA aB p n a,.slice q K c] w' fun e w''=> ∃q c,e= .returned (aH aA aB q n c)∧w''.ownsRow w' TI 1 (.slice q n c) n (ivs ys)∧Ext w' w''))
  (HP:Hid (∀w' q c,Ext w w'→Sl w' q n c 1 (ivs ys)→U 103 #[aH aA aB q n c,(),id] w' fun e w''=> ∃q c,e= .returned (.tuple #[aH aA aB q n c,.bool false])∧w''.ownsRow w' TI 1 (.slice q n c) n (ivs zs)∧Ext w' w''))
  (HL:xC 52 #[aH aA aB p n a] w fun w' e w''=> ∃q c,e= .returned (aH aA aB q n c)∧w''.ownsRow w' TI 1 (.slice q n c) n (ivs xs)∧Ext w' w''):
  U 69 #[aH aA aB p n a,id] w (cF aA aB xs (-1) w):=by
 go_enter func69,ntmps69;go_wp2_with fail;refine Z (HV _ (((Mem.start w).c0 TH3 #[aA,aB,.slice p n a]).c1 TH3 #[(),(),((),())]).ext) fun w1 k=>?_
 have M1:=((((Mem.start w).c0 TH3 #[aA,aB,.slice p n a]).c1 TH3 #[(),(),((),())]).adv k)
 clear k;obtain⟨h0,h1,h2⟩:=(M1.bk 1).tri;go_wp2_with fail;clear h0 h1 h2;refine(HC _ M1.ext).mono ?_;rintro e w2 ⟨qs,cs,rfl,f,l⟩;have M2:=(M1.call l f)
 clear M1 l f;obtain⟨h0,h1,h2⟩:=(M2.bk 2).tri;go_wp2_with fail;clear h0 h1 h2;refine(HR _ qs cs M2.ext (M2.sq 0)).mono ?_;rintro e w3 ⟨q1,c1,rfl,g,m⟩;have M3:=(M2.call m g)
 clear M2 m g;go_wp2_with fail;refine(HP _ q1 c1 M3.ext (M3.sq 0)).mono ?_;rintro e w4 ⟨q2,c2,rfl,h,o⟩;have M4:=(M3.call o h)
 clear M3 o h;go_upto_region 7 with fail;obtain⟨gV,b⟩: ∃gV,gV=w4.heap.size:=⟨_,rfl⟩
 rw[←b];have M5:=(M4.blkNew TH3 #[aA,aB,.slice q2 n c2] gV b.symm)
 generalize World.alloc _ _=w7 at M5⊢;clear M4 b;obtain⟨h0,h1,h2⟩:=(M5.bk 5).tri;go_wp2_with fail;clear h0 h1 h2;refine(HL _ M5.ext).mono ?_;rintro e w6 ⟨q0,c0,rfl,i,r⟩;have M6:=(M5.call r i)
 clear M5 r i;obtain⟨z0,s,z1,t,z2,u⟩:=(M6.bk 5).trif;go_wp2;have M7:=((M6.st 5 0 (I aA)).st 5 1 (I aB))
 have M8:=(M7.st 5 2 (.slice q0 n c0))
 clear z0 s z1 t z2 u;have M9:=(show Mem w (((w6.setCell ⟨w.heap.size+1,0,none⟩ (I aA)).setCell ⟨w.heap.size+1,1,none⟩ (I aB)).setCell ⟨w.heap.size+1,2,none⟩ (.slice q0 n c0)) [aJ w TI 1 (q0) (n) (c0) (ivs xs),aI w (gV) TH3 #[aA,aB,.slice q2 n c2],aJ w TI 1 (q2) (n) (c2) (ivs zs),aJ w TI 1 (q1) (n) (c1) (ivs ys),aJ w TSL 2 (qs) (K) (cs) (sl.flatMap aK),aI w (w.heap.size+1) TH3 #[aA,aB,.slice q0 n c0],aI w w TH3 #[aA,aB,.slice p n a]]from M8)
 generalize j:World.setCell _ _ _=wz;rw[j]at M9;clear j M6 M7 M8;obtain⟨y0,y1,y2⟩:=(M9.bk 5).tri;exact bodyPost_ret (v:= .tuple #[.agg #[aA,aB,.slice q0 n c0],(-1:Int)]) (by simp[results,results69,go_sem, *]) rfl (dX d.out (M9.ow 0) M9.ext)
theorem zB (aA aB id:Int)(p:OA)(n a K:Nat)(ys zs:List Int)(sl:List Sl2)(w:World)(d:Hid (zs.length=n))
  (HV:xB 41 #[aH aA aB p n a] w true)
  (HC:xC 102 #[aH aA aB p n a] w fun w' e w''=> ∃q c,e= .returned (.tuple #[.slice q K c,.bool true])∧w''.ownsRow w' TSL 2 (.slice q K c) K (sl.flatMap aK)∧Ext w' w'')
  (HR:Hid (∀w' q c,Ext w w'→Sl w' q K c 2 (sl.flatMap aK)→U 104 #[aH aA aB p n a,.slice q K c] w' fun e w''=> ∃q c,e= .returned (aH aA aB q n c)∧w''.ownsRow w' TI 1 (.slice q n c) n (ivs ys)∧Ext w' w''))
  (HP:Hid (∀w' q c,Ext w w'→Sl w' q n c 1 (ivs ys)→U 103 #[aH aA aB q n c,(),id] w' fun e w''=> ∃q c,e= .returned (.tuple #[aH aA aB q n c,.bool true])∧w''.ownsRow w' TI 1 (.slice q n c) n (ivs zs)∧Ext w' w'')):
  U 69 #[aH aA aB p n a,id] w (cF aA aB zs (K:Int) w):=by
 go_enter func69,ntmps69;go_wp2_with fail;refine Z (HV _ (((Mem.start w).c0 TH3 #[aA,aB,.slice p n a]).c1 TH3 #[(),(),((),())]).ext) fun w1 j=>?_
 have M1:=((((Mem.start w).c0 TH3 #[aA,aB,.slice p n a]).c1 TH3 #[(),(),((),())]).adv j)
 clear j;obtain⟨h0,h1,h2⟩:=(M1.bk 1).tri;go_wp2_with fail;clear h0 h1 h2;refine(HC _ M1.ext).mono ?_;rintro e w2 ⟨qs,cs,rfl,f,k⟩;have M2:=(M1.call k f)
 clear M1 k f;obtain⟨h0,h1,h2⟩:=(M2.bk 2).tri;go_wp2_with fail;clear h0 h1 h2;refine(HR _ qs cs M2.ext (M2.sq 0)).mono ?_;rintro e w3 ⟨q1,c1,rfl,g,l⟩;have M3:=(M2.call l g)
 clear M2 l g;go_wp2_with fail;refine(HP _ q1 c1 M3.ext (M3.sq 0)).mono ?_;rintro e w4 ⟨q2,c2,rfl,h,m⟩;have M4:=(M3.call m h)
 clear M3 m h;go_upto_region 7 with fail;obtain⟨gV,b⟩: ∃gV,gV=w4.heap.size:=⟨_,rfl⟩
 rw[←b];have M5:=(M4.blkNew TH3 #[aA,aB,.slice q2 n c2] gV b.symm)
 generalize World.alloc _ _=w7 at M5⊢;clear M4 b;obtain⟨v0,v1,v2⟩:=(M5.bk 0).tri;obtain⟨z0,o,z1,r,z2,s⟩:=(M5.bk 4).trif;go_wp2;have M6:=((M5.st 4 0 (I aA)).st 4 1 (I aB))
 have M7:=(M6.st 4 2 (.slice q2 n c2))
 clear v0 v1 v2 z0 o z1 r z2 s;have M8:=(show Mem w (((w7.setCell ⟨w.heap.size+1,0,none⟩ (I aA)).setCell ⟨w.heap.size+1,1,none⟩ (I aB)).setCell ⟨w.heap.size+1,2,none⟩ (.slice q2 n c2)) [aI w (gV) TH3 #[aA,aB,.slice q2 n c2],aJ w TI 1 (q2) (n) (c2) (ivs zs),aJ w TI 1 (q1) (n) (c1) (ivs ys),aJ w TSL 2 (qs) (K) (cs) (sl.flatMap aK),aI w (w.heap.size+1) TH3 #[aA,aB,.slice q2 n c2],aI w w TH3 #[aA,aB,.slice p n a]]from M7)
 generalize i:World.setCell _ _ _=wz;rw[i]at M8;clear i M5 M6 M7;obtain⟨y0,y1,y2⟩:=(M8.bk 4).tri;exact bodyPost_ret (v:= .tuple #[.agg #[aA,aB,.slice q2 n c2],K]) (by simp[results,results69,go_sem, *]) rfl (dX d.out (M8.ow 1) M8.ext)
theorem oS {aA aB:Int}: ∀(l:List Sl2) (xs ys:List Int),aV aA aB xs l=(ys,l.length)→dS aA aB xs l=ys
 | [],xs,ys,h=>by simp only[aV,aKx]at h;exact h.1
 |s::l,xs,ys,h=>by
  show dS aA aB (bD aA aB xs s.1 s.2) l=ys;cases hm:aX aA aB xs s.1 s.2 with
  |false=>rw[iZ hm]at h;simp at h
  |true=>rw[dR hm]at h;simp only[aKx,aLs]at h;exact oS l _ ys (Prod.ext h.1 (by have:=h.2;dsimp only;omega))
theorem aE8 (aA aB id:Int)(p:OA)(n a:Nat)(xs:List Int)(w:World)(hS:Sl w p n a 1 (ivs xs))(b:aN aA aB xs=true):
  U 69 #[aH aA aB p n a,id] w (cF aA aB (bV aA aB xs id).1 (bV aA aB xs id).2 w):=by
 have hl:=hS.ilen;subst hl;obtain⟨g1,g2,g3,g4,g5,g6,g7⟩:=bZ (cC b);have HV: ∀w',Ext w w'→U 41 #[aH aA aB p xs.length a] w' (O (.bool true) w'):=fun w' hy=>by have:=eV aA aB p xs.length a xs w' (hS.ext hy);rwa[b]at this
 have HL:=fun(w':World) (hy:Ext w w')=>kC aA aB p xs.length a xs w' (by omega) (hS.ext hy)
 have HC:=fun(w':World) (hy:Ext w w')=>aJh aA aB p xs.length a xs w' (hS.ext hy) b
 cases hr:fY aA xs with
 |none=>
  have e:bV aA aB xs id=(xs,-1):=by unfold bV kK;rw[hr]
  rw[e];rw[hr]at HC;exact wV aA aB id p xs.length a xs w rfl HV HC HL
 |some r=>
  rw[hr]at HC;obtain⟨f1,f2,f3,f4,f5⟩:=nD b hr;have d:dS aA aB xs r.2=r.1:=oS _ _ _ f1;have HR: ∀w' q c,Ext w w'→Sl w' q r.2.length c 2 (r.2.flatMap aK)→U 104 #[aH aA aB p xs.length a,.slice q r.2.length c] w' fun e w''=> ∃q c,e= .returned (aH aA aB q xs.length c)∧w''.ownsRow w' TI 1 (.slice q xs c) xs.length (ivs r.1)∧Ext w' w'':=fun w' q c hy hL=>by have:=vK aA aB p xs.length a xs q r.2.length c r.2 w' rfl (hS.ext hy) b hL;rw[d]at this;unfold cP at this;rw[f3]at this;exact this
  have HP: ∀w' q c,Ext w w'→Sl w' q xs.length c 1 (ivs r.1)→U 103 #[aH aA aB q xs.length c,(),id] w' fun e w''=> ∃q c,e= .returned (.tuple #[aH aA aB q xs.length c,.bool (cH aA aB r.1 id).2])∧w''.ownsRow w' TI 1 (.slice q xs c) xs.length (ivs (cH aA aB r.1 id).1)∧Ext w' w'':=fun w' q c hy hL=>by have:=aJe aA aB id q xs.length c r.1 w' hL f2;unfold cG at this;rw[kO,f3]at this;exact this
  cases hb:(cH aA aB r.1 id).2 with
  |false=>
   have e:bV aA aB xs id=(xs,-1):=by simp[bV,kK,hr,hb]
   rw[e];rw[hb]at HP;exact aBj aA aB id p xs.length a r.2.length xs r.1 (cH aA aB r.1 id).1 r.2 w rfl HV HC HR HP HL
  |true=>
   have e:bV aA aB xs id=((cH aA aB r.1 id).1,(r.2.length:Int)):=by simp[bV,kK,hr,hb]
   rw[e];rw[hb]at HP;exact zB aA aB id p xs.length a r.2.length r.1 (cH aA aB r.1 id).1 r.2 w (show _=_ by rw[kO,f3]) HV HC HR HP
theorem aB0 (id:Int)(p:OA)(n c:Nat)(xs:List Int)(w:World)(hS:Sl w p n c 1 (ivs xs)):
  U 172 #[.slice p n c,id] w (O (I (oB xs id)) w):=by
 have f:=hS.bd;have HS:=xQ hS;have hl:=xQ hS.ilen;clear hS;go_enter func172,ntmps172;go_wp2;go_loop [8] (fun i=> ∃k:Nat,k≤n∧i=I k∧id∉xs.take k) (fun i=>n-(intOf i).toNat)
 case atStart=>exact⟨0,aK8 _,rfl,by simp⟩
 case round=>
  obtain⟨k,hk,rfl,hc⟩:=hrel;have HC:=xQ hc;clear hc;by_cases hlt:k<n
  ·obtain⟨b,g,y,rfl,hx,hb,d⟩:=HS.out.int_at hlt;have HX:=xQ hx;clear hx;by_cases hy:y=id
   ·have t1:(id==y)=true:=by simp[hy]
    have a:Hid (oB xs id=k):=pK (by rw[HX.out,hy]) HC.out;clear hy;go_wp2;go_ret;exact⟨fE a.out.symm,by exact .refl _⟩
   have t1:(id==y)=false:=by simp;exact fun e=>hy e.symm
   have a:Hid (id∉xs.take (k+1)):=by show _∉_;rw[bE HX.out,aKn,aKm];exact fun h=>h.elim HC (fun e=>hy e.symm)
   clear hy;go_wp2;go_round
   case rel=>exact⟨k+1,by omega,by go_num,a.out⟩
   case measure=>simp[intOf];omega
  have a:Hid (oB xs id= -1):=qM (by have:=HC.out;rwa[aKb (by rw[hl.out];omega)]at this);go_wp2;go_ret;exact⟨fE a.out.symm,by exact .refl _⟩
theorem uI (aA aB id:Int)(p:OA)(n a:Nat)(b:Bool)(w:World)(hb:b=false∨b=true∧id<1)(HV:xB 41 #[aH aA aB p n a] w b):
  U 139 #[aH aA aB p n a,id] w (O (I (-1)) w):=by
 rcases hb with rfl|⟨rfl,hi⟩
 all_goals
  go_enter func139,ntmps139;go_wp2_with fail;refine Z (HV _ (by exact .alloc (.refl _) _)) fun w1 c=>?_
  go_wp2;go_ret;exact⟨rfl,by exact .trans (.alloc (.refl _) _) c⟩
theorem wX (aA aB id:Int)(p:OA)(n a:Nat)(xs:List Int)(w:World)(hi:1≤id)(HI:xC 172 #[.slice p n a,id] w fun w' e w''=>e= .returned (I (oB xs id))∧Ext w' w'')(HV:xB 41 #[aH aA aB p n a] w true):
  U 139 #[aH aA aB p n a,id] w (O (I (oB xs id)) w):=by
 go_enter func139,ntmps139;go_wp2_with fail;refine Z (HV _ (by exact .alloc (.refl _) _)) fun w1 b=>?_
 have hB:=(Blk.new w TH3 #[aA,aB,.slice p n a]).ext b;have X1:=xQ (show Ext w w1 by exact .trans (.alloc (.refl _) _) b);obtain⟨b0,b1,b2⟩:=hB.cells3;clear b hB;go_wp2_with fail;refine Z (HI _ X1.out) fun w2 c=>?_
 have X2:=X1.out.trans c;go_wp2;go_ret;exact⟨rfl,X2⟩
theorem vJ (aA aB id:Int)(p:OA)(n a:Nat)(xs:List Int)(w:World)(hS:Sl w p n a 1 (ivs xs)):
  U 139 #[aH aA aB p n a,id] w (O (I (gH aA aB xs id)) w):=by
 have HV:=fun(w':World) (hx:Ext w w')=>eV aA aB p n a xs w' (hS.ext hx)
 unfold gH;by_cases h:aN aA aB xs=true∧1≤id
 ·rw[if_pos h];rw[h.1]at HV;exact wX aA aB id p n a xs w h.2 (xQ fun w' hx=>aB0 id p n a xs w' (hS.ext hx)) (xQ HV)
 rw[if_neg h];refine uI aA aB id p n a (aN aA aB xs) w ?_ (xQ HV);cases hh:aN aA aB xs with
 |false=>exact .inl rfl
 |true=>
  refine .inr ⟨rfl,?_⟩;by_cases h1:1≤id
  ·exact absurd ⟨hh,h1⟩ h
  omega
theorem aJj (aA aB:Int)(c:Nat)(id:Int)(p:OA)(n b:Nat)(xs:List Int)(w:World)(hS:Sl w p n b 1 (ivs xs))(a:aN aA aB xs=true)(hc:xs[c]? =some id) (h0:id≠0) (hE:BitTab w):
  U 140 #[aH aA aB p n b,c] w (iL (cZ aA xs c) w):=by
 have hl:=hS.ilen;subst hl;obtain⟨g1,g2,g3,g4,g5,g6,g7,g8,g9⟩:=bL a;have g:(2:Nat) ^ xs.length≤4096:=aK9 (aKd (by omega) g6) (by decide);have i:=aM1 xs.length;have m:=(aK4.1 hc).1;have hN:xs.length*2 ^ xs.length≤12*4096:=Nat.mul_le_mul g6 g;have hC:c*2 ^ xs.length≤12*4096:=Nat.mul_le_mul (by omega) g;have l:xs.length≤xs.length*2 ^ xs.length:=Nat.le_mul_of_pos_right _ i;obtain⟨p1,p2,p3⟩:=pZ a hc h0;have hD:=kF (aA:=aA) (many:=(bG xs).length) g6;have h:=(pO g5 g6 hD).bd;obtain⟨pb,po,rfl,hb,j⟩:=hS.rd (by omega);have f: ∀(k:Nat) (B:List Int) (Q:List Nat),aHt aA xs c k B Q→SOk (xs.length*2 ^ xs.length) B Q:=fun k B Q hr=>(hr.ok p1 h).1
 refine aH1 aA aB pb po xs.length b (xs.length*2 ^ xs.length) (2 ^ xs.length) c (c*2 ^ xs.length) (eB xs.length (st0 xs c)) xs (cL xs) (fun u=>mE aA xs.length (2 ^ xs.length) u) w g5 g6 rfl hb hE (by omega) l hC rfl rfl rfl rfl p1 (by simp) ?_ ?_ (fun k x hx=> ?_) rfl (fun k x hx=> ?_) (fun k hk w' hx=> ?_) (fun u v hu hv=>h u v hu hv) (fun k B Q hr=>f k B Q hr) (fun k u B Q hr hu hz=> ?_) (fun k B Q hr hk=>aAz a g5 g6 hc h0 hr hk)
 ·have e:(c:Int)*((2 ^ xs.length:Nat):Int)=((c*2 ^ xs.length:Nat):Int):=by push_cast;rfl
  rw[e];exact aK3 _ (by omega)
 ·have e:(xs.length:Int)*((2 ^ xs.length:Nat):Int)=((xs.length*2 ^ xs.length:Nat):Int):=by push_cast;rfl
  rw[e];exact aK3 _ (by omega)
 ·have hk:=(aK4.1 hx).1;rw[eU hk,aK6,hx];rfl
 ·have hk:=(aK4.1 hx).1;rw[j k (by omega)];simp only[ivs,aKl,hx,aKv]
 ·have:=aBz aA aB k _ xs.length b xs w' (hS.ext hx) a (by omega) (by omega);rwa[jT]at this
 obtain⟨d,hd⟩:=yN a g5 g6 hc h0 hr hu hz;exact⟨d,_,_,hd.d60,hd.trail g6 (f k B Q hr).len,rfl,hd.last.symm,hd.way⟩
theorem aEo (aA aB id:Int)(p:OA)(n a:Nat)(w:World)
  (HF:xC 139 #[aH aA aB p n a,id] w fun w' e w''=>e= .returned (I (-1))∧Ext w' w''):
  U 109 #[aH aA aB p n a,id] w (iL none w):=by
 go_enter func109,ntmps109;go_wp2_with fail;refine Z (HF _ ((Mem.start w).c0 TH3 #[aA,aB,.slice p n a]).ext) fun w1 b=>?_
 have M1:=(((Mem.start w).c0 TH3 #[aA,aB,.slice p n a]).adv b)
 clear b;have HX:=xQ (M1.ext);go_wp2;exact bodyPost_ret (v:= .tuple #[((),()),.bool false]) (by simp[results,results109,go_sem, *]) rfl ⟨_,rfl,HX.out⟩
theorem aC0 (aA aB id:Int)(c:Nat)(p:OA)(n a:Nat)(r:Option (List Sl2))(w:World)
  (HF:xC 139 #[aH aA aB p n a,id] w fun w' e w''=>e= .returned (I c)∧Ext w' w'')
  (HB:Hid (∀w',Ext w w'→U 140 #[aH aA aB p n a,c] w' (iL r w'))):
  U 109 #[aH aA aB p n a,id] w (iL r w):=by
 go_enter func109,ntmps109;go_wp2_with fail;refine Z (HF _ ((Mem.start w).c0 TH3 #[aA,aB,.slice p n a]).ext) fun w1 f=>?_
 have M1:=(((Mem.start w).c0 TH3 #[aA,aB,.slice p n a]).adv f)
 clear f;obtain⟨h0,h1,h2⟩:=(M1.bk 0).tri;go_wp2_with fail;clear h0 h1 h2;have HX:=xQ (M1.ext);refine(HB _ HX.out).mono ?_;intro e w9 hr;have d:=xQ hr;clear hr HB;cases r with
 |none=>obtain⟨v,rfl,b⟩:=d.out;go_wp2;exact bodyPost_ret (v:= .tuple #[v,.bool false]) (by simp[results,results109,go_sem, *]) rfl ⟨_,rfl,HX.out.trans b⟩
 |some l=>obtain⟨q9,c9,rfl,o9,b⟩:=d.out;go_wp2;exact bodyPost_ret (v:= .tuple #[.slice q9 l c9,.bool true]) (by simp[results,results109,go_sem, *]) rfl ⟨q9,c9,rfl,bF o9 HX.out.sz,HX.out.trans b⟩
theorem tF (aA aB id:Int)(p:OA)(n a:Nat)(xs:List Int)(w:World)(b:Hid (xs.length=n))
  (HV:xB 41 #[aH aA aB p n a] w true)
  (HB:xC 109 #[aH aA aB p n a,id] w fun w' e w''=> ∃v,e= .returned (.tuple #[v,.bool false])∧Ext w' w'')
  (HL:xC 52 #[aH aA aB p n a] w fun w' e w''=> ∃q c,e= .returned (aH aA aB q n c)∧w''.ownsRow w' TI 1 (.slice q n c) n (ivs xs)∧Ext w' w''):
  U 73 #[aH aA aB p n a,id] w (cF aA aB xs (-1) w):=by
 go_enter func73,ntmps73;go_wp2_with fail;refine Z (HV _ (((Mem.start w).c0 TH3 #[aA,aB,.slice p n a]).c1 TH3 #[(),(),((),())]).ext) fun w1 g=>?_
 have M1:=((((Mem.start w).c0 TH3 #[aA,aB,.slice p n a]).c1 TH3 #[(),(),((),())]).adv g)
 clear g;obtain⟨h0,h1,h2⟩:=(M1.bk 1).tri;go_wp2_with fail;clear h0 h1 h2;refine(HB _ M1.ext).mono ?_;rintro e w2 ⟨v,rfl,h⟩;have M2:=(M1.adv h)
 clear M1 h;obtain⟨h0,h1,h2⟩:=(M2.bk 1).tri;go_wp2_with fail;clear h0 h1 h2;refine(HL _ M2.ext).mono ?_;rintro e w3 ⟨q0,c0,rfl,d,i⟩;have M3:=(M2.call i d)
 clear M2 i d;obtain⟨z0,j,z1,k,z2,l⟩:=(M3.bk 1).trif;go_wp2;have M4:=((M3.st 1 0 (I aA)).st 1 1 (I aB))
 have M5:=(M4.st 1 2 (.slice q0 n c0))
 clear z0 j z1 k z2 l;have M6:=(show Mem w (((w3.setCell ⟨w.heap.size+1,0,none⟩ (I aA)).setCell ⟨w.heap.size+1,1,none⟩ (I aB)).setCell ⟨w.heap.size+1,2,none⟩ (.slice q0 n c0)) [aJ w TI 1 (q0) (n) (c0) (ivs xs),aI w (w.heap.size+1) TH3 #[aA,aB,.slice q0 n c0],aI w w TH3 #[aA,aB,.slice p n a]]from M5)
 generalize f:World.setCell _ _ _=wz;rw[f]at M6;clear f M3 M4 M5;obtain⟨y0,y1,y2⟩:=(M6.bk 1).tri;exact bodyPost_ret (v:= .tuple #[.agg #[aA,aB,.slice q0 n c0],(-1:Int)]) (by simp[results,results73,go_sem, *]) rfl (dX b.out (M6.ow 0) M6.ext)
theorem zI (aA aB id:Int)(p:OA)(n a K:Nat)(y0:Int)(ys:List Int)(sl:List Sl2)(w:World)(ae:0<n)(j:Hid (ys.length=n))(u:Hid (ys[0]? =some y0))
  (HV:xB 41 #[aH aA aB p n a] w true)
  (HB:xC 109 #[aH aA aB p n a,id] w fun w' e w''=> ∃q c,e= .returned (.tuple #[.slice q K c,.bool true])∧w''.ownsRow w' TSL 2 (.slice q K c) K (sl.flatMap aK)∧Ext w' w'')
  (HR:Hid (∀w' q c,Ext w w'→Sl w' q K c 2 (sl.flatMap aK)→U 104 #[aH aA aB p n a,.slice q K c] w' fun e w''=> ∃q c,e= .returned (aH aA aB q n c)∧w''.ownsRow w' TI 1 (.slice q n c) n (ivs ys)∧Ext w' w'')):
  U 73 #[aH aA aB p n a,id] w (cF aA aB (ys.set 0 0) (K:Int) w):=by
 go_enter func73,ntmps73;go_wp2_with fail;refine Z (HV _ (((Mem.start w).c0 TH3 #[aA,aB,.slice p n a]).c1 TH3 #[(),(),((),())]).ext) fun w1 r=>?_
 have M1:=((((Mem.start w).c0 TH3 #[aA,aB,.slice p n a]).c1 TH3 #[(),(),((),())]).adv r)
 clear r;obtain⟨h0,h1,h2⟩:=(M1.bk 1).tri;go_wp2_with fail;clear h0 h1 h2;refine(HB _ M1.ext).mono ?_;rintro e w2 ⟨qs,cs,rfl,k,s⟩;have M2:=(M1.call s k)
 clear M1 s k;obtain⟨h0,h1,h2⟩:=(M2.bk 2).tri;go_wp2_with fail;clear h0 h1 h2;refine(HR _ qs cs M2.ext (M2.sq 0)).mono ?_;rintro e w3 ⟨q1,c1,rfl,l,t⟩;have M3:=(M2.call t l)
 clear M2 t l;obtain⟨g,rfl,y,z⟩:=M3.so 0;clear y z;go_upto_region 7 with fail;obtain⟨gV,d⟩: ∃gV,gV=w3.heap.size:=⟨_,rfl⟩
 rw[←d];have M4:=(M3.blkNew TH3 #[aA,aB,.slice (some ⟨g,0,none⟩) n c1] gV d.symm)
 generalize World.alloc _ _=w7 at M4⊢;clear M3 d;obtain⟨v0,v1,v2⟩:=(M4.bk 0).tri;have gi:w7.cell? ⟨g,0,none⟩=some (I y0):=by have:=(M4.ow 1).cellAt 0 (by omega);rw[this];simpa[ivs]using u.out
 have x:w7.frozen? ⟨g,0,none⟩=false:=(M4.ow 1).frozenAt 0;go_upto_region 8 with fail;clear v0 v1 v2 gi x;have MX:=(show Mem w (w7.setCell ⟨g,0,none⟩ (I 0)) [aI w (gV) TH3 #[aA,aB,.slice (some ⟨g,0,none⟩) n c1],aJ w TI 1 (some ⟨g,0,none⟩) (n) (c1) (ivs (ys.set 0 0)),aJ w TSL 2 (qs) (K) (cs) (sl.flatMap aK),aI w (w.heap.size+1) TH3 #[(),(),((),())],aI w w TH3 #[aA,aB,.slice p n a]]from by rw[←dJ];exact M4.ostore (i:=1) rfl 0 (I 0))
 generalize m:World.setCell _ _ _=w8;rw[m]at MX;clear m M4;obtain⟨v0,v1,v2⟩:=(MX.bk 0).tri;obtain⟨z0,aa,z1,ab,z2,ad⟩:=(MX.bk 3).trif;go_wp2;have f:=((MX.st 3 0 (I aA)).st 3 1 (I aB))
 have h:=(f.st 3 2 (.slice (some ⟨g,0,none⟩) n c1))
 clear v0 v1 v2 z0 aa z1 ab z2 ad;have b:=(show Mem w (((w8.setCell ⟨w.heap.size+1,0,none⟩ (I aA)).setCell ⟨w.heap.size+1,1,none⟩ (I aB)).setCell ⟨w.heap.size+1,2,none⟩ (.slice (some ⟨g,0,none⟩) n c1)) [aI w (gV) TH3 #[aA,aB,.slice (some ⟨g,0,none⟩) n c1],aJ w TI 1 (some ⟨g,0,none⟩) (n) (c1) (ivs (ys.set 0 0)),aJ w TSL 2 (qs) (K) (cs) (sl.flatMap aK),aI w (w.heap.size+1) TH3 #[aA,aB,.slice (some ⟨g,0,none⟩) n c1],aI w w TH3 #[aA,aB,.slice p n a]]from h)
 generalize o:World.setCell _ _ _=wz;rw[o]at b;clear o MX f h;obtain⟨y0,y1,y2⟩:=(b.bk 3).tri;exact bodyPost_ret (v:= .tuple #[.agg #[aA,aB,.slice (some ⟨g,0,none⟩) n c1],K]) (by simp[results,results73,go_sem, *]) rfl (dX (by rw[aL9];exact j.out) (b.ow 1) b.ext)
theorem aEk (aA aB id:Int)(p:OA)(n a:Nat)(xs:List Int)(w:World)(hS:Sl w p n a 1 (ivs xs))(b:aN aA aB xs=true)(hE:BitTab w):
  U 73 #[aH aA aB p n a,id] w (cF aA aB (bR aA aB xs id).1 (bR aA aB xs id).2 w):=by
 have hl:=hS.ilen;subst hl;obtain⟨g1,g2,g3,g4,g5,g6,g7⟩:=bZ (cC b);have HV: ∀w',Ext w w'→U 41 #[aH aA aB p xs.length a] w' (O (.bool true) w'):=fun w' hy=>by have:=eV aA aB p xs.length a xs w' (hS.ext hy);rwa[b]at this
 have HL:=fun(w':World) (hy:Ext w w')=>kC aA aB p xs.length a xs w' (by omega) (hS.ext hy)
 by_cases hno:id<1∨id∉xs
 ·have e:bR aA aB xs id=(xs,-1):=by unfold bR kQ;rw[if_pos hno]
  rw[e];refine tF aA aB id p xs.length a xs w rfl HV (fun w' hy=> ?_) HL;refine aEo aA aB id p xs.length a w' (fun w2 hy2=> ?_);have:=vJ aA aB id p xs.length a xs w2 (hS.ext (hy.trans hy2));rwa[aCy hno]at this
 have g:1≤id:=by omega
 have hm:id∈xs:=by
  by_cases hm:id∈xs
  ·exact hm
  exact absurd (.inr hm) hno
 obtain⟨c,hc,d⟩:=tG hm;have hf:gH aA aB xs id=(c:Int):=by unfold gH;rw[if_pos ⟨b,g⟩];exact d
 have HB: ∀w',Ext w w'→U 109 #[aH aA aB p xs.length a,id] w' (iL (cZ aA xs c) w'):=fun w' hy=>by refine aC0 aA aB id c p xs.length a _ w' (fun w2 hy2=> ?_) (fun w2 hy2=>aJj aA aB c id p xs.length a xs w2 (hS.ext (hy.trans hy2)) b hc (by omega) (hE.ext (hy.trans hy2)));have:=vJ aA aB id p xs.length a xs w2 (hS.ext (hy.trans hy2));rwa[hf]at this
 have f:(oB xs id).toNat=c:=by rw[d];simp
 cases hb:cZ aA xs c with
 |none=>
  have e:bR aA aB xs id=(xs,-1):=by unfold bR kQ;rw[if_neg hno,f,hb];rfl
  rw[e];rw[hb]at HB;exact tF aA aB id p xs.length a xs w rfl HV HB HL
 |some l=>
  obtain⟨b1,ys,b2,b3,b4,b5⟩:=(nG b hc (by omega)).2 l hb;have e:bR aA aB xs id=(ys.set 0 0,(l.length:Int)):=by unfold bR kQ;rw[if_neg hno,f,hb];simp[b2]
  rw[e];rw[hb]at HB;have h:dS aA aB xs l=ys:=oS _ _ _ b2;refine zI aA aB id p xs.length a l.length id ys l w (by omega) b4 b5 HV HB (fun w' q c' hy hL=> ?_);have:=vK aA aB p xs.length a xs q l.length c' l w' rfl (hS.ext hy) b hL;rw[h]at this;unfold cP at this;rw[b4]at this;exact this
end Go.Proofs.YtbgkcehffiogcaaGreatDoor
