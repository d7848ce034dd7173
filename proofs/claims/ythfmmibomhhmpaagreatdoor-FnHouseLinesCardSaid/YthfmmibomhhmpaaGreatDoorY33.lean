/-
  Texts of this proof, packed (@packed).
-/
import Derived.Test.YthfmmibomhhmpaaGreatDoorY30
import Derived.Test.YthfmmibomhhmpaaGreatDoorY32
namespace Go.Proofs.YthfmmibomhhmpaaGreatDoor
open Go.RowKit Go.Proofs.Tryz
set_option linter.unusedSimpArgs false
set_option linter.unusedVariables false
set_option maxHeartbeats 8000000
set_option maxRecDepth 100000
theorem aM4 (aA aB id:Int)(b a c:Nat)(x:Int)(xs:List Int)(w:World)(p:4≤xs.length)(hn:xs.length≤12)(n:Hid (xs[0]? =some x)) (hb:b<w.heap.size) (m:Hid (w.cell? ⟨b,a,none⟩=some (I x))) (o:id<1)
  (HV:xB 42 #[aH aA aB (some ⟨b,a,none⟩) xs.length c] w true)
  (HK:Hid (∀w',Ext w w'→U 46 #[aH aA aB (some ⟨b,a,none⟩) xs.length c] w' (dN aA aB xs w'))):
  U 131 #[aH aA aB (some ⟨b,a,none⟩) xs.length c,(),id] w (dB aA aB xs false w):=by
 go_enter func131,ntmps131;go_wp2_with fail;refine Z (HV _ (((Mem.start w).c0 TH3 #[aA,aB,.slice (some ⟨b,a,none⟩) xs c]).c1 TH3 #[(),(),((),())]).ext) fun w1 i=>?_
 have M1:=((((Mem.start w).c0 TH3 #[aA,aB,.slice (some ⟨b,a,none⟩) xs c]).c1 TH3 #[(),(),((),())]).adv i)
 clear i;have h_:=(M1.bk 1).tri;go_wp2_with fail;clear h_;refine(HK _ M1.ext).mono ?_;rintro e w2 ⟨q,c2,rfl,f,j⟩;have M2:=(M1.call j f)
 clear M1 j f;obtain⟨g,rfl,k,l⟩:=M2.so 0;clear k l;go_upto_region 4 with fail;obtain⟨gV,d⟩: ∃gV,gV=w2.heap.size:=⟨_,rfl⟩
 rw[←d];have M3:=(M2.blkNew TH3 #[aA,aB,.slice (some ⟨g,0,none⟩) xs c2] gV d.symm)
 generalize World.alloc _ _=w4 at M3⊢;clear M2 d;have v_:=(M3.bk 0).tri;have z_:=(M3.bk 2).trif;go_wp2;have M4:=((M3.st 2 0 (I aA)).st 2 1 (I aB))
 have M5:=(M4.st 2 2 (.slice (some ⟨g,0,none⟩) xs c2))
 have M6:=(show Mem w (((w4.setCell ⟨w.heap.size+1,0,none⟩ (I aA)).setCell ⟨w.heap.size+1,1,none⟩ (I aB)).setCell ⟨w.heap.size+1,2,none⟩ (.slice (some ⟨g,0,none⟩) xs c2)) [aI w (gV) TH3 #[aA,aB,.slice (some ⟨g,0,none⟩) xs c2],aJ w TI 1 (some ⟨g,0,none⟩) (xs.length) (c2) (ivs xs),aI w (w.heap.size+1) TH3 #[aA,aB,.slice (some ⟨g,0,none⟩) xs c2],aI w w TH3 #[aA,aB,.slice (some ⟨b,a,none⟩) xs c]]from M5)
 generalize h:World.setCell _ _ _=wz;rw[h]at M6;clear h M3 M4 M5 v_ z_;have y_:=(M6.bk 2).tri;exact bodyPost_ret (v:= .tuple #[.agg #[aA,aB,.slice (some ⟨g,0,none⟩) xs c2],.bool false]) (by simp[results,results131,go_sem, *]) rfl (eU (by simp) (by exact(M6.ow 1)) M6.ext)
theorem aFu (aA aB id:Int)(b a c:Nat)(x:Int)(xs:List Int)(w:World)(s:4≤xs.length)(hn:xs.length≤12)(p:Hid (xs[0]? =some x)) (hb:b<w.heap.size) (l:Hid (w.cell? ⟨b,a,none⟩=some (I x))) (r:1≤id) (t:(x !=0)=true)
  (HH:Hid (∀w',U 138 #[aH aA aB (some ⟨b,a,none⟩) xs.length c,()] w' (O (.bool true) w')))
  (HV:xB 42 #[aH aA aB (some ⟨b,a,none⟩) xs.length c] w true)
  (HK:Hid (∀w',Ext w w'→U 46 #[aH aA aB (some ⟨b,a,none⟩) xs.length c] w' (dN aA aB xs w'))):
  U 131 #[aH aA aB (some ⟨b,a,none⟩) xs.length c,(),id] w (dB aA aB xs false w):=by
 have o:decide (id<1)=false:=by simp;omega
 go_enter func131,ntmps131;go_wp2_with fail;refine Z (HV _ (((Mem.start w).c0 TH3 #[aA,aB,.slice (some ⟨b,a,none⟩) xs c]).c1 TH3 #[(),(),((),())]).ext) fun w1 i=>?_
 have M1:=((((Mem.start w).c0 TH3 #[aA,aB,.slice (some ⟨b,a,none⟩) xs c]).c1 TH3 #[(),(),((),())]).adv i)
 clear i;have h_:=(M1.bk 1).tri;go_wp2_with fail;clear h_;refine(HK _ M1.ext).mono ?_;rintro e w2 ⟨q,c2,rfl,f,j⟩;have M2:=(M1.call j f)
 clear M1 j f;obtain⟨g,rfl,m,n⟩:=M2.so 0;clear m n;go_upto_region 4 with fail;obtain⟨gV,d⟩: ∃gV,gV=w2.heap.size:=⟨_,rfl⟩
 rw[←d];have M3:=(M2.blkNew TH3 #[aA,aB,.slice (some ⟨g,0,none⟩) xs c2] gV d.symm)
 generalize World.alloc _ _=w4 at M3⊢;clear M2 d;have h_:=(M3.bk 3).tri;go_wp2_with fail;clear h_;refine Z (HH _) fun w4 k=>?_
 have M4:=(M3.adv k)
 clear M3 k;have cx:w4.cell? ⟨b,a,none⟩=some (I x):=(M4.ext.cells.1 _ _ hb).trans l.out;have h_:=(M4.bk 3).tri;have v_:=(M4.bk 0).tri;have z_:=(M4.bk 2).trif;go_wp2;have M5:=((M4.st 2 0 (I aA)).st 2 1 (I aB))
 have M6:=(M5.st 2 2 (.slice (some ⟨g,0,none⟩) xs c2))
 have M7:=(show Mem w (((w4.setCell ⟨w.heap.size+1,0,none⟩ (I aA)).setCell ⟨w.heap.size+1,1,none⟩ (I aB)).setCell ⟨w.heap.size+1,2,none⟩ (.slice (some ⟨g,0,none⟩) xs c2)) [aI w (gV) TH3 #[aA,aB,.slice (some ⟨g,0,none⟩) xs c2],aJ w TI 1 (some ⟨g,0,none⟩) (xs.length) (c2) (ivs xs),aI w (w.heap.size+1) TH3 #[aA,aB,.slice (some ⟨g,0,none⟩) xs c2],aI w w TH3 #[aA,aB,.slice (some ⟨b,a,none⟩) xs c]]from M6)
 generalize h:World.setCell _ _ _=wz;rw[h]at M7;clear h M4 M5 M6 v_ z_;have y_:=(M7.bk 2).tri;exact bodyPost_ret (v:= .tuple #[.agg #[aA,aB,.slice (some ⟨g,0,none⟩) xs c2],.bool false]) (by simp[results,results131,go_sem, *]) rfl (eU (by simp) (by exact(M7.ow 1)) M7.ext)
theorem aIn (aA aB id:Int)(b a d:Nat)(x:Int)(xs:List Int)(w:World)(ah:4≤xs.length)(hn:xs.length≤12)(z:Hid (xs[0]? =some x)) (hb:b<w.heap.size) (u:Hid (w.cell? ⟨b,a,none⟩=some (I x))) (ag:1≤id) (ai:(x !=0)=false)
  (HH:Hid (∀w',U 138 #[aH aA aB (some ⟨b,a,none⟩) xs.length d,()] w' (O (.bool true) w')))
  (y:Hid (∀w' q c,Sl w' q xs.length c 1 (ivs (xs.set 0 id))→U 42 #[aH aA aB q xs.length c] w' (O (.bool true) w')))
  (HV:xB 42 #[aH aA aB (some ⟨b,a,none⟩) xs.length d] w true)
  (HK:Hid (∀w',Ext w w'→U 46 #[aH aA aB (some ⟨b,a,none⟩) xs.length d] w' (dN aA aB xs w'))):
  U 131 #[aH aA aB (some ⟨b,a,none⟩) xs.length d,(),id] w (dB aA aB (xs.set 0 id) true w):=by
 have af:decide (id<1)=false:=by simp;omega
 go_enter func131,ntmps131;go_wp2_with fail;refine Z (HV _ (((Mem.start w).c0 TH3 #[aA,aB,.slice (some ⟨b,a,none⟩) xs d]).c1 TH3 #[(),(),((),())]).ext) fun w1 r=>?_
 have M1:=((((Mem.start w).c0 TH3 #[aA,aB,.slice (some ⟨b,a,none⟩) xs d]).c1 TH3 #[(),(),((),())]).adv r)
 clear r;have h_:=(M1.bk 1).tri;go_wp2_with fail;clear h_;refine(HK _ M1.ext).mono ?_;rintro e w2 ⟨q,c2,rfl,n,s⟩;have M2:=(M1.call s n)
 clear M1 s n;obtain⟨g,rfl,ab,ad⟩:=M2.so 0;clear ab ad;go_upto_region 4 with fail;obtain⟨gV,k⟩: ∃gV,gV=w2.heap.size:=⟨_,rfl⟩
 rw[←k];have M3:=(M2.blkNew TH3 #[aA,aB,.slice (some ⟨g,0,none⟩) xs c2] gV k.symm)
 generalize World.alloc _ _=w4 at M3⊢;clear M2 k;have h_:=(M3.bk 3).tri;go_wp2_with fail;clear h_;refine Z (HH _) fun w4 t=>?_
 have M4:=(M3.adv t)
 clear M3 t;have cx:w4.cell? ⟨b,a,none⟩=some (I x):=(M4.ext.cells.1 _ _ hb).trans u.out;have h_:=(M4.bk 3).tri;have v_:=(M4.bk 0).tri;have gi:w4.cell? ⟨g,0,none⟩=some (I x):=by have:=(M4.ow 1).cellAt 0 (by omega);rw[this];simpa[ivs]using z.out
 have aa:w4.frozen? ⟨g,0,none⟩=false:=(M4.ow 1).frozenAt 0;go_upto_region 7 with fail;clear h_ v_ cx gi aa;have MX:=(show Mem w (w4.setCell ⟨g,0,none⟩ (I id)) [aI w (gV) TH3 #[aA,aB,.slice (some ⟨g,0,none⟩) xs c2],aJ w TI 1 (some ⟨g,0,none⟩) (xs.length) (c2) (ivs (xs.set 0 id)),aI w (w.heap.size+1) TH3 #[(),(),((),())],aI w w TH3 #[aA,aB,.slice (some ⟨b,a,none⟩) xs d]]from by rw[←eL];exact M4.ostore (i:=1) rfl 0 (I id))
 generalize o:World.setCell _ _ _=w5;rw[o]at MX;clear o M4;have v_:=(MX.bk 0).tri;go_wp2_with fail;clear v_;refine Z (y _ _ _ (by exact(MX.sq 1))) fun ae j=>?_
 have f:=(MX.adv j)
 clear MX j;have v_:=(f.bk 0).tri;have z_:=(f.bk 2).trif;go_wp2;have l:=((f.st 2 0 (I aA)).st 2 1 (I aB))
 have m:=(l.st 2 2 (.slice (some ⟨g,0,none⟩) xs c2))
 have h:=(show Mem w (((ae.setCell ⟨w.heap.size+1,0,none⟩ (I aA)).setCell ⟨w.heap.size+1,1,none⟩ (I aB)).setCell ⟨w.heap.size+1,2,none⟩ (.slice (some ⟨g,0,none⟩) xs c2)) [aI w (gV) TH3 #[aA,aB,.slice (some ⟨g,0,none⟩) xs c2],aJ w TI 1 (some ⟨g,0,none⟩) (xs.length) (c2) (ivs (xs.set 0 id)),aI w (w.heap.size+1) TH3 #[aA,aB,.slice (some ⟨g,0,none⟩) xs c2],aI w w TH3 #[aA,aB,.slice (some ⟨b,a,none⟩) xs d]]from m)
 generalize p:World.setCell _ _ _=wz;rw[p]at h;clear p f l m v_ z_;have y_:=(h.bk 2).tri;exact bodyPost_ret (v:= .tuple #[.agg #[aA,aB,.slice (some ⟨g,0,none⟩) xs c2],.bool true]) (by simp[results,results131,go_sem, *]) rfl (eU (by simp) (by exact(h.ow 1)) h.ext)
theorem aIo (aA aB id:Int)(b a d:Nat)(x:Int)(xs:List Int)(w:World)(ak:4≤xs.length)(hn:xs.length≤12)(ad:Hid (xs[0]? =some x)) (hb:b<w.heap.size) (aa:Hid (w.cell? ⟨b,a,none⟩=some (I x))) (aj:1≤id) (al:(x !=0)=false)
  (HH:Hid (∀w',U 138 #[aH aA aB (some ⟨b,a,none⟩) xs.length d,()] w' (O (.bool true) w')))
  (ab:Hid (∀w' q c,Sl w' q xs.length c 1 (ivs (xs.set 0 id))→U 42 #[aH aA aB q xs.length c] w' (O (.bool false) w')))
  (HV:xB 42 #[aH aA aB (some ⟨b,a,none⟩) xs.length d] w true)
  (HK:Hid (∀w',Ext w w'→U 46 #[aH aA aB (some ⟨b,a,none⟩) xs.length d] w' (dN aA aB xs w'))):
  U 131 #[aH aA aB (some ⟨b,a,none⟩) xs.length d,(),id] w (dB aA aB xs false w):=by
 have ai:decide (id<1)=false:=by simp;omega
 go_enter func131,ntmps131;go_wp2_with fail;refine Z (HV _ (((Mem.start w).c0 TH3 #[aA,aB,.slice (some ⟨b,a,none⟩) xs d]).c1 TH3 #[(),(),((),())]).ext) fun w1 u=>?_
 have M1:=((((Mem.start w).c0 TH3 #[aA,aB,.slice (some ⟨b,a,none⟩) xs d]).c1 TH3 #[(),(),((),())]).adv u)
 clear u;have h_:=(M1.bk 1).tri;go_wp2_with fail;clear h_;refine(HK _ M1.ext).mono ?_;rintro e w2 ⟨q,c2,rfl,r,y⟩;have M2:=(M1.call y r)
 clear M1 y r;obtain⟨g,rfl,af,ag⟩:=M2.so 0;clear af ag;go_upto_region 4 with fail;obtain⟨gV,n⟩: ∃gV,gV=w2.heap.size:=⟨_,rfl⟩
 rw[←n];have M3:=(M2.blkNew TH3 #[aA,aB,.slice (some ⟨g,0,none⟩) xs c2] gV n.symm)
 generalize World.alloc _ _=w4 at M3⊢;clear M2 n;have h_:=(M3.bk 3).tri;go_wp2_with fail;clear h_;refine Z (HH _) fun w4 z=>?_
 have M4:=(M3.adv z)
 clear M3 z;have cx:w4.cell? ⟨b,a,none⟩=some (I x):=(M4.ext.cells.1 _ _ hb).trans aa.out;have h_:=(M4.bk 3).tri;have v_:=(M4.bk 0).tri;have gi:w4.cell? ⟨g,0,none⟩=some (I x):=by have:=(M4.ow 1).cellAt 0 (by omega);rw[this];simpa[ivs]using ad.out
 have ae:w4.frozen? ⟨g,0,none⟩=false:=(M4.ow 1).frozenAt 0;go_upto_region 7 with fail;clear h_ v_ cx gi ae;have MX:=(show Mem w (w4.setCell ⟨g,0,none⟩ (I id)) [aI w (gV) TH3 #[aA,aB,.slice (some ⟨g,0,none⟩) xs c2],aJ w TI 1 (some ⟨g,0,none⟩) (xs.length) (c2) (ivs (xs.set 0 id)),aI w (w.heap.size+1) TH3 #[(),(),((),())],aI w w TH3 #[aA,aB,.slice (some ⟨b,a,none⟩) xs d]]from by rw[←eL];exact M4.ostore (i:=1) rfl 0 (I id))
 generalize s:World.setCell _ _ _=w5;rw[s]at MX;clear s M4;have v_:=(MX.bk 0).tri;go_wp2_with fail;clear v_;refine Z (ab _ _ _ (by exact(MX.sq 1))) fun am k=>?_
 have f:=(MX.adv k)
 clear MX k;have h_:=(f.bk 3).tri;go_wp2_with fail;clear h_;refine(HK _ f.ext).mono ?_;rintro e ah ⟨q0,c0,rfl,j,l⟩;have m:=(f.call l j)
 clear f l j;have z_:=(m.bk 3).trif;go_wp2;have o:=((m.st 3 0 (I aA)).st 3 1 (I aB))
 have p:=(o.st 3 2 (.slice q0 xs c0))
 have h:=(show Mem w (((ah.setCell ⟨w.heap.size+1,0,none⟩ (I aA)).setCell ⟨w.heap.size+1,1,none⟩ (I aB)).setCell ⟨w.heap.size+1,2,none⟩ (.slice q0 xs c0)) [aJ w TI 1 (q0) (xs.length) (c0) (ivs xs),aI w (gV) TH3 #[aA,aB,.slice (some ⟨g,0,none⟩) xs c2],aJ w TI 1 (some ⟨g,0,none⟩) (xs.length) (c2) (ivs (xs.set 0 id)),aI w (w.heap.size+1) TH3 #[aA,aB,.slice q0 xs c0],aI w w TH3 #[aA,aB,.slice (some ⟨b,a,none⟩) xs d]]from p)
 generalize t:World.setCell _ _ _=wz;rw[t]at h;clear t m o p z_;have y_:=(h.bk 3).tri;exact bodyPost_ret (v:= .tuple #[.agg #[aA,aB,.slice q0 xs c0],.bool false]) (by simp[results,results131,go_sem, *]) rfl (eU (by simp) (by exact(h.ow 0)) h.ext)
theorem aS9 (aA aB id:Int)(p:OA)(n a:Nat)(xs:List Int)(w:World)(hS:Sl w p n a 1 (ivs xs))(i:aN aA aB xs=true):
  U 131 #[aH aA aB p n a,(),id] w (dB aA aB (dE aA aB xs id).1 (dE aA aB xs id).2 w):=by
 have hl:=hS.ilen;subst hl;obtain⟨g1,g2,g3,g4,g5,g6,g7,g8,g9⟩:=bN i;have HV: ∀w',Ext w w'→U 42 #[aH aA aB p xs.length a] w' (O (.bool true) w'):=fun w' hx=>by have:=gU aA aB p xs.length a xs w' (hS.ext hx);rwa[i]at this
 have HK:=fun(w':World) (hx:Ext w w')=>mT aA aB p xs.length a xs w' (by omega) (hS.ext hx)
 have HH: ∀w',U 138 #[aH aA aB p xs.length a,()] w' (O (.bool true) w'):=fun w'=>by have:=jV aA aB 0 p xs.length a w' (by omega);rwa[decide_eq_true (⟨by omega,by omega⟩:0≤(0:Int)∧(0:Int)<xs.length)]at this
 obtain⟨b,g,rfl,hb,j⟩:=hS.rd (by omega);have f:xs[0]? =some (xs.getD 0 0):=by rw[aTb,aT6 (by omega)];rfl
 have h:w.cell? ⟨b,g,none⟩=some (I (xs.getD 0 0)):=by have:=j 0 (by omega);rw[Nat.add_zero]at this;rw[this];simp only[ivs,aTo,f,aU4]
 by_cases h1:id<1
 ·rw[show dE aA aB xs id=(xs,false) by unfold dE;rw[if_neg (by omega)]];exact aM4 aA aB id b g a _ xs w g5 g6 f hb h h1 HV HK
 by_cases h2:xs.getD 0 0=0
 ·have d:(xs.getD 0 0 !=0)=false:=by rw[h2];rfl
  cases hv:aN aA aB (xs.set 0 id)with
  |true=>rw[show dE aA aB xs id=(xs.set 0 id,true) by unfold dE;rw[if_pos ⟨h2,by omega,hv⟩]];refine aIn aA aB id b g a _ xs w g5 g6 f hb h (by omega) d HH (fun w' q c hL=> ?_) HV HK;have:=gU aA aB q xs.length c _ w' hL;rwa[hv]at this
  |false=>rw[show dE aA aB xs id=(xs,false) by unfold dE;rw[if_neg (by rw[hv];simp)]];refine aIo aA aB id b g a _ xs w g5 g6 f hb h (by omega) d HH (fun w' q c hL=> ?_) HV HK;have:=gU aA aB q xs.length c _ w' hL;rwa[hv]at this
 rw[show dE aA aB xs id=(xs,false) by unfold dE;rw[if_neg (by omega)]];exact aFu aA aB id b g a _ xs w g5 g6 f hb h (by omega) (by simpa using h2) HH HV HK
theorem aD7 (aA aB id:Int)(p:OA)(n a:Nat)(xs:List Int)(w:World)(b:Hid (xs.length=n))
  (HV:xB 42 #[aH aA aB p n a] w true)
  (HC:xC 130 #[aH aA aB p n a] w fun w' e w''=> ∃v,e= .returned (.tuple #[v,.bool false])∧Ext w' w'')
  (HL:xC 46 #[aH aA aB p n a] w fun w' e w''=> ∃q c,e= .returned (aH aA aB q n c)∧w''.ownsRow w' TI 1 (.slice q n c) n (ivs xs)∧Ext w' w''):
  U 96 #[aH aA aB p n a,id] w (dA aA aB xs (-1) w):=by
 go_enter func96,ntmps96;go_wp2_with fail;refine Z (HV _ (((Mem.start w).c0 TH3 #[aA,aB,.slice p n a]).c1 TH3 #[(),(),((),())]).ext) fun w1 g=>?_
 have M1:=((((Mem.start w).c0 TH3 #[aA,aB,.slice p n a]).c1 TH3 #[(),(),((),())]).adv g)
 clear g;have h_:=(M1.bk 1).tri;go_wp2_with fail;clear h_;refine(HC _ M1.ext).mono ?_;rintro e w2 ⟨v,rfl,h⟩;have M2:=(M1.adv h)
 clear M1 h;have h_:=(M2.bk 1).tri;go_wp2_with fail;clear h_;refine(HL _ M2.ext).mono ?_;rintro e w3 ⟨q0,c0,rfl,d,i⟩;have M3:=(M2.call i d)
 clear M2 i d;have z_:=(M3.bk 1).trif;go_wp2;have M4:=((M3.st 1 0 (I aA)).st 1 1 (I aB))
 have M5:=(M4.st 1 2 (.slice q0 n c0))
 clear z_;have M6:=(show Mem w (((w3.setCell ⟨w.heap.size+1,0,none⟩ (I aA)).setCell ⟨w.heap.size+1,1,none⟩ (I aB)).setCell ⟨w.heap.size+1,2,none⟩ (.slice q0 n c0)) [aJ w TI 1 (q0) (n) (c0) (ivs xs),aI w (w.heap.size+1) TH3 #[aA,aB,.slice q0 n c0],aI w w TH3 #[aA,aB,.slice p n a]]from M5)
 generalize f:World.setCell _ _ _=wz;rw[f]at M6;clear f M3 M4 M5;have y_:=(M6.bk 1).tri;exact bodyPost_ret (v:= .tuple #[.agg #[aA,aB,.slice q0 n c0],(-1:Int)]) (by simp[results,results96,go_sem, *]) rfl (fE b.out (M6.ow 0) M6.ext)
theorem aIh (aA aB id:Int)(p:OA)(n a K:Nat)(xs ys zs:List Int)(sl:List Sl2)(w:World)(d:Hid (xs.length=n))
  (HV:xB 42 #[aH aA aB p n a] w true)
  (HC:xC 130 #[aH aA aB p n a] w fun w' e w''=> ∃q c,e= .returned (.tuple #[.slice q K c,.bool true])∧w''.ownsRow w' TSL 2 (.slice q K c) K (sl.flatMap aM)∧Ext w' w'')
  (HR:Hid (∀w' q c,Ext w w'→Sl w' q K c 2 (sl.flatMap aM)→U 132 #[aH aA aB p n a,.slice q K c] w' fun e w''=> ∃q c,e= .returned (aH aA aB q n c)∧w''.ownsRow w' TI 1 (.slice q n c) n (ivs ys)∧Ext w' w''))
  (HP:Hid (∀w' q c,Ext w w'→Sl w' q n c 1 (ivs ys)→U 131 #[aH aA aB q n c,(),id] w' fun e w''=> ∃q c,e= .returned (.tuple #[aH aA aB q n c,.bool false])∧w''.ownsRow w' TI 1 (.slice q n c) n (ivs zs)∧Ext w' w''))
  (HL:xC 46 #[aH aA aB p n a] w fun w' e w''=> ∃q c,e= .returned (aH aA aB q n c)∧w''.ownsRow w' TI 1 (.slice q n c) n (ivs xs)∧Ext w' w''):
  U 96 #[aH aA aB p n a,id] w (dA aA aB xs (-1) w):=by
 go_enter func96,ntmps96;go_wp2_with fail;refine Z (HV _ (((Mem.start w).c0 TH3 #[aA,aB,.slice p n a]).c1 TH3 #[(),(),((),())]).ext) fun w1 k=>?_
 have M1:=((((Mem.start w).c0 TH3 #[aA,aB,.slice p n a]).c1 TH3 #[(),(),((),())]).adv k)
 clear k;have h_:=(M1.bk 1).tri;go_wp2_with fail;clear h_;refine(HC _ M1.ext).mono ?_;rintro e w2 ⟨qs,cs,rfl,f,l⟩;have M2:=(M1.call l f)
 clear M1 l f;have h_:=(M2.bk 2).tri;go_wp2_with fail;clear h_;refine(HR _ qs cs M2.ext (M2.sq 0)).mono ?_;rintro e w3 ⟨q1,c1,rfl,g,m⟩;have M3:=(M2.call m g)
 clear M2 m g;go_wp2_with fail;refine(HP _ q1 c1 M3.ext (M3.sq 0)).mono ?_;rintro e w4 ⟨q2,c2,rfl,h,o⟩;have M4:=(M3.call o h)
 clear M3 o h;go_upto_region 7 with fail;obtain⟨gV,b⟩: ∃gV,gV=w4.heap.size:=⟨_,rfl⟩
 rw[←b];have M5:=(M4.blkNew TH3 #[aA,aB,.slice q2 n c2] gV b.symm)
 generalize World.alloc _ _=w7 at M5⊢;clear M4 b;have h_:=(M5.bk 5).tri;go_wp2_with fail;clear h_;refine(HL _ M5.ext).mono ?_;rintro e w6 ⟨q0,c0,rfl,i,r⟩;have M6:=(M5.call r i)
 clear M5 r i;have z_:=(M6.bk 5).trif;go_wp2;have M7:=((M6.st 5 0 (I aA)).st 5 1 (I aB))
 have M8:=(M7.st 5 2 (.slice q0 n c0))
 clear z_;have M9:=(show Mem w (((w6.setCell ⟨w.heap.size+1,0,none⟩ (I aA)).setCell ⟨w.heap.size+1,1,none⟩ (I aB)).setCell ⟨w.heap.size+1,2,none⟩ (.slice q0 n c0)) [aJ w TI 1 (q0) (n) (c0) (ivs xs),aI w (gV) TH3 #[aA,aB,.slice q2 n c2],aJ w TI 1 (q2) (n) (c2) (ivs zs),aJ w TI 1 (q1) (n) (c1) (ivs ys),aJ w TSL 2 (qs) (K) (cs) (sl.flatMap aM),aI w (w.heap.size+1) TH3 #[aA,aB,.slice q0 n c0],aI w w TH3 #[aA,aB,.slice p n a]]from M8)
 generalize j:World.setCell _ _ _=wz;rw[j]at M9;clear j M6 M7 M8;have y_:=(M9.bk 5).tri;exact bodyPost_ret (v:= .tuple #[.agg #[aA,aB,.slice q0 n c0],(-1:Int)]) (by simp[results,results96,go_sem, *]) rfl (fE d.out (M9.ow 0) M9.ext)
theorem aFj (aA aB id:Int)(p:OA)(n a K:Nat)(ys zs:List Int)(sl:List Sl2)(w:World)(d:Hid (zs.length=n))
  (HV:xB 42 #[aH aA aB p n a] w true)
  (HC:xC 130 #[aH aA aB p n a] w fun w' e w''=> ∃q c,e= .returned (.tuple #[.slice q K c,.bool true])∧w''.ownsRow w' TSL 2 (.slice q K c) K (sl.flatMap aM)∧Ext w' w'')
  (HR:Hid (∀w' q c,Ext w w'→Sl w' q K c 2 (sl.flatMap aM)→U 132 #[aH aA aB p n a,.slice q K c] w' fun e w''=> ∃q c,e= .returned (aH aA aB q n c)∧w''.ownsRow w' TI 1 (.slice q n c) n (ivs ys)∧Ext w' w''))
  (HP:Hid (∀w' q c,Ext w w'→Sl w' q n c 1 (ivs ys)→U 131 #[aH aA aB q n c,(),id] w' fun e w''=> ∃q c,e= .returned (.tuple #[aH aA aB q n c,.bool true])∧w''.ownsRow w' TI 1 (.slice q n c) n (ivs zs)∧Ext w' w'')):
  U 96 #[aH aA aB p n a,id] w (dA aA aB zs (K:Int) w):=by
 go_enter func96,ntmps96;go_wp2_with fail;refine Z (HV _ (((Mem.start w).c0 TH3 #[aA,aB,.slice p n a]).c1 TH3 #[(),(),((),())]).ext) fun w1 j=>?_
 have M1:=((((Mem.start w).c0 TH3 #[aA,aB,.slice p n a]).c1 TH3 #[(),(),((),())]).adv j)
 clear j;have h_:=(M1.bk 1).tri;go_wp2_with fail;clear h_;refine(HC _ M1.ext).mono ?_;rintro e w2 ⟨qs,cs,rfl,f,k⟩;have M2:=(M1.call k f)
 clear M1 k f;have h_:=(M2.bk 2).tri;go_wp2_with fail;clear h_;refine(HR _ qs cs M2.ext (M2.sq 0)).mono ?_;rintro e w3 ⟨q1,c1,rfl,g,l⟩;have M3:=(M2.call l g)
 clear M2 l g;go_wp2_with fail;refine(HP _ q1 c1 M3.ext (M3.sq 0)).mono ?_;rintro e w4 ⟨q2,c2,rfl,h,m⟩;have M4:=(M3.call m h)
 clear M3 m h;go_upto_region 7 with fail;obtain⟨gV,b⟩: ∃gV,gV=w4.heap.size:=⟨_,rfl⟩
 rw[←b];have M5:=(M4.blkNew TH3 #[aA,aB,.slice q2 n c2] gV b.symm)
 generalize World.alloc _ _=w7 at M5⊢;clear M4 b;have v_:=(M5.bk 0).tri;have z_:=(M5.bk 4).trif;go_wp2;have M6:=((M5.st 4 0 (I aA)).st 4 1 (I aB))
 have M7:=(M6.st 4 2 (.slice q2 n c2))
 clear v_ z_;have M8:=(show Mem w (((w7.setCell ⟨w.heap.size+1,0,none⟩ (I aA)).setCell ⟨w.heap.size+1,1,none⟩ (I aB)).setCell ⟨w.heap.size+1,2,none⟩ (.slice q2 n c2)) [aI w (gV) TH3 #[aA,aB,.slice q2 n c2],aJ w TI 1 (q2) (n) (c2) (ivs zs),aJ w TI 1 (q1) (n) (c1) (ivs ys),aJ w TSL 2 (qs) (K) (cs) (sl.flatMap aM),aI w (w.heap.size+1) TH3 #[aA,aB,.slice q2 n c2],aI w w TH3 #[aA,aB,.slice p n a]]from M7)
 generalize i:World.setCell _ _ _=wz;rw[i]at M8;clear i M5 M6 M7;have y_:=(M8.bk 4).tri;exact bodyPost_ret (v:= .tuple #[.agg #[aA,aB,.slice q2 n c2],K]) (by simp[results,results96,go_sem, *]) rfl (fE d.out (M8.ow 1) M8.ext)
theorem sZ {aA aB:Int}: ∀(l:List Sl2) (xs ys:List Int),bD aA aB xs l=(ys,l.length)→eX aA aB xs l=ys
 | [],xs,ys,h=>by simp only[bD,aTu]at h;exact h.1
 |s::l,xs,ys,h=>by
  show eX aA aB (bL aA aB xs s.1 s.2) l=ys;cases hm:bH aA aB xs s.1 s.2 with
  |false=>rw[lJ hm]at h;simp at h
  |true=>rw[eW hm]at h;simp only[aTu,aUh]at h;exact sZ l _ ys (Prod.ext h.1 (by have:=h.2;dsimp only;omega))
theorem aLw (aA aB id:Int)(p:OA)(n a:Nat)(xs:List Int)(w:World)(hS:Sl w p n a 1 (ivs xs))(b:aN aA aB xs=true):
  U 96 #[aH aA aB p n a,id] w (dA aA aB (cN aA aB xs id).1 (cN aA aB xs id).2 w):=by
 have hl:=hS.ilen;subst hl;obtain⟨g1,g2,g3,g4,g5,g6,g7⟩:=cG (cY b);have HV: ∀w',Ext w w'→U 42 #[aH aA aB p xs.length a] w' (O (.bool true) w'):=fun w' hy=>by have:=gU aA aB p xs.length a xs w' (hS.ext hy);rwa[b]at this
 have HL:=fun(w':World) (hy:Ext w w')=>mT aA aB p xs.length a xs w' (by omega) (hS.ext hy)
 have HC:=fun(w':World) (hy:Ext w w')=>aSc aA aB p xs.length a xs w' (hS.ext hy) b
 cases hr:jA aA xs with
 |none=>
  have e:cN aA aB xs id=(xs,-1):=by unfold cN nA;rw[hr]
  rw[e];rw[hr]at HC;exact aD7 aA aB id p xs.length a xs w rfl HV HC HL
 |some r=>
  rw[hr]at HC;obtain⟨f1,f2,f3,f4,f5⟩:=qX b hr;have d:eX aA aB xs r.2=r.1:=sZ _ _ _ f1;have HR: ∀w' q c,Ext w w'→Sl w' q r.2.length c 2 (r.2.flatMap aM)→U 132 #[aH aA aB p xs.length a,.slice q r.2.length c] w' fun e w''=> ∃q c,e= .returned (aH aA aB q xs.length c)∧w''.ownsRow w' TI 1 (.slice q xs c) xs.length (ivs r.1)∧Ext w' w'':=fun w' q c hy hL=>by have:=aBo aA aB p xs.length a xs q r.2.length c r.2 w' rfl (hS.ext hy) b hL;rw[d]at this;unfold dN at this;rw[f3]at this;exact this
  have HP: ∀w' q c,Ext w w'→Sl w' q xs.length c 1 (ivs r.1)→U 131 #[aH aA aB q xs.length c,(),id] w' fun e w''=> ∃q c,e= .returned (.tuple #[aH aA aB q xs.length c,.bool (dE aA aB r.1 id).2])∧w''.ownsRow w' TI 1 (.slice q xs c) xs.length (ivs (dE aA aB r.1 id).1)∧Ext w' w'':=fun w' q c hy hL=>by have:=aS9 aA aB id q xs.length c r.1 w' hL f2;unfold dB at this;rw[nI,f3]at this;exact this
  cases hb:(dE aA aB r.1 id).2 with
  |false=>
   have e:cN aA aB xs id=(xs,-1):=by simp[cN,nA,hr,hb]
   rw[e];rw[hb]at HP;exact aIh aA aB id p xs.length a r.2.length xs r.1 (dE aA aB r.1 id).1 r.2 w rfl HV HC HR HP HL
  |true=>
   have e:cN aA aB xs id=((dE aA aB r.1 id).1,(r.2.length:Int)):=by simp[cN,nA,hr,hb]
   rw[e];rw[hb]at HP;exact aFj aA aB id p xs.length a r.2.length r.1 (dE aA aB r.1 id).1 r.2 w (show _=_ by rw[nI,f3]) HV HC HR HP
theorem aHs (id:Int)(p:OA)(n c:Nat)(xs:List Int)(w:World)(hS:Sl w p n c 1 (ivs xs)):
  U 200 #[.slice p n c,id] w (O (I (pV xs id)) w):=by
 have f:=hS.bd;have HS:=xQ hS;have hl:=xQ hS.ilen;clear hS;go_enter func200,ntmps200;go_wp2;go_loop [8] (fun i=> ∃k:Nat,k≤n∧i=I k∧id∉xs.take k) (fun i=>n-(intOf i).toNat)
 case atStart=>exact⟨0,aTd _,rfl,by simp⟩
 case round=>
  obtain⟨k,hk,rfl,hc⟩:=hrel;have HC:=xQ hc;clear hc;by_cases hlt:k<n
  ·obtain⟨b,g,y,rfl,hx,hb,d⟩:=HS.out.int_at hlt;have HX:=xQ hx;clear hx;by_cases hy:y=id
   ·have t1:(id==y)=true:=by simp[hy]
    have a:Hid (pV xs id=k):=uB (by rw[HX.out,hy]) HC.out;clear hy;go_wp2;go_ret;exact⟨eS a.out.symm,by exact .refl _⟩
   have t1:(id==y)=false:=by simp;exact fun e=>hy e.symm
   have a:Hid (id∉xs.take (k+1)):=by show _∉_;rw[bA HX.out,aTn,aTp];exact fun h=>h.elim HC (fun e=>hy e.symm)
   clear hy;go_wp2;go_round
   case rel=>exact⟨k+1,by omega,by go_num,a.out⟩
   case measure=>simp[intOf];omega
  have a:Hid (pV xs id= -1):=vN (by have:=HC.out;rwa[aTa (by rw[hl.out];omega)]at this);go_wp2;go_ret;exact⟨eS a.out.symm,by exact .refl _⟩
theorem aAo (aA aB id:Int)(p:OA)(n a:Nat)(b:Bool)(w:World)(hb:b=false∨b=true∧id<1)(HV:xB 42 #[aH aA aB p n a] w b):
  U 172 #[aH aA aB p n a,id] w (O (I (-1)) w):=by
 rcases hb with rfl|⟨rfl,hi⟩
 all_goals
  go_enter func172,ntmps172;go_wp2_with fail;refine Z (HV _ (by exact .alloc (.refl _) _)) fun w1 c=>?_
  go_wp2;go_ret;exact⟨rfl,by exact .trans (.alloc (.refl _) _) c⟩
theorem aDg (aA aB id:Int)(p:OA)(n a:Nat)(xs:List Int)(w:World)(hi:1≤id)(HI:xC 200 #[.slice p n a,id] w fun w' e w''=>e= .returned (I (pV xs id))∧Ext w' w'')(HV:xB 42 #[aH aA aB p n a] w true):
  U 172 #[aH aA aB p n a,id] w (O (I (pV xs id)) w):=by
 go_enter func172,ntmps172;go_wp2_with fail;refine Z (HV _ (by exact .alloc (.refl _) _)) fun w1 b=>?_
 have hB:=(Blk.new w TH3 #[aA,aB,.slice p n a]).ext b;have X1:=xQ (show Ext w w1 by exact .trans (.alloc (.refl _) _) b);obtain⟨b0,b1,b2⟩:=hB.cells3;clear b hB;go_wp2_with fail;refine Z (HI _ X1.out) fun w2 c=>?_
 have X2:=X1.out.trans c;go_wp2;go_ret;exact⟨rfl,X2⟩
theorem aBn (aA aB id:Int)(p:OA)(n a:Nat)(xs:List Int)(w:World)(hS:Sl w p n a 1 (ivs xs)):
  U 172 #[aH aA aB p n a,id] w (O (I (jH aA aB xs id)) w):=by
 have HV:=fun(w':World) (hx:Ext w w')=>gU aA aB p n a xs w' (hS.ext hx)
 unfold jH;by_cases h:aN aA aB xs=true∧1≤id
 ·rw[if_pos h];rw[h.1]at HV;exact aDg aA aB id p n a xs w h.2 (xQ fun w' hx=>aHs id p n a xs w' (hS.ext hx)) (xQ HV)
 rw[if_neg h];refine aAo aA aB id p n a (aN aA aB xs) w ?_ (xQ HV);cases hh:aN aA aB xs with
 |false=>exact .inl rfl
 |true=>
  refine .inr ⟨rfl,?_⟩;by_cases h1:1≤id
  ·exact absurd ⟨hh,h1⟩ h
  omega
theorem aSe (aA aB:Int)(c:Nat)(id:Int)(p:OA)(n b:Nat)(xs:List Int)(w:World)(hS:Sl w p n b 1 (ivs xs))(a:aN aA aB xs=true)(hc:xs[c]? =some id) (h0:id≠0) (hE:BitTab w):
  U 173 #[aH aA aB p n b,c] w (kO (dX aA xs c) w):=by
 have hl:=hS.ilen;subst hl;obtain⟨g1,g2,g3,g4,g5,g6,g7,g8,g9⟩:=bN a;have g:(2:Nat) ^ xs.length≤4096:=aTg (aTl (by omega) g6) (by decide);have i:=aVf xs.length;have m:=(aT9.1 hc).1;have hN:xs.length*2 ^ xs.length≤12*4096:=Nat.mul_le_mul g6 g;have hC:c*2 ^ xs.length≤12*4096:=Nat.mul_le_mul (by omega) g;have l:xs.length≤xs.length*2 ^ xs.length:=Nat.le_mul_of_pos_right _ i;obtain⟨p1,p2,p3⟩:=uU a hc h0;have hD:=mV (aA:=aA) (many:=(bP xs).length) g6;have h:=(uF g5 g6 hD).bd;obtain⟨pb,po,rfl,hb,j⟩:=hS.rd (by omega);have f: ∀(k:Nat) (B:List Int) (Q:List Nat),aQ5 aA xs c k B Q→SOk (xs.length*2 ^ xs.length) B Q:=fun k B Q hr=>(hr.ok p1 h).1
 refine aP5 aA aB pb po xs.length b (xs.length*2 ^ xs.length) (2 ^ xs.length) c (c*2 ^ xs.length) (fL xs.length (st0 xs c)) xs (dC xs) (fun u=>pK aA xs.length (2 ^ xs.length) u) w g5 g6 rfl hb hE (by omega) l hC rfl rfl rfl rfl p1 (by simp) ?_ ?_ (fun k x hx=> ?_) rfl (fun k x hx=> ?_) (fun k hk w' hx=> ?_) (fun u v hu hv=>h u v hu hv) (fun k B Q hr=>f k B Q hr) (fun k u B Q hr hu hz=> ?_) (fun k B Q hr hk=>aHr a g5 g6 hc h0 hr hk)
 ·have e:(c:Int)*((2 ^ xs.length:Nat):Int)=((c*2 ^ xs.length:Nat):Int):=by push_cast;rfl
  rw[e];exact aT8 _ (by omega)
 ·have e:(xs.length:Int)*((2 ^ xs.length:Nat):Int)=((xs.length*2 ^ xs.length:Nat):Int):=by push_cast;rfl
  rw[e];exact aT8 _ (by omega)
 ·have hk:=(aT9.1 hx).1;rw[gS hk,aTb,hx];rfl
 ·have hk:=(aT9.1 hx).1;rw[j k (by omega)];simp only[ivs,aTo,hx,aU4]
 ·have:=aIy aA aB k _ xs.length b xs w' (hS.ext hx) a (by omega) (by omega);rwa[mM]at this
 obtain⟨d,hd⟩:=aEv a g5 g6 hc h0 hr hu hz;exact⟨d,_,_,hd.d60,hd.trail g6 (f k B Q hr).len,rfl,hd.last.symm,hd.way⟩
theorem aMd (aA aB id:Int)(p:OA)(n a:Nat)(w:World)
  (HF:xC 172 #[aH aA aB p n a,id] w fun w' e w''=>e= .returned (I (-1))∧Ext w' w''):
  U 137 #[aH aA aB p n a,id] w (kO none w):=by
 go_enter func137,ntmps137;go_wp2_with fail;refine Z (HF _ ((Mem.start w).c0 TH3 #[aA,aB,.slice p n a]).ext) fun w1 b=>?_
 have M1:=(((Mem.start w).c0 TH3 #[aA,aB,.slice p n a]).adv b)
 clear b;have HX:=xQ (M1.ext);go_wp2;exact bodyPost_ret (v:= .tuple #[((),()),.bool false]) (by simp[results,results137,go_sem, *]) rfl ⟨_,rfl,HX.out⟩
theorem aIz (aA aB id:Int)(c:Nat)(p:OA)(n a:Nat)(r:Option (List Sl2))(w:World)
  (HF:xC 172 #[aH aA aB p n a,id] w fun w' e w''=>e= .returned (I c)∧Ext w' w'')
  (HB:Hid (∀w',Ext w w'→U 173 #[aH aA aB p n a,c] w' (kO r w'))):
  U 137 #[aH aA aB p n a,id] w (kO r w):=by
 go_enter func137,ntmps137;go_wp2_with fail;refine Z (HF _ ((Mem.start w).c0 TH3 #[aA,aB,.slice p n a]).ext) fun w1 f=>?_
 have M1:=(((Mem.start w).c0 TH3 #[aA,aB,.slice p n a]).adv f)
 clear f;have h_:=(M1.bk 0).tri;go_wp2_with fail;clear h_;have HX:=xQ (M1.ext);refine(HB _ HX.out).mono ?_;intro e w9 hr;have d:=xQ hr;clear hr HB;cases r with
 |none=>obtain⟨v,rfl,b⟩:=d.out;go_wp2;exact bodyPost_ret (v:= .tuple #[v,.bool false]) (by simp[results,results137,go_sem, *]) rfl ⟨_,rfl,HX.out.trans b⟩
 |some l=>obtain⟨q9,c9,rfl,o9,b⟩:=d.out;go_wp2;exact bodyPost_ret (v:= .tuple #[.slice q9 l c9,.bool true]) (by simp[results,results137,go_sem, *]) rfl ⟨q9,c9,rfl,bM o9 HX.out.sz,HX.out.trans b⟩
theorem zG (aA aB id:Int)(p:OA)(n a:Nat)(xs:List Int)(w:World)(b:Hid (xs.length=n))
  (HV:xB 42 #[aH aA aB p n a] w true)
  (HB:xC 137 #[aH aA aB p n a,id] w fun w' e w''=> ∃v,e= .returned (.tuple #[v,.bool false])∧Ext w' w'')
  (HL:xC 46 #[aH aA aB p n a] w fun w' e w''=> ∃q c,e= .returned (aH aA aB q n c)∧w''.ownsRow w' TI 1 (.slice q n c) n (ivs xs)∧Ext w' w''):
  U 100 #[aH aA aB p n a,id] w (dA aA aB xs (-1) w):=by
 go_enter func100,ntmps100;go_wp2_with fail;refine Z (HV _ (((Mem.start w).c0 TH3 #[aA,aB,.slice p n a]).c1 TH3 #[(),(),((),())]).ext) fun w1 g=>?_
 have M1:=((((Mem.start w).c0 TH3 #[aA,aB,.slice p n a]).c1 TH3 #[(),(),((),())]).adv g)
 clear g;have h_:=(M1.bk 1).tri;go_wp2_with fail;clear h_;refine(HB _ M1.ext).mono ?_;rintro e w2 ⟨v,rfl,h⟩;have M2:=(M1.adv h)
 clear M1 h;have h_:=(M2.bk 1).tri;go_wp2_with fail;clear h_;refine(HL _ M2.ext).mono ?_;rintro e w3 ⟨q0,c0,rfl,d,i⟩;have M3:=(M2.call i d)
 clear M2 i d;have z_:=(M3.bk 1).trif;go_wp2;have M4:=((M3.st 1 0 (I aA)).st 1 1 (I aB))
 have M5:=(M4.st 1 2 (.slice q0 n c0))
 clear z_;have M6:=(show Mem w (((w3.setCell ⟨w.heap.size+1,0,none⟩ (I aA)).setCell ⟨w.heap.size+1,1,none⟩ (I aB)).setCell ⟨w.heap.size+1,2,none⟩ (.slice q0 n c0)) [aJ w TI 1 (q0) (n) (c0) (ivs xs),aI w (w.heap.size+1) TH3 #[aA,aB,.slice q0 n c0],aI w w TH3 #[aA,aB,.slice p n a]]from M5)
 generalize f:World.setCell _ _ _=wz;rw[f]at M6;clear f M3 M4 M5;have y_:=(M6.bk 1).tri;exact bodyPost_ret (v:= .tuple #[.agg #[aA,aB,.slice q0 n c0],(-1:Int)]) (by simp[results,results100,go_sem, *]) rfl (fE b.out (M6.ow 0) M6.ext)
theorem aFv (aA aB id:Int)(p:OA)(n a K:Nat)(y0:Int)(ys:List Int)(sl:List Sl2)(w:World)(aa:0<n)(j:Hid (ys.length=n))(u:Hid (ys[0]? =some y0))
  (HV:xB 42 #[aH aA aB p n a] w true)
  (HB:xC 137 #[aH aA aB p n a,id] w fun w' e w''=> ∃q c,e= .returned (.tuple #[.slice q K c,.bool true])∧w''.ownsRow w' TSL 2 (.slice q K c) K (sl.flatMap aM)∧Ext w' w'')
  (HR:Hid (∀w' q c,Ext w w'→Sl w' q K c 2 (sl.flatMap aM)→U 132 #[aH aA aB p n a,.slice q K c] w' fun e w''=> ∃q c,e= .returned (aH aA aB q n c)∧w''.ownsRow w' TI 1 (.slice q n c) n (ivs ys)∧Ext w' w'')):
  U 100 #[aH aA aB p n a,id] w (dA aA aB (ys.set 0 0) (K:Int) w):=by
 go_enter func100,ntmps100;go_wp2_with fail;refine Z (HV _ (((Mem.start w).c0 TH3 #[aA,aB,.slice p n a]).c1 TH3 #[(),(),((),())]).ext) fun w1 r=>?_
 have M1:=((((Mem.start w).c0 TH3 #[aA,aB,.slice p n a]).c1 TH3 #[(),(),((),())]).adv r)
 clear r;have h_:=(M1.bk 1).tri;go_wp2_with fail;clear h_;refine(HB _ M1.ext).mono ?_;rintro e w2 ⟨qs,cs,rfl,k,s⟩;have M2:=(M1.call s k)
 clear M1 s k;have h_:=(M2.bk 2).tri;go_wp2_with fail;clear h_;refine(HR _ qs cs M2.ext (M2.sq 0)).mono ?_;rintro e w3 ⟨q1,c1,rfl,l,t⟩;have M3:=(M2.call t l)
 clear M2 t l;obtain⟨g,rfl,y,z⟩:=M3.so 0;clear y z;go_upto_region 7 with fail;obtain⟨gV,d⟩: ∃gV,gV=w3.heap.size:=⟨_,rfl⟩
 rw[←d];have M4:=(M3.blkNew TH3 #[aA,aB,.slice (some ⟨g,0,none⟩) n c1] gV d.symm)
 generalize World.alloc _ _=w7 at M4⊢;clear M3 d;have v_:=(M4.bk 0).tri;have gi:w7.cell? ⟨g,0,none⟩=some (I y0):=by have:=(M4.ow 1).cellAt 0 (by omega);rw[this];simpa[ivs]using u.out
 have x:w7.frozen? ⟨g,0,none⟩=false:=(M4.ow 1).frozenAt 0;go_upto_region 8 with fail;clear v_ gi x;have MX:=(show Mem w (w7.setCell ⟨g,0,none⟩ (I 0)) [aI w (gV) TH3 #[aA,aB,.slice (some ⟨g,0,none⟩) n c1],aJ w TI 1 (some ⟨g,0,none⟩) (n) (c1) (ivs (ys.set 0 0)),aJ w TSL 2 (qs) (K) (cs) (sl.flatMap aM),aI w (w.heap.size+1) TH3 #[(),(),((),())],aI w w TH3 #[aA,aB,.slice p n a]]from by rw[←eL];exact M4.ostore (i:=1) rfl 0 (I 0))
 generalize m:World.setCell _ _ _=w8;rw[m]at MX;clear m M4;have v_:=(MX.bk 0).tri;have z_:=(MX.bk 3).trif;go_wp2;have f:=((MX.st 3 0 (I aA)).st 3 1 (I aB))
 have h:=(f.st 3 2 (.slice (some ⟨g,0,none⟩) n c1))
 clear v_ z_;have b:=(show Mem w (((w8.setCell ⟨w.heap.size+1,0,none⟩ (I aA)).setCell ⟨w.heap.size+1,1,none⟩ (I aB)).setCell ⟨w.heap.size+1,2,none⟩ (.slice (some ⟨g,0,none⟩) n c1)) [aI w (gV) TH3 #[aA,aB,.slice (some ⟨g,0,none⟩) n c1],aJ w TI 1 (some ⟨g,0,none⟩) (n) (c1) (ivs (ys.set 0 0)),aJ w TSL 2 (qs) (K) (cs) (sl.flatMap aM),aI w (w.heap.size+1) TH3 #[aA,aB,.slice (some ⟨g,0,none⟩) n c1],aI w w TH3 #[aA,aB,.slice p n a]]from h)
 generalize o:World.setCell _ _ _=wz;rw[o]at b;clear o MX f h;obtain⟨y0,y1,y2⟩:=(b.bk 3).tri;exact bodyPost_ret (v:= .tuple #[.agg #[aA,aB,.slice (some ⟨g,0,none⟩) n c1],K]) (by simp[results,results100,go_sem, *]) rfl (fE (by rw[aUi];exact j.out) (b.ow 1) b.ext)
theorem aM9 (aA aB id:Int)(p:OA)(n a:Nat)(xs:List Int)(w:World)(hS:Sl w p n a 1 (ivs xs))(b:aN aA aB xs=true)(hE:BitTab w):
  U 100 #[aH aA aB p n a,id] w (dA aA aB (bW aA aB xs id).1 (bW aA aB xs id).2 w):=by
 have hl:=hS.ilen;subst hl;obtain⟨g1,g2,g3,g4,g5,g6,g7⟩:=cG (cY b);have HV: ∀w',Ext w w'→U 42 #[aH aA aB p xs.length a] w' (O (.bool true) w'):=fun w' hy=>by have:=gU aA aB p xs.length a xs w' (hS.ext hy);rwa[b]at this
 have HL:=fun(w':World) (hy:Ext w w')=>mT aA aB p xs.length a xs w' (by omega) (hS.ext hy)
 by_cases hno:id<1∨id∉xs
 ·have e:bW aA aB xs id=(xs,-1):=by unfold bW mE;rw[if_pos hno]
  rw[e];refine zG aA aB id p xs.length a xs w rfl HV (fun w' hy=> ?_) HL;refine aMd aA aB id p xs.length a w' (fun w2 hy2=> ?_);have:=aBn aA aB id p xs.length a xs w2 (hS.ext (hy.trans hy2));rwa[aJw hno]at this
 have g:1≤id:=by omega
 have hm:id∈xs:=by
  by_cases hm:id∈xs
  ·exact hm
  exact absurd (.inr hm) hno
 obtain⟨c,hc,d⟩:=uA hm;have hf:jH aA aB xs id=(c:Int):=by unfold jH;rw[if_pos ⟨b,g⟩];exact d
 have HB: ∀w',Ext w w'→U 137 #[aH aA aB p xs.length a,id] w' (kO (dX aA xs c) w'):=fun w' hy=>by refine aIz aA aB id c p xs.length a _ w' (fun w2 hy2=> ?_) (fun w2 hy2=>aSe aA aB c id p xs.length a xs w2 (hS.ext (hy.trans hy2)) b hc (by omega) (hE.ext (hy.trans hy2)));have:=aBn aA aB id p xs.length a xs w2 (hS.ext (hy.trans hy2));rwa[hf]at this
 have f:(pV xs id).toNat=c:=by rw[d];simp
 cases hb:dX aA xs c with
 |none=>
  have e:bW aA aB xs id=(xs,-1):=by unfold bW mE;rw[if_neg hno,f,hb];rfl
  rw[e];rw[hb]at HB;exact zG aA aB id p xs.length a xs w rfl HV HB HL
 |some l=>
  obtain⟨b1,ys,b2,b3,b4,b5⟩:=(nN b hc (by omega)).2 l hb;have e:bW aA aB xs id=(ys.set 0 0,(l.length:Int)):=by unfold bW mE;rw[if_neg hno,f,hb];simp[b2]
  rw[e];rw[hb]at HB;have h:eX aA aB xs l=ys:=sZ _ _ _ b2;refine aFv aA aB id p xs.length a l.length id ys l w (by omega) b4 b5 HV HB (fun w' q c' hy hL=> ?_);have:=aBo aA aB p xs.length a xs q l.length c' l w' rfl (hS.ext hy) b hL;rw[h]at this;unfold dN at this;rw[b4]at this;exact this
theorem aMc (w:World)(gA:Nat)(aA aB d h aD aF aC aG id a:Int)(p:OA)(n b:Nat)(q:OA)(m c2:Nat)(ys:List Int)(h0:a<0)(hA:Hid (Blk w gA aK #[aA,aB,.slice (p) n b,d,h,aD,aF,aC,aG,.slice (q) m c2]))
  (HS:xC 96 #[aH aA aB p n b,id] w fun w' e w''=> ∃q c,e= .returned (.tuple #[aH aA aB q n c,a])∧w''.ownsRow w' TI 1 (.slice q n c) n (ivs ys)∧Ext w' w''):
  U 61 #[.pointer (some ⟨gA,0,none⟩),id] w (O (.tuple #[(-1:Int),.bool false]) w):=by
 go_enter func61,ntmps61;have a_:=hA.out.ten;go_wp2_with fail;clear a_;refine(HS _ (Ext.refl _)).mono ?_;rintro e w1 ⟨p1,c1,rfl,f,g⟩;have M1:=((Mem.start w).call g f)
 clear g f;have hX:=xQ M1.ext;go_wp2;exact bodyPost_ret (v:= .tuple #[(-1:Int),.bool false]) (by simp[results,results61,go_sem, *]) rfl ⟨rfl,by have:=hX.out;exact xE⟩
theorem aIx (w0 w:World)(R:Item)(gA:Nat)(aA aB b d aD aF aC aG id a:Int)(p:OA)(n s:Nat)(q:OA)(m c2:Nat)(xs ys:List Int)(vs:List aR)(hm:m≤900)(h0:0≤a)(hl:Hid (vs.length=m))(hM:Hid (Mem w0 w [aJ w0 TI 1 (p) (n) (s) (ivs (xs)),aJ w0 TV 4 (q) (m) (c2) (vs.flatMap aE),aI w0 (gA) aK #[aA,aB,.slice (p) n s,b,d,aD,aF,aC,aG,.slice (q) m c2],R]))
  (HS:xC 96 #[aH aA aB p n s,id] w fun w' e w''=> ∃q c,e= .returned (.tuple #[aH aA aB q n c,a])∧w''.ownsRow w' TI 1 (.slice q n c) n (ivs ys)∧Ext w' w''):
  U 61 #[.pointer (some ⟨gA,0,none⟩),id] w fun e w'=> ∃p1 c1 q9 c9,e= .returned (.tuple #[a,.bool true])∧Mem w0 w' [aJ w0 TI 1 (p1) (n) (c1) (ivs (ys)),aJ w0 TV 4 (q9) (m+1) (c9) ((lX (id,aC,0,aC) vs).flatMap aE),aI w0 (gA) aK #[aA,aB,.slice (p1) n c1,b,d,aD,aF,aC,aG,.slice (q9) (m+1) c9],R]:=by
 go_enter func61,ntmps61;have a0:=(hM.out.bk 2).cl 0;have a1:=(hM.out.bk 2).cl 1;have a2:=(hM.out.bk 2).cl 2;go_wp2_with fail;clear a0 a1 a2;refine(HS _ (Ext.refl _)).mono ?_;rintro e w1 ⟨p1,c1,rfl,ad,af⟩;have M1:=(hM.out.call af ad)
 clear hM af ad;go_upto_region 2 with fail;obtain⟨gV,t⟩: ∃gV,gV=w1.heap.size:=⟨_,rfl⟩
 rw[←t];have M2:=(M1.blkNew TH3 #[aA,aB,.slice p1 n c1] gV t.symm)
 generalize World.alloc _ _=w2 at M2⊢;clear M1 t;have t0:decide (a<0)=false:=by simp;omega
 have v_:=(M2.bk 0).tri;have a0:=(M2.bk 4).cl 0;have ag:=(M2.bk 4).frozen 0;have a1:=(M2.bk 4).cl 1;have ah:=(M2.bk 4).frozen 1;have a2:=(M2.bk 4).cl 2;have ai:=(M2.bk 4).frozen 2;go_upto_region 5 with fail;clear v_ a0 ag a1 ah a2 ai;have M3:=((M2.st 4 0 (I aA)).st 4 1 (I aB))
 have M4:=(M3.st 4 2 (.slice p1 n c1))
 have M5:=(M4)
 generalize ae:World.setCell _ _ _=w5;rw[ae]at M5;clear ae M2 M3 M4;have M6:=(show Mem w0 w5 [aJ w0 TI 1 (p1) (n) (c1) (ivs (ys)),aJ w0 TV 4 (q) (m) (c2) (vs.flatMap aE),aI w0 (gA) aK #[aA,aB,.slice (p1) n c1,b,d,aD,aF,aC,aG,.slice (q) m c2],R]from(M5.pick [1,3,4,5] (by decide) rfl))
 clear M5;go_wp2;go_loopw [8] (fun at_ wr=> ∃(k:Nat),k≤m∧at_=I k∧(∀u∈vs.take k,u.1<id)∧w5=wr) (fun at_ _=>m-(intOf at_).toNat)
 case atStart=>exact⟨0,aTd _,rfl,by simp,rfl⟩
 case round=>
  obtain⟨k,hk,rfl,aa,rfl⟩:=hrel;have j:=xQ aa;clear aa;have b9:=(M6.bk 2).cl 9;have f:=(M6.hi 2)
  by_cases hkm:k<m
  ·obtain⟨gq,y,_,_⟩:=M6.so 1;obtain⟨⟨a0,a1,a2,a3⟩,hx⟩: ∃x,vs[k]? =some x:=⟨_,aT6 (by rw[hl.out];exact hkm)⟩
   have ca:w5.cell? ⟨gq,k*4,none⟩=some (I a0):=by
    have h1:=(M6.ow 1)
    rw[y]at h1;have h2:=h1.cellAt (k*4) (by omega);rw[h2];exact eP aE 4 (fun _=>rfl) vs k _ hx 0 (by omega)
   have i1:=aVt k;have i2:=aVu k m;by_cases h7:a0<id
   ·have t1:decide (a0<id)=true:=by simp[h7]
    have ab:=xQ (show∀u∈vs.take (k+1),u.1<id from by
     intro u hu;rw[bA hx,aTn,aTp]at hu;rcases hu with hu|rfl
     ·exact j u hu
     ·exact h7)
    clear hx h7;subst y;go_wp2;go_roundw
    case rel=>exact⟨k+1,by omega,by go_num,ab.out,by trivial⟩
    case measure=>simp[intOf];omega
   have t1:decide (a0<id)=false:=by simp;omega
   have h:=xQ (show∀u,vs[k]? =some u→ ¬u.1<id from fun u hu=>by rw[hx]at hu;injection hu with hu;subst hu;exact h7);clear hx h7;subst y;go_upto_region 8 with fail;clear b9 ca i1 i2 t1 f;have l:=xQ (tN (id,aC,0,aC) vs k j h.out);have HI:=xQ (fun(w1:World) (vb:Nat) (hx:Ext w5 w1) (hb:Blk w1 vb TV (aE (id,aC,0,aC)).toArray) (hle:w5.heap.size≤vb)=>aFh (w0:=w0) (w:=w1) (some ⟨gq,0,none⟩) k vb c2 m vs (id,aC,0,aC) 1 (by omega) hl (xQ (M6.adv hx)) (xQ hb) hk (fun g hg=>by have h7:=(M6.lt (i:=1) (g:=g) rfl hg).2;omega) (xQ rfl));rw[←l.out]at HI;have a7:=(M6.bk 2).cl 7;have a9:=(M6.bk 2).cl 9;have f:=(M6.hi 2)
   clear j h l;go_wp2_with fail
   go_region_with (first
    |(go_at_call 97;refine(HI _ _ (by first|exact(Ext.refl _).alloc _|exact Ext.drew ((Ext.refl _).alloc _)|exact xE) (by first|exact Blk.new _ _ _|exact(Blk.new _ _ _).ext (Ext.drew (Ext.refl _))) (by first|exact aT5 _|simp)).mono ?_
      rintro e w9 ⟨q9,c9,rfl,o⟩;have M9:=(show Mem w0 w9 [aJ w0 TI 1 (p1) (n) (c1) (ivs (ys)),aJ w0 TV 4 (q9) (m+1) (c9) ((lX (id,aC,0,aC) vs).flatMap aE),aI w0 (gA) aK #[aA,aB,.slice (p1) n c1,b,d,aD,aF,aC,aG,.slice (some ⟨gq,0,none⟩) m c2],R]from o)
      clear o;have x7:=(M9.bk 2).cl 7;have x9:=(M9.bk 2).cl 9;have z:=(M9.bk 2).frozen 9
      have r:=(M9.hi 2)))
   all_goals (
   clear a7 a9 f x7 x9 z r HI M6;have MX:=(M9.st 2 9 (.slice q9 (m+1) c9))
   clear M9;go_wp2
   exact bodyPost_ret (v:= .tuple #[a,.bool true]) (by simp[results,results61,go_sem, *]) rfl ⟨p1,c1,q9,c9,rfl,MX⟩)
  obtain rfl:m=k:=by omega
  have h:=xQ (show∀u,vs[m]? =some u→ ¬u.1<id from fun u hu=>by rw[aUn (by rw[hl.out];exact aT5 _)]at hu;cases hu);go_upto_region 8 with fail;clear b9 f;have l:=xQ (tN (id,aC,0,aC) vs m j h.out);have HI:=xQ (fun(w1:World) (vb:Nat) (hx:Ext w5 w1) (hb:Blk w1 vb TV (aE (id,aC,0,aC)).toArray) (hle:w5.heap.size≤vb)=>aFh (w0:=w0) (w:=w1) q m vb c2 m vs (id,aC,0,aC) 1 (by omega) hl (xQ (M6.adv hx)) (xQ hb) (aT5 _) (fun g hg=>by have h7:=(M6.lt (i:=1) (g:=g) rfl hg).2;omega) (xQ rfl));rw[←l.out]at HI;have a7:=(M6.bk 2).cl 7;have a9:=(M6.bk 2).cl 9;have f:=(M6.hi 2)
  clear j h l;go_wp2_with fail
  go_region_with (first
   |(go_at_call 97;refine(HI _ _ (by first|exact(Ext.refl _).alloc _|exact Ext.drew ((Ext.refl _).alloc _)|exact xE) (by first|exact Blk.new _ _ _|exact(Blk.new _ _ _).ext (Ext.drew (Ext.refl _))) (by first|exact aT5 _|simp)).mono ?_
     rintro e w9 ⟨q9,c9,rfl,o⟩;have M9:=(show Mem w0 w9 [aJ w0 TI 1 (p1) (n) (c1) (ivs (ys)),aJ w0 TV 4 (q9) (m+1) (c9) ((lX (id,aC,0,aC) vs).flatMap aE),aI w0 (gA) aK #[aA,aB,.slice (p1) n c1,b,d,aD,aF,aC,aG,.slice (q) m c2],R]from o)
     clear o;have x7:=(M9.bk 2).cl 7;have x9:=(M9.bk 2).cl 9;have z:=(M9.bk 2).frozen 9
     have r:=(M9.hi 2)))
  all_goals (
  clear a7 a9 f x7 x9 z r HI M6;have MX:=(M9.st 2 9 (.slice q9 (m+1) c9))
  clear M9;go_wp2
  exact bodyPost_ret (v:= .tuple #[a,.bool true]) (by simp[results,results61,go_sem, *]) rfl ⟨p1,c1,q9,c9,rfl,MX⟩)
end Go.Proofs.YthfmmibomhhmpaaGreatDoor
