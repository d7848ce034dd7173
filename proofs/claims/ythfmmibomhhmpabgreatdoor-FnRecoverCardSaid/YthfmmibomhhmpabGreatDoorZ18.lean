/- Lemmas (@packed). -/
import Derived.Test.YthfmmibomhhmpabGreatDoorZ17
namespace Go.Proofs.YthfmmibomhhmpabGreatDoor
open Go.RowKit Go.Proofs.Tryz
set_option linter.all false
set_option maxHeartbeats 8000000
set_option maxRecDepth 100000
variable(i pd:Int)(w0:World)(aA aB id:Int)(b:Nat)(p:OA)(n a K d c:Nat)(x:Int)(xs ys zs:List Int)(sl:List Sl2)(w:World)(R:Item)(gA:Nat)
theorem aOy (p:4≤xs.length)(hn:xs.length≤12)(n:Hid (xs[0]? =some x))(hb:b<w.heap.size)(m:Hid (w.cell? ⟨b,a,none⟩=some (I x)))(o:id<1)(HV:xB 34 #[aH aA aB (some ⟨b,a,none⟩) xs.length c] w true)(HK:Hid (∀w',Ext w w'→U 70 #[aH aA aB (some ⟨b,a,none⟩) xs.length c] w' (eA aA aB xs w'))):
  U 147 #[aH aA aB (some ⟨b,a,none⟩) xs.length c,(),id] w (dL aA aB xs false w):=by
 go_enter func147,ntmps147;go_wp2_with fail;refine Ω (HV _ (Mem.b2 w).ext) fun w1 i=>?_
 have M1:=((Mem.b2 w).adv i)
 clear i;have h_:=(M1.bk 1).tri;go_wp2_with fail;clear h_;refine(HK _ M1.ext).mono ?_;rintro e w2 ⟨q,c2,rfl,f,j⟩;have M2:=(M1.call j f)
 clear M1 j f;obtain⟨g,rfl,k,l⟩:=M2.so 0;clear k l;go_upto_region 4 with fail;obtain⟨gV,d⟩: ∃gV,gV=w2.heap.size:=⟨_,rfl⟩
 rw[←d];have M3:=(M2.blkNew TH3 #[aA,aB,.slice (some ⟨g,0,none⟩) xs c2] gV d.symm)
 generalize World.alloc _ _=w4 at M3⊢;clear M2 d;have v_:=(M3.bk 0).tri;have z_:=(M3.bk 2).trif;go_wp2;have M4:=((M3.st 2 0 (I aA)).st 2 1 (I aB))
 have M5:=(M4.st 2 2 (.slice (some ⟨g,0,none⟩) xs c2))
 have M6:=(show Mem w (((w4.setCell ⟨w.heap.size+1,0,none⟩ (I aA)).setCell ⟨w.heap.size+1,1,none⟩ (I aB)).setCell ⟨w.heap.size+1,2,none⟩ (.slice (some ⟨g,0,none⟩) xs c2)) [aI w (gV) TH3 #[aA,aB,.slice (some ⟨g,0,none⟩) xs c2],aJ w TI 1 (some ⟨g,0,none⟩) (xs.length) (c2) (ivs xs),aI w (w.heap.size+1) TH3 #[aA,aB,.slice (some ⟨g,0,none⟩) xs c2],aI w w TH3 #[aA,aB,.slice (some ⟨b,a,none⟩) xs c]]from M5)
 generalize h:World.setCell _ _ _=wz;rw[h]at M6;clear h M3 M4 M5 v_ z_;have y_:=(M6.bk 2).tri;exact aYw (v:= .tuple #[.agg #[aA,aB,.slice (some ⟨g,0,none⟩) xs c2],.bool false]) (fL (by simp) (by exact(M6.ow 1)) M6.ext)
theorem aIy (s:4≤xs.length)(hn:xs.length≤12)(p:Hid (xs[0]? =some x))(hb:b<w.heap.size)(l:Hid (w.cell? ⟨b,a,none⟩=some (I x)))(r:1≤id)(t:(x !=0)=true)(HH:Hid (∀w',U 157 #[aH aA aB (some ⟨b,a,none⟩) xs.length c,()] w' (Z (.bool true) w')))(HV:xB 34 #[aH aA aB (some ⟨b,a,none⟩) xs.length c] w true)(HK:Hid (∀w',Ext w w'→U 70 #[aH aA aB (some ⟨b,a,none⟩) xs.length c] w' (eA aA aB xs w'))):
  U 147 #[aH aA aB (some ⟨b,a,none⟩) xs.length c,(),id] w (dL aA aB xs false w):=by
 have o:=aYu (id<1);go_enter func147,ntmps147;go_wp2_with fail;refine Ω (HV _ (Mem.b2 w).ext) fun w1 i=>?_
 have M1:=((Mem.b2 w).adv i)
 clear i;have h_:=(M1.bk 1).tri;go_wp2_with fail;clear h_;refine(HK _ M1.ext).mono ?_;rintro e w2 ⟨q,c2,rfl,f,j⟩;have M2:=(M1.call j f)
 clear M1 j f;obtain⟨g,rfl,m,n⟩:=M2.so 0;clear m n;go_upto_region 4 with fail;obtain⟨gV,d⟩: ∃gV,gV=w2.heap.size:=⟨_,rfl⟩
 rw[←d];have M3:=(M2.blkNew TH3 #[aA,aB,.slice (some ⟨g,0,none⟩) xs c2] gV d.symm)
 generalize World.alloc _ _=w4 at M3⊢;clear M2 d;have h_:=(M3.bk 3).tri;go_wp2_with fail;clear h_;refine Ω (HH _) fun w4 k=>?_
 have M4:=(M3.adv k)
 clear M3 k;have cx:w4.cell? ⟨b,a,none⟩=some (I x):=(M4.ext.cells.1 _ _ hb).trans l.out;have h_:=(M4.bk 3).tri;have v_:=(M4.bk 0).tri;have z_:=(M4.bk 2).trif;go_wp2;have M5:=((M4.st 2 0 (I aA)).st 2 1 (I aB))
 have M6:=(M5.st 2 2 (.slice (some ⟨g,0,none⟩) xs c2))
 have M7:=(show Mem w (((w4.setCell ⟨w.heap.size+1,0,none⟩ (I aA)).setCell ⟨w.heap.size+1,1,none⟩ (I aB)).setCell ⟨w.heap.size+1,2,none⟩ (.slice (some ⟨g,0,none⟩) xs c2)) [aI w (gV) TH3 #[aA,aB,.slice (some ⟨g,0,none⟩) xs c2],aJ w TI 1 (some ⟨g,0,none⟩) (xs.length) (c2) (ivs xs),aI w (w.heap.size+1) TH3 #[aA,aB,.slice (some ⟨g,0,none⟩) xs c2],aI w w TH3 #[aA,aB,.slice (some ⟨b,a,none⟩) xs c]]from M6)
 generalize h:World.setCell _ _ _=wz;rw[h]at M7;clear h M4 M5 M6 v_ z_;have y_:=(M7.bk 2).tri;exact aYw (v:= .tuple #[.agg #[aA,aB,.slice (some ⟨g,0,none⟩) xs c2],.bool false]) (fL (by simp) (by exact(M7.ow 1)) M7.ext)
theorem aLo (ah:4≤xs.length)(hn:xs.length≤12)(z:Hid (xs[0]? =some x))(hb:b<w.heap.size)(u:Hid (w.cell? ⟨b,a,none⟩=some (I x)))(ag:1≤id)(ai:(x !=0)=false)(HH:Hid (∀w',U 157 #[aH aA aB (some ⟨b,a,none⟩) xs.length d,()] w' (Z (.bool true) w')))(y:Hid (∀w' q c,Sl w' q xs.length c 1 (ivs (xs.set 0 id))→U 34 #[aH aA aB q xs.length c] w' (Z (.bool true) w')))(HV:xB 34 #[aH aA aB (some ⟨b,a,none⟩) xs.length d] w true)(HK:Hid (∀w',Ext w w'→U 70 #[aH aA aB (some ⟨b,a,none⟩) xs.length d] w' (eA aA aB xs w'))):
  U 147 #[aH aA aB (some ⟨b,a,none⟩) xs.length d,(),id] w (dL aA aB (xs.set 0 id) true w):=by
 have af:=aYu (id<1);go_enter func147,ntmps147;go_wp2_with fail;refine Ω (HV _ (Mem.b2 w).ext) fun w1 r=>?_
 have M1:=((Mem.b2 w).adv r)
 clear r;have h_:=(M1.bk 1).tri;go_wp2_with fail;clear h_;refine(HK _ M1.ext).mono ?_;rintro e w2 ⟨q,c2,rfl,n,s⟩;have M2:=(M1.call s n)
 clear M1 s n;obtain⟨g,rfl,ab,ad⟩:=M2.so 0;clear ab ad;go_upto_region 4 with fail;obtain⟨gV,k⟩: ∃gV,gV=w2.heap.size:=⟨_,rfl⟩
 rw[←k];have M3:=(M2.blkNew TH3 #[aA,aB,.slice (some ⟨g,0,none⟩) xs c2] gV k.symm)
 generalize World.alloc _ _=w4 at M3⊢;clear M2 k;have h_:=(M3.bk 3).tri;go_wp2_with fail;clear h_;refine Ω (HH _) fun w4 t=>?_
 have M4:=(M3.adv t)
 clear M3 t;have cx:w4.cell? ⟨b,a,none⟩=some (I x):=(M4.ext.cells.1 _ _ hb).trans u.out;have h_:=(M4.bk 3).tri;have v_:=(M4.bk 0).tri;have gi:w4.cell? ⟨g,0,none⟩=some (I x):=by have:=(M4.ow 1).cellAt 0 (by omega);rw[this];simpa[ivs]using z.out
 have aa:w4.frozen? ⟨g,0,none⟩=false:=(M4.ow 1).frozenAt 0;go_upto_region 7 with fail;clear h_ v_ cx gi aa;have MX:=(show Mem w (w4.setCell ⟨g,0,none⟩ (I id)) [aI w (gV) TH3 #[aA,aB,.slice (some ⟨g,0,none⟩) xs c2],aJ w TI 1 (some ⟨g,0,none⟩) (xs.length) (c2) (ivs (xs.set 0 id)),aI w (w.heap.size+1) TH3 #[(),(),((),())],aI w w TH3 #[aA,aB,.slice (some ⟨b,a,none⟩) xs d]]from by rw[←eW];exact M4.ostore (i:=1) rfl 0 (I id))
 generalize o:World.setCell _ _ _=w5;rw[o]at MX;clear o M4;have v_:=(MX.bk 0).tri;go_wp2_with fail;clear v_;refine Ω (y _ _ _ (by exact(MX.sq 1))) fun ae j=>?_
 have f:=(MX.adv j)
 clear MX j;have v_:=(f.bk 0).tri;have z_:=(f.bk 2).trif;go_wp2;have l:=((f.st 2 0 (I aA)).st 2 1 (I aB))
 have m:=(l.st 2 2 (.slice (some ⟨g,0,none⟩) xs c2))
 have h:=(show Mem w (((ae.setCell ⟨w.heap.size+1,0,none⟩ (I aA)).setCell ⟨w.heap.size+1,1,none⟩ (I aB)).setCell ⟨w.heap.size+1,2,none⟩ (.slice (some ⟨g,0,none⟩) xs c2)) [aI w (gV) TH3 #[aA,aB,.slice (some ⟨g,0,none⟩) xs c2],aJ w TI 1 (some ⟨g,0,none⟩) (xs.length) (c2) (ivs (xs.set 0 id)),aI w (w.heap.size+1) TH3 #[aA,aB,.slice (some ⟨g,0,none⟩) xs c2],aI w w TH3 #[aA,aB,.slice (some ⟨b,a,none⟩) xs d]]from m)
 generalize p:World.setCell _ _ _=wz;rw[p]at h;clear p f l m v_ z_;have y_:=(h.bk 2).tri;exact aYw (v:= .tuple #[.agg #[aA,aB,.slice (some ⟨g,0,none⟩) xs c2],.bool true]) (fL (by simp) (by exact(h.ow 1)) h.ext)
theorem aLp (ak:4≤xs.length)(hn:xs.length≤12)(ad:Hid (xs[0]? =some x))(hb:b<w.heap.size)(aa:Hid (w.cell? ⟨b,a,none⟩=some (I x)))(aj:1≤id)(al:(x !=0)=false)(HH:Hid (∀w',U 157 #[aH aA aB (some ⟨b,a,none⟩) xs.length d,()] w' (Z (.bool true) w')))(ab:Hid (∀w' q c,Sl w' q xs.length c 1 (ivs (xs.set 0 id))→U 34 #[aH aA aB q xs.length c] w' (Z (.bool false) w')))(HV:xB 34 #[aH aA aB (some ⟨b,a,none⟩) xs.length d] w true)(HK:Hid (∀w',Ext w w'→U 70 #[aH aA aB (some ⟨b,a,none⟩) xs.length d] w' (eA aA aB xs w'))):
  U 147 #[aH aA aB (some ⟨b,a,none⟩) xs.length d,(),id] w (dL aA aB xs false w):=by
 have ai:=aYu (id<1);go_enter func147,ntmps147;go_wp2_with fail;refine Ω (HV _ (Mem.b2 w).ext) fun w1 u=>?_
 have M1:=((Mem.b2 w).adv u)
 clear u;have h_:=(M1.bk 1).tri;go_wp2_with fail;clear h_;refine(HK _ M1.ext).mono ?_;rintro e w2 ⟨q,c2,rfl,r,y⟩;have M2:=(M1.call y r)
 clear M1 y r;obtain⟨g,rfl,af,ag⟩:=M2.so 0;clear af ag;go_upto_region 4 with fail;obtain⟨gV,n⟩: ∃gV,gV=w2.heap.size:=⟨_,rfl⟩
 rw[←n];have M3:=(M2.blkNew TH3 #[aA,aB,.slice (some ⟨g,0,none⟩) xs c2] gV n.symm)
 generalize World.alloc _ _=w4 at M3⊢;clear M2 n;have h_:=(M3.bk 3).tri;go_wp2_with fail;clear h_;refine Ω (HH _) fun w4 z=>?_
 have M4:=(M3.adv z)
 clear M3 z;have cx:w4.cell? ⟨b,a,none⟩=some (I x):=(M4.ext.cells.1 _ _ hb).trans aa.out;have h_:=(M4.bk 3).tri;have v_:=(M4.bk 0).tri;have gi:w4.cell? ⟨g,0,none⟩=some (I x):=by have:=(M4.ow 1).cellAt 0 (by omega);rw[this];simpa[ivs]using ad.out
 have ae:w4.frozen? ⟨g,0,none⟩=false:=(M4.ow 1).frozenAt 0;go_upto_region 7 with fail;clear h_ v_ cx gi ae;have MX:=(show Mem w (w4.setCell ⟨g,0,none⟩ (I id)) [aI w (gV) TH3 #[aA,aB,.slice (some ⟨g,0,none⟩) xs c2],aJ w TI 1 (some ⟨g,0,none⟩) (xs.length) (c2) (ivs (xs.set 0 id)),aI w (w.heap.size+1) TH3 #[(),(),((),())],aI w w TH3 #[aA,aB,.slice (some ⟨b,a,none⟩) xs d]]from by rw[←eW];exact M4.ostore (i:=1) rfl 0 (I id))
 generalize s:World.setCell _ _ _=w5;rw[s]at MX;clear s M4;have v_:=(MX.bk 0).tri;go_wp2_with fail;clear v_;refine Ω (ab _ _ _ (by exact(MX.sq 1))) fun am k=>?_
 have f:=(MX.adv k)
 clear MX k;have h_:=(f.bk 3).tri;go_wp2_with fail;clear h_;refine(HK _ f.ext).mono ?_;rintro e ah ⟨q0,c0,rfl,j,l⟩;have m:=(f.call l j)
 clear f l j;have z_:=(m.bk 3).trif;go_wp2;have o:=((m.st 3 0 (I aA)).st 3 1 (I aB))
 have p:=(o.st 3 2 (.slice q0 xs c0))
 have h:=(show Mem w (((ah.setCell ⟨w.heap.size+1,0,none⟩ (I aA)).setCell ⟨w.heap.size+1,1,none⟩ (I aB)).setCell ⟨w.heap.size+1,2,none⟩ (.slice q0 xs c0)) [aJ w TI 1 (q0) (xs.length) (c0) (ivs xs),aI w (gV) TH3 #[aA,aB,.slice (some ⟨g,0,none⟩) xs c2],aJ w TI 1 (some ⟨g,0,none⟩) (xs.length) (c2) (ivs (xs.set 0 id)),aI w (w.heap.size+1) TH3 #[aA,aB,.slice q0 xs c0],aI w w TH3 #[aA,aB,.slice (some ⟨b,a,none⟩) xs d]]from p)
 generalize t:World.setCell _ _ _=wz;rw[t]at h;clear t m o p z_;have y_:=(h.bk 3).tri;exact aYw (v:= .tuple #[.agg #[aA,aB,.slice q0 xs c0],.bool false]) (fL (by simp) (by exact(h.ow 0)) h.ext)
theorem aV4 (hS:Sl w p n a 1 (ivs xs))(i:aO aA aB xs=true):
  U 147 #[aH aA aB p n a,(),id] w (dL aA aB (dM aA aB xs id).1 (dM aA aB xs id).2 w):=by
 have hl:=hS.ilen;subst hl;obtain⟨g1,g2,g3,g4,g5,g6,g7,g8,g9⟩:=bS i;have HV: ∀w',Ext w w'→U 34 #[aH aA aB p xs.length a] w' (Z (.bool true) w'):=fun w' hx=>by have:=iK aA aB p xs.length a xs w' (hS.ext hx);rwa[i]at this
 have HK:=fun(w':World) (hx:Ext w w')=>oI aA aB p xs.length a xs w' (by omega) (hS.ext hx)
 have HH: ∀w',U 157 #[aH aA aB p xs.length a,()] w' (Z (.bool true) w'):=fun w'=>by have:=lC aA aB 0 p xs.length a w' (by omega);rwa[decide_eq_true (⟨by omega,by omega⟩:0≤(0:Int)∧(0:Int)<xs.length)]at this
 obtain⟨b,g,rfl,hb,j⟩:=hS.rd (by omega);have f:xs[0]? =some (xs.getD 0 0):=by rw[aW7,aW0 (by omega)];rfl
 have h:w.cell? ⟨b,g,none⟩=some (I (xs.getD 0 0)):=by have:=j 0 (by omega);rw[Nat.add_zero]at this;rw[this];simp only[ivs,aWp,f,aX2]
 by_cases h1:id<1
 ·rw[show dM aA aB xs id=(xs,false) by unfold dM;rw[if_neg (by omega)]];exact aOy aA aB id b g a _ xs w g5 g6 f hb h h1 HV HK
 by_cases h2:xs.getD 0 0=0
 ·have d:(xs.getD 0 0 !=0)=false:=by rw[h2];rfl
  cases hv:aO aA aB (xs.set 0 id)with
  |true=>rw[show dM aA aB xs id=(xs.set 0 id,true) by unfold dM;rw[if_pos ⟨h2,by omega,hv⟩]];refine aLo aA aB id b g a _ xs w g5 g6 f hb h (by omega) d HH (fun w' q c hL=> ?_) HV HK;have:=iK aA aB q xs.length c _ w' hL;rwa[hv]at this
  |false=>rw[show dM aA aB xs id=(xs,false) by unfold dM;rw[if_neg (by rw[hv];simp)]];refine aLp aA aB id b g a _ xs w g5 g6 f hb h (by omega) d HH (fun w' q c hL=> ?_) HV HK;have:=iK aA aB q xs.length c _ w' hL;rwa[hv]at this
 rw[show dM aA aB xs id=(xs,false) by unfold dM;rw[if_neg (by omega)]];exact aIy aA aB id b g a _ xs w g5 g6 f hb h (by omega) (by simpa using h2) HH HV HK
theorem aG8 (b:Hid (xs.length=n))(HV:xB 34 #[aH aA aB p n a] w true)(HC:xC 146 #[aH aA aB p n a] w fun w' e w''=> ∃v,e= .returned (.tuple #[v,.bool false])∧Ext w' w'')(HL:xC 70 #[aH aA aB p n a] w fun w' e w''=> ∃q c,e= .returned (aH aA aB q n c)∧w''.ownsRow w' TI 1 (.slice q n c) n (ivs xs)∧Ext w' w''):
  U 110 #[aH aA aB p n a,id] w (dK aA aB xs (-1) w):=by
 go_enter func110,ntmps110;go_wp2_with fail;refine Ω (HV _ (Mem.b2 w).ext) fun w1 g=>?_
 have M1:=((Mem.b2 w).adv g)
 clear g;have h_:=(M1.bk 1).tri;go_wp2_with fail;clear h_;refine(HC _ M1.ext).mono ?_;rintro e w2 ⟨v,rfl,h⟩;have M2:=(M1.adv h)
 clear M1 h;have h_:=(M2.bk 1).tri;go_wp2_with fail;clear h_;refine(HL _ M2.ext).mono ?_;rintro e w3 ⟨q0,c0,rfl,d,i⟩;have M3:=(M2.call i d)
 clear M2 i d;have z_:=(M3.bk 1).trif;go_wp2;have M4:=((M3.st 1 0 (I aA)).st 1 1 (I aB))
 have M5:=(M4.st 1 2 (.slice q0 n c0))
 clear z_;have M6:=(show Mem w (((w3.setCell ⟨w.heap.size+1,0,none⟩ (I aA)).setCell ⟨w.heap.size+1,1,none⟩ (I aB)).setCell ⟨w.heap.size+1,2,none⟩ (.slice q0 n c0)) [aJ w TI 1 (q0) (n) (c0) (ivs xs),aI w (w.heap.size+1) TH3 #[aA,aB,.slice q0 n c0],aI w w TH3 #[aA,aB,.slice p n a]]from M5)
 generalize f:World.setCell _ _ _=wz;rw[f]at M6;clear f M3 M4 M5;have y_:=(M6.bk 1).tri;exact aYw (v:= .tuple #[.agg #[aA,aB,.slice q0 n c0],(-1:Int)]) (fY b.out (M6.ow 0) M6.ext)
theorem aLg (d:Hid (xs.length=n))(HV:xB 34 #[aH aA aB p n a] w true)(HC:xC 146 #[aH aA aB p n a] w fun w' e w''=> ∃q c,e= .returned (.tuple #[.slice q K c,.bool true])∧w''.ownsRow w' TSL 2 (.slice q K c) K (sl.flatMap aK)∧Ext w' w'')(HR:Hid (∀w' q c,Ext w w'→Sl w' q K c 2 (sl.flatMap aK)→U 148 #[aH aA aB p n a,.slice q K c] w' (aYy TI 1 n (ivs ys) w' fun q c=>aH aA aB q n c)))(HP:Hid (∀w' q c,Ext w w'→Sl w' q n c 1 (ivs ys)→U 147 #[aH aA aB q n c,(),id] w' (aYy TI 1 n (ivs zs) w' fun q c=> .tuple #[aH aA aB q n c,.bool false])))(HL:xC 70 #[aH aA aB p n a] w fun w' e w''=> ∃q c,e= .returned (aH aA aB q n c)∧w''.ownsRow w' TI 1 (.slice q n c) n (ivs xs)∧Ext w' w''):
  U 110 #[aH aA aB p n a,id] w (dK aA aB xs (-1) w):=by
 go_enter func110,ntmps110;go_wp2_with fail;refine Ω (HV _ (Mem.b2 w).ext) fun w1 k=>?_
 have M1:=((Mem.b2 w).adv k)
 clear k;have h_:=(M1.bk 1).tri;go_wp2_with fail;clear h_;refine(HC _ M1.ext).mono ?_;rintro e w2 ⟨qs,cs,rfl,f,l⟩;have M2:=(M1.call l f)
 clear M1 l f;have h_:=(M2.bk 2).tri;go_wp2_with fail;clear h_;refine(HR _ qs cs M2.ext (M2.sq 0)).mono ?_;rintro e w3 ⟨q1,c1,rfl,g,m⟩;have M3:=(M2.call m g)
 clear M2 m g;go_wp2_with fail;refine(HP _ q1 c1 M3.ext (M3.sq 0)).mono ?_;rintro e w4 ⟨q2,c2,rfl,h,o⟩;have M4:=(M3.call o h)
 clear M3 o h;go_upto_region 7 with fail;obtain⟨gV,b⟩: ∃gV,gV=w4.heap.size:=⟨_,rfl⟩
 rw[←b];have M5:=(M4.blkNew TH3 #[aA,aB,.slice q2 n c2] gV b.symm)
 generalize World.alloc _ _=w7 at M5⊢;clear M4 b;have h_:=(M5.bk 5).tri;go_wp2_with fail;clear h_;refine(HL _ M5.ext).mono ?_;rintro e w6 ⟨q0,c0,rfl,i,r⟩;have M6:=(M5.call r i)
 clear M5 r i;have z_:=(M6.bk 5).trif;go_wp2;have M7:=((M6.st 5 0 (I aA)).st 5 1 (I aB))
 have M8:=(M7.st 5 2 (.slice q0 n c0))
 clear z_;have M9:=(show Mem w (((w6.setCell ⟨w.heap.size+1,0,none⟩ (I aA)).setCell ⟨w.heap.size+1,1,none⟩ (I aB)).setCell ⟨w.heap.size+1,2,none⟩ (.slice q0 n c0)) [aJ w TI 1 (q0) (n) (c0) (ivs xs),aI w (gV) TH3 #[aA,aB,.slice q2 n c2],aJ w TI 1 (q2) (n) (c2) (ivs zs),aJ w TI 1 (q1) (n) (c1) (ivs ys),aJ w TSL 2 (qs) (K) (cs) (sl.flatMap aK),aI w (w.heap.size+1) TH3 #[aA,aB,.slice q0 n c0],aI w w TH3 #[aA,aB,.slice p n a]]from M8)
 generalize j:World.setCell _ _ _=wz;rw[j]at M9;clear j M6 M7 M8;have y_:=(M9.bk 5).tri;exact aYw (v:= .tuple #[.agg #[aA,aB,.slice q0 n c0],(-1:Int)]) (fY d.out (M9.ow 0) M9.ext)
theorem aIo (d:Hid (zs.length=n))(HV:xB 34 #[aH aA aB p n a] w true)(HC:xC 146 #[aH aA aB p n a] w fun w' e w''=> ∃q c,e= .returned (.tuple #[.slice q K c,.bool true])∧w''.ownsRow w' TSL 2 (.slice q K c) K (sl.flatMap aK)∧Ext w' w'')(HR:Hid (∀w' q c,Ext w w'→Sl w' q K c 2 (sl.flatMap aK)→U 148 #[aH aA aB p n a,.slice q K c] w' (aYy TI 1 n (ivs ys) w' fun q c=>aH aA aB q n c)))(HP:Hid (∀w' q c,Ext w w'→Sl w' q n c 1 (ivs ys)→U 147 #[aH aA aB q n c,(),id] w' (aYy TI 1 n (ivs zs) w' fun q c=> .tuple #[aH aA aB q n c,.bool true]))):
  U 110 #[aH aA aB p n a,id] w (dK aA aB zs (K:Int) w):=by
 go_enter func110,ntmps110;go_wp2_with fail;refine Ω (HV _ (Mem.b2 w).ext) fun w1 j=>?_
 have M1:=((Mem.b2 w).adv j)
 clear j;have h_:=(M1.bk 1).tri;go_wp2_with fail;clear h_;refine(HC _ M1.ext).mono ?_;rintro e w2 ⟨qs,cs,rfl,f,k⟩;have M2:=(M1.call k f)
 clear M1 k f;have h_:=(M2.bk 2).tri;go_wp2_with fail;clear h_;refine(HR _ qs cs M2.ext (M2.sq 0)).mono ?_;rintro e w3 ⟨q1,c1,rfl,g,l⟩;have M3:=(M2.call l g)
 clear M2 l g;go_wp2_with fail;refine(HP _ q1 c1 M3.ext (M3.sq 0)).mono ?_;rintro e w4 ⟨q2,c2,rfl,h,m⟩;have M4:=(M3.call m h)
 clear M3 m h;go_upto_region 7 with fail;obtain⟨gV,b⟩: ∃gV,gV=w4.heap.size:=⟨_,rfl⟩
 rw[←b];have M5:=(M4.blkNew TH3 #[aA,aB,.slice q2 n c2] gV b.symm)
 generalize World.alloc _ _=w7 at M5⊢;clear M4 b;have v_:=(M5.bk 0).tri;have z_:=(M5.bk 4).trif;go_wp2;have M6:=((M5.st 4 0 (I aA)).st 4 1 (I aB))
 have M7:=(M6.st 4 2 (.slice q2 n c2))
 clear v_ z_;have M8:=(show Mem w (((w7.setCell ⟨w.heap.size+1,0,none⟩ (I aA)).setCell ⟨w.heap.size+1,1,none⟩ (I aB)).setCell ⟨w.heap.size+1,2,none⟩ (.slice q2 n c2)) [aI w (gV) TH3 #[aA,aB,.slice q2 n c2],aJ w TI 1 (q2) (n) (c2) (ivs zs),aJ w TI 1 (q1) (n) (c1) (ivs ys),aJ w TSL 2 (qs) (K) (cs) (sl.flatMap aK),aI w (w.heap.size+1) TH3 #[aA,aB,.slice q2 n c2],aI w w TH3 #[aA,aB,.slice p n a]]from M7)
 generalize i:World.setCell _ _ _=wz;rw[i]at M8;clear i M5 M6 M7;have y_:=(M8.bk 4).tri;exact aYw (v:= .tuple #[.agg #[aA,aB,.slice q2 n c2],K]) (fY d.out (M8.ow 1) M8.ext)
theorem wC {aA aB:Int}: ∀(l:List Sl2) (xs ys:List Int),bJ aA aB xs l=(ys,l.length)→fR aA aB xs l=ys
 | [],xs,ys,h=>by simp only[bJ,aX5]at h;exact h.1
 |s::l,xs,ys,h=>by
  show fR aA aB (bQ aA aB xs s.1 s.2) l=ys;cases hm:bM aA aB xs s.1 s.2 with
  |false=>rw[mT hm]at h;simp at h
  |true=>rw[fQ hm]at h;simp only[aX5,aX0]at h;exact wC l _ ys (Prod.ext h.1 (by have:=h.2;dsimp only;omega))
theorem aOq (hS:Sl w p n a 1 (ivs xs))(b:aO aA aB xs=true):
  U 110 #[aH aA aB p n a,id] w (dK aA aB (cZ aA aB xs id).1 (cZ aA aB xs id).2 w):=by
 have hl:=hS.ilen;subst hl;obtain⟨g1,g2,g3,g4,g5,g6,g7⟩:=cQ (dH b);have HV: ∀w',Ext w w'→U 34 #[aH aA aB p xs.length a] w' (Z (.bool true) w'):=fun w' hy=>by have:=iK aA aB p xs.length a xs w' (hS.ext hy);rwa[b]at this
 have HL:=fun(w':World) (hy:Ext w w')=>oI aA aB p xs.length a xs w' (by omega) (hS.ext hy)
 have HC:=fun(w':World) (hy:Ext w w')=>aV8 aA aB p xs.length a xs w' (hS.ext hy) b
 cases hr:kI aA xs with
 |none=>
  have e:cZ aA aB xs id=(xs,-1):=by unfold cZ oQ;rw[hr]
  rw[e];rw[hr]at HC;exact aG8 aA aB id p xs.length a xs w rfl HV HC HL
 |some r=>
  rw[hr]at HC;obtain⟨f1,f2,f3,f4,f5⟩:=tG b hr;have d:fR aA aB xs r.2=r.1:=wC _ _ _ f1;have HR: ∀w' q c,Ext w w'→Sl w' q r.2.length c 2 (r.2.flatMap aK)→U 148 #[aH aA aB p xs.length a,.slice q r.2.length c] w' (aYy TI 1 xs.length (ivs r.1) w' fun q c=>aH aA aB q xs.length c):=fun w' q c hy hL=>by have:=aEp aA aB p xs.length a xs q r.2.length c r.2 w' rfl (hS.ext hy) b hL;rw[d]at this;unfold eA at this;rw[f3]at this;exact this
  have HP: ∀w' q c,Ext w w'→Sl w' q xs.length c 1 (ivs r.1)→U 147 #[aH aA aB q xs.length c,(),id] w' (aYy TI 1 xs.length (ivs (dM aA aB r.1 id).1) w' fun q c=> .tuple #[aH aA aB q xs.length c,.bool (dM aA aB r.1 id).2]):=fun w' q c hy hL=>by have:=aV4 aA aB id q xs.length c r.1 w' hL f2;unfold dL at this;rw[pB,f3]at this;exact this
  cases hb:(dM aA aB r.1 id).2 with
  |false=>
   have e:cZ aA aB xs id=(xs,-1):=by simp[cZ,oQ,hr,hb]
   rw[e];rw[hb]at HP;exact aLg aA aB id p xs.length a r.2.length xs r.1 (dM aA aB r.1 id).1 r.2 w rfl HV HC HR HP HL
  |true=>
   have e:cZ aA aB xs id=((dM aA aB r.1 id).1,(r.2.length:Int)):=by simp[cZ,oQ,hr,hb]
   rw[e];rw[hb]at HP;exact aIo aA aB id p xs.length a r.2.length r.1 (dM aA aB r.1 id).1 r.2 w (show _=_ by rw[pB,f3]) HV HC HR HP
theorem aKs (hS:Sl w p n c 1 (ivs xs)):
  U 212 #[.slice p n c,id] w (Z (I (uS xs id)) w):=by
 have f:=hS.bd;have HS:=xQ hS;have hl:=xQ hS.ilen;clear hS;go_enter func212,ntmps212;go_wp2;go_loop [8] (fun i=> ∃k:Nat,k≤n∧i=I k∧id∉xs.take k) (fun i=>n-(intOf i).toNat)
 case atStart=>exact⟨0,aW6 _,rfl,by simp⟩
 case round=>
  obtain⟨k,hk,rfl,hc⟩:=hrel;have HC:=xQ hc;clear hc;by_cases hlt:k<n
  ·obtain⟨b,g,y,rfl,hx,hb,d⟩:=HS.out.int_at hlt;have HX:=xQ hx;clear hx;by_cases hy:y=id
   ·have t1:(id==y)=true:=by simp[hy]
    have a:Hid (uS xs id=k):=xL (by rw[HX.out,hy]) HC.out;clear hy;go_wp2;go_ret;exact⟨fI a.out.symm,by exact .refl _⟩
   have t1:(id==y)=false:=by simp;exact fun e=>hy e.symm
   have a:Hid (id∉xs.take (k+1)):=by show _∉_;rw[aX HX.out,aWh,aWq];exact fun h=>h.elim HC (fun e=>hy e.symm)
   clear hy;go_wp2;go_round
   case rel=>exact⟨k+1,by omega,by go_num,a.out⟩
   case measure=>simp[intOf];omega
  have a:Hid (uS xs id= -1):=zA (by have:=HC.out;rwa[aW4 (by rw[hl.out];omega)]at this);go_wp2;go_ret;exact⟨fI a.out.symm,by exact .refl _⟩
theorem aDk (b:Bool)(w:World)(hb:b=false∨b=true∧id<1)(HV:xB 34 #[aH aA aB p n a] w b):
  U 188 #[aH aA aB p n a,id] w (Z (I (-1)) w):=by
 rcases hb with rfl|⟨rfl,hi⟩
 all_goals
  go_enter func188,ntmps188;go_wp2_with fail;refine Ω (HV _ (by exact .alloc (.refl _) _)) fun w1 c=>?_
  go_wp2;go_ret;exact⟨rfl,by exact .trans (.alloc (.refl _) _) c⟩
theorem aGm (hi:1≤id)(HI:xC 212 #[.slice p n a,id] w fun w' e w''=>e= .returned (I (uS xs id))∧Ext w' w'')(HV:xB 34 #[aH aA aB p n a] w true):
  U 188 #[aH aA aB p n a,id] w (Z (I (uS xs id)) w):=by
 go_enter func188,ntmps188;go_wp2_with fail;refine Ω (HV _ (by exact .alloc (.refl _) _)) fun w1 b=>?_
 have hB:=(Blk.new w TH3 #[aA,aB,.slice p n a]).ext b;have X1:=xQ (show Ext w w1 by exact .trans (.alloc (.refl _) _) b);obtain⟨b0,b1,b2⟩:=hB.cells3;clear b hB;go_wp2_with fail;refine Ω (HI _ X1.out) fun w2 c=>?_
 have X2:=X1.out.trans c;go_wp2;go_ret;exact⟨rfl,X2⟩
theorem aEo (hS:Sl w p n a 1 (ivs xs)):
  U 188 #[aH aA aB p n a,id] w (Z (I (kP aA aB xs id)) w):=by
 have HV:=fun(w':World) (hx:Ext w w')=>iK aA aB p n a xs w' (hS.ext hx)
 unfold kP;by_cases h:aO aA aB xs=true∧1≤id
 ·rw[if_pos h];rw[h.1]at HV;exact aGm aA aB id p n a xs w h.2 (xQ fun w' hx=>aKs id p n a xs w' (hS.ext hx)) (xQ HV)
 rw[if_neg h];refine aDk aA aB id p n a (aO aA aB xs) w ?_ (xQ HV);cases hh:aO aA aB xs with
 |false=>exact .inl rfl
 |true=>
  refine .inr ⟨rfl,?_⟩;by_cases h1:1≤id
  ·exact absurd ⟨hh,h1⟩ h
  omega
theorem aVa (id:Int)(p:OA)(n b:Nat)(xs:List Int)(w:World)(hS:Sl w p n b 1 (ivs xs))(a:aO aA aB xs=true)(hc:xs[c]? =some id)(h0:id≠0)(hE:BitTab w):
  U 189 #[aH aA aB p n b,c] w (lV (eO aA xs c) w):=by
 have hl:=hS.ilen;subst hl;obtain⟨g1,g2,g3,g4,g5,g6,g7,g8,g9⟩:=bS a;have g:(2:Nat) ^ xs.length≤4096:=aW8 (aWi (by omega) g6) (by decide);have i:=aYa xs.length;have m:=(aW3.1 hc).1;have hN:xs.length*2 ^ xs.length≤12*4096:=Nat.mul_le_mul g6 g;have hC:c*2 ^ xs.length≤12*4096:=Nat.mul_le_mul (by omega) g;have l:xs.length≤xs.length*2 ^ xs.length:=Nat.le_mul_of_pos_right _ i;obtain⟨p1,p2,p3⟩:=yH a hc h0;have hD:=oK (aA:=aA) (many:=(bX xs).length) g6;have h:=(xS g5 g6 hD).bd;obtain⟨pb,po,rfl,hb,j⟩:=hS.rd (by omega);have f: ∀(k:Nat) (B:List Int) (Q:List Nat),aT2 aA xs c k B Q→SOk (xs.length*2 ^ xs.length) B Q:=fun k B Q hr=>(hr.ok p1 h).1
 refine aS5 aA aB pb po xs.length b (xs.length*2 ^ xs.length) (2 ^ xs.length) c (c*2 ^ xs.length) (gJ xs.length (st0 xs c)) xs (dQ xs) (fun u=>rQ aA xs.length (2 ^ xs.length) u) w g5 g6 rfl hb hE (by omega) l hC rfl rfl rfl rfl p1 (by simp) ?_ ?_ (fun k x hx=> ?_) rfl (fun k x hx=> ?_) (fun k hk w' hx=> ?_) (fun u v hu hv=>h u v hu hv) (fun k B Q hr=>f k B Q hr) (fun k u B Q hr hu hz=> ?_) (fun k B Q hr hk=>aKq a g5 g6 hc h0 hr hk)
 ·have e:(c:Int)*((2 ^ xs.length:Nat):Int)=((c*2 ^ xs.length:Nat):Int):=by push_cast;rfl
  rw[e];exact aW2 _ (by omega)
 ·have e:(xs.length:Int)*((2 ^ xs.length:Nat):Int)=((xs.length*2 ^ xs.length:Nat):Int):=by push_cast;rfl
  rw[e];exact aW2 _ (by omega)
 ·have hk:=(aW3.1 hx).1;rw[iZ hk,aW7,hx];rfl
 ·have hk:=(aW3.1 hx).1;rw[j k (by omega)];simp only[ivs,aWp,hx,aX2]
 ·have:=aLw aA aB k _ xs.length b xs w' (hS.ext hx) a (by omega) (by omega);rwa[nY]at this
 obtain⟨d,hd⟩:=aI0 a g5 g6 hc h0 hr hu hz;exact⟨d,_,_,hd.d60,hd.trail g6 (f k B Q hr).len,rfl,hd.last.symm,hd.way⟩
theorem aP7 (HF:xC 188 #[aH aA aB p n a,id] w fun w' e w''=>e= .returned (I (-1))∧Ext w' w''):
  U 156 #[aH aA aB p n a,id] w (lV none w):=by
 go_enter func156,ntmps156;go_wp2_with fail;refine Ω (HF _ (Mem.b1 w).ext) fun w1 b=>?_
 have M1:=((Mem.b1 w).adv b)
 clear b;have HX:=xQ (M1.ext);go_wp2;exact aYw (v:= .tuple #[((),()),.bool false]) ⟨_,rfl,HX.out⟩
theorem aLx (p:OA)(n a:Nat)(r:Option (List Sl2))(w:World)(HF:xC 188 #[aH aA aB p n a,id] w fun w' e w''=>e= .returned (I c)∧Ext w' w'')(HB:Hid (∀w',Ext w w'→U 189 #[aH aA aB p n a,c] w' (lV r w'))):
  U 156 #[aH aA aB p n a,id] w (lV r w):=by
 go_enter func156,ntmps156;go_wp2_with fail;refine Ω (HF _ (Mem.b1 w).ext) fun w1 f=>?_
 have M1:=((Mem.b1 w).adv f)
 clear f;have h_:=(M1.bk 0).tri;go_wp2_with fail;clear h_;have HX:=xQ (M1.ext);refine(HB _ HX.out).mono ?_;intro e w9 hr;have d:=xQ hr;clear hr HB;cases r with
 |none=>obtain⟨v,rfl,b⟩:=d.out;go_wp2;exact aYw (v:= .tuple #[v,.bool false]) ⟨_,rfl,HX.out.trans b⟩
 |some l=>obtain⟨q9,c9,rfl,o9,b⟩:=d.out;go_wp2;exact aYw (v:= .tuple #[.slice q9 l c9,.bool true]) ⟨q9,c9,rfl,bF o9 HX.out.sz,HX.out.trans b⟩
theorem aC5 (b:Hid (xs.length=n))(HV:xB 34 #[aH aA aB p n a] w true)(HB:xC 156 #[aH aA aB p n a,id] w fun w' e w''=> ∃v,e= .returned (.tuple #[v,.bool false])∧Ext w' w'')(HL:xC 70 #[aH aA aB p n a] w fun w' e w''=> ∃q c,e= .returned (aH aA aB q n c)∧w''.ownsRow w' TI 1 (.slice q n c) n (ivs xs)∧Ext w' w''):
  U 115 #[aH aA aB p n a,id] w (dK aA aB xs (-1) w):=by
 go_enter func115,ntmps115;go_wp2_with fail;refine Ω (HV _ (Mem.b2 w).ext) fun w1 g=>?_
 have M1:=((Mem.b2 w).adv g)
 clear g;have h_:=(M1.bk 1).tri;go_wp2_with fail;clear h_;refine(HB _ M1.ext).mono ?_;rintro e w2 ⟨v,rfl,h⟩;have M2:=(M1.adv h)
 clear M1 h;have h_:=(M2.bk 1).tri;go_wp2_with fail;clear h_;refine(HL _ M2.ext).mono ?_;rintro e w3 ⟨q0,c0,rfl,d,i⟩;have M3:=(M2.call i d)
 clear M2 i d;have z_:=(M3.bk 1).trif;go_wp2;have M4:=((M3.st 1 0 (I aA)).st 1 1 (I aB))
 have M5:=(M4.st 1 2 (.slice q0 n c0))
 clear z_;have M6:=(show Mem w (((w3.setCell ⟨w.heap.size+1,0,none⟩ (I aA)).setCell ⟨w.heap.size+1,1,none⟩ (I aB)).setCell ⟨w.heap.size+1,2,none⟩ (.slice q0 n c0)) [aJ w TI 1 (q0) (n) (c0) (ivs xs),aI w (w.heap.size+1) TH3 #[aA,aB,.slice q0 n c0],aI w w TH3 #[aA,aB,.slice p n a]]from M5)
 generalize f:World.setCell _ _ _=wz;rw[f]at M6;clear f M3 M4 M5;have y_:=(M6.bk 1).tri;exact aYw (v:= .tuple #[.agg #[aA,aB,.slice q0 n c0],(-1:Int)]) (fY b.out (M6.ow 0) M6.ext)
theorem aJ0 (y0:Int)(ys:List Int)(sl:List Sl2)(w:World)(aa:0<n)(j:Hid (ys.length=n))(u:Hid (ys[0]? =some y0))(HV:xB 34 #[aH aA aB p n a] w true)(HB:xC 156 #[aH aA aB p n a,id] w fun w' e w''=> ∃q c,e= .returned (.tuple #[.slice q K c,.bool true])∧w''.ownsRow w' TSL 2 (.slice q K c) K (sl.flatMap aK)∧Ext w' w'')(HR:Hid (∀w' q c,Ext w w'→Sl w' q K c 2 (sl.flatMap aK)→U 148 #[aH aA aB p n a,.slice q K c] w' (aYy TI 1 n (ivs ys) w' fun q c=>aH aA aB q n c))):
  U 115 #[aH aA aB p n a,id] w (dK aA aB (ys.set 0 0) (K:Int) w):=by
 go_enter func115,ntmps115;go_wp2_with fail;refine Ω (HV _ (Mem.b2 w).ext) fun w1 r=>?_
 have M1:=((Mem.b2 w).adv r)
 clear r;have h_:=(M1.bk 1).tri;go_wp2_with fail;clear h_;refine(HB _ M1.ext).mono ?_;rintro e w2 ⟨qs,cs,rfl,k,s⟩;have M2:=(M1.call s k)
 clear M1 s k;have h_:=(M2.bk 2).tri;go_wp2_with fail;clear h_;refine(HR _ qs cs M2.ext (M2.sq 0)).mono ?_;rintro e w3 ⟨q1,c1,rfl,l,t⟩;have M3:=(M2.call t l)
 clear M2 t l;obtain⟨g,rfl,y,z⟩:=M3.so 0;clear y z;go_upto_region 7 with fail;obtain⟨gV,d⟩: ∃gV,gV=w3.heap.size:=⟨_,rfl⟩
 rw[←d];have M4:=(M3.blkNew TH3 #[aA,aB,.slice (some ⟨g,0,none⟩) n c1] gV d.symm)
 generalize World.alloc _ _=w7 at M4⊢;clear M3 d;have v_:=(M4.bk 0).tri;have gi:w7.cell? ⟨g,0,none⟩=some (I y0):=by have:=(M4.ow 1).cellAt 0 (by omega);rw[this];simpa[ivs]using u.out
 have x:w7.frozen? ⟨g,0,none⟩=false:=(M4.ow 1).frozenAt 0;go_upto_region 8 with fail;clear v_ gi x;have MX:=(show Mem w (w7.setCell ⟨g,0,none⟩ (I 0)) [aI w (gV) TH3 #[aA,aB,.slice (some ⟨g,0,none⟩) n c1],aJ w TI 1 (some ⟨g,0,none⟩) (n) (c1) (ivs (ys.set 0 0)),aJ w TSL 2 (qs) (K) (cs) (sl.flatMap aK),aI w (w.heap.size+1) TH3 #[(),(),((),())],aI w w TH3 #[aA,aB,.slice p n a]]from by rw[←eW];exact M4.ostore (i:=1) rfl 0 (I 0))
 generalize m:World.setCell _ _ _=w8;rw[m]at MX;clear m M4;have v_:=(MX.bk 0).tri;have z_:=(MX.bk 3).trif;go_wp2;have f:=((MX.st 3 0 (I aA)).st 3 1 (I aB))
 have h:=(f.st 3 2 (.slice (some ⟨g,0,none⟩) n c1))
 clear v_ z_;have b:=(show Mem w (((w8.setCell ⟨w.heap.size+1,0,none⟩ (I aA)).setCell ⟨w.heap.size+1,1,none⟩ (I aB)).setCell ⟨w.heap.size+1,2,none⟩ (.slice (some ⟨g,0,none⟩) n c1)) [aI w (gV) TH3 #[aA,aB,.slice (some ⟨g,0,none⟩) n c1],aJ w TI 1 (some ⟨g,0,none⟩) (n) (c1) (ivs (ys.set 0 0)),aJ w TSL 2 (qs) (K) (cs) (sl.flatMap aK),aI w (w.heap.size+1) TH3 #[aA,aB,.slice (some ⟨g,0,none⟩) n c1],aI w w TH3 #[aA,aB,.slice p n a]]from h)
 generalize o:World.setCell _ _ _=wz;rw[o]at b;clear o MX f h;obtain⟨y0,y1,y2⟩:=(b.bk 3).tri;exact aYw (v:= .tuple #[.agg #[aA,aB,.slice (some ⟨g,0,none⟩) n c1],K]) (fY (by rw[aXf];exact j.out) (b.ow 1) b.ext)
theorem aP2 (hS:Sl w p n a 1 (ivs xs))(b:aO aA aB xs=true)(hE:BitTab w):
  U 115 #[aH aA aB p n a,id] w (dK aA aB (cN aA aB xs id).1 (cN aA aB xs id).2 w):=by
 have hl:=hS.ilen;subst hl;obtain⟨g1,g2,g3,g4,g5,g6,g7⟩:=cQ (dH b);have HV: ∀w',Ext w w'→U 34 #[aH aA aB p xs.length a] w' (Z (.bool true) w'):=fun w' hy=>by have:=iK aA aB p xs.length a xs w' (hS.ext hy);rwa[b]at this
 have HL:=fun(w':World) (hy:Ext w w')=>oI aA aB p xs.length a xs w' (by omega) (hS.ext hy)
 by_cases hno:id<1∨id∉xs
 ·have e:cN aA aB xs id=(xs,-1):=by unfold cN pC;rw[if_pos hno]
  rw[e];refine aC5 aA aB id p xs.length a xs w rfl HV (fun w' hy=> ?_) HL;refine aP7 aA aB id p xs.length a w' (fun w2 hy2=> ?_);have:=aEo aA aB id p xs.length a xs w2 (hS.ext (hy.trans hy2));rwa[aN0 hno]at this
 have g:1≤id:=by omega
 have hm:id∈xs:=by
  by_cases hm:id∈xs
  ·exact hm
  exact absurd (.inr hm) hno
 obtain⟨c,hc,d⟩:=aC6 hm;have hf:kP aA aB xs id=(c:Int):=by unfold kP;rw[if_pos ⟨b,g⟩];exact d
 have HB: ∀w',Ext w w'→U 156 #[aH aA aB p xs.length a,id] w' (lV (eO aA xs c) w'):=fun w' hy=>by refine aLx aA aB id c p xs.length a _ w' (fun w2 hy2=> ?_) (fun w2 hy2=>aVa aA aB c id p xs.length a xs w2 (hS.ext (hy.trans hy2)) b hc (by omega) (hE.ext (hy.trans hy2)));have:=aEo aA aB id p xs.length a xs w2 (hS.ext (hy.trans hy2));rwa[hf]at this
 have f:(uS xs id).toNat=c:=by rw[d];simp
 cases hb:eO aA xs c with
 |none=>
  have e:cN aA aB xs id=(xs,-1):=by unfold cN pC;rw[if_neg hno,f,hb];rfl
  rw[e];rw[hb]at HB;exact aC5 aA aB id p xs.length a xs w rfl HV HB HL
 |some l=>
  obtain⟨b1,ys,b2,b3,b4,b5⟩:=(tJ b hc (by omega)).2 l hb;have e:cN aA aB xs id=(ys.set 0 0,(l.length:Int)):=by unfold cN pC;rw[if_neg hno,f,hb];simp[b2]
  rw[e];rw[hb]at HB;have h:fR aA aB xs l=ys:=wC _ _ _ b2;refine aJ0 aA aB id p xs.length a l.length id ys l w (by omega) b4 b5 HV HB (fun w' q c' hy hL=> ?_);have:=aEp aA aB p xs.length a xs q l.length c' l w' rfl (hS.ext hy) b hL;rw[h]at this;unfold eA at this;rw[b4]at this;exact this
theorem aP6 (aA aB d h aE aF aD aG id a:Int)(p:OA)(n b:Nat)(q:OA)(m c2:Nat)(ys:List Int)(h0:a<0)(hA:Hid (Blk w gA aN #[aA,aB,.slice (p) n b,d,h,aE,aF,aD,aG,.slice (q) m c2]))(HS:xC 110 #[aH aA aB p n b,id] w fun w' e w''=> ∃q c,e= .returned (.tuple #[aH aA aB q n c,a])∧w''.ownsRow w' TI 1 (.slice q n c) n (ivs ys)∧Ext w' w''):
  U 72 #[.pointer (some ⟨gA,0,none⟩),id] w (Z (.tuple #[(-1:Int),.bool false]) w):=by
 go_enter func72,ntmps72;have a_:=hA.out.ten;go_wp2_with fail;clear a_;refine(HS _ (Ext.refl _)).mono ?_;rintro e w1 ⟨p1,c1,rfl,f,g⟩;have M1:=((Mem.start w).call g f)
 clear g f;have hX:=xQ M1.ext;go_wp2;exact aYw (v:= .tuple #[(-1:Int),.bool false]) ⟨rfl,by have:=hX.out;exact xE⟩
theorem aLv (aA aB b d aE aF aD aG id a:Int)(p:OA)(n s:Nat)(q:OA)(m c2:Nat)(xs ys:List Int)(vs:List aV)(hm:m≤900)(h0:0≤a)(hl:Hid (vs.length=m))(hM:Hid (Mem w0 w [aJ w0 TI 1 (p) (n) (s) (ivs (xs)),aJ w0 TV 4 (q) (m) (c2) (vs.flatMap aC),aI w0 (gA) aN #[aA,aB,.slice (p) n s,b,d,aE,aF,aD,aG,.slice (q) m c2],R]))(HS:xC 110 #[aH aA aB p n s,id] w fun w' e w''=> ∃q c,e= .returned (.tuple #[aH aA aB q n c,a])∧w''.ownsRow w' TI 1 (.slice q n c) n (ivs ys)∧Ext w' w''):
  U 72 #[.pointer (some ⟨gA,0,none⟩),id] w fun e w'=> ∃p1 c1 q9 c9,e= .returned (.tuple #[a,.bool true])∧Mem w0 w' [aJ w0 TI 1 (p1) (n) (c1) (ivs (ys)),aJ w0 TV 4 (q9) (m+1) (c9) ((nM (id,aD,0,aD) vs).flatMap aC),aI w0 (gA) aN #[aA,aB,.slice (p1) n c1,b,d,aE,aF,aD,aG,.slice (q9) (m+1) c9],R]:=by
 go_enter func72,ntmps72;have a0:=(hM.out.bk 2).cl 0;have a1:=(hM.out.bk 2).cl 1;have a2:=(hM.out.bk 2).cl 2;go_wp2_with fail;clear a0 a1 a2;refine(HS _ (Ext.refl _)).mono ?_;rintro e w1 ⟨p1,c1,rfl,ad,af⟩;have M1:=(hM.out.call af ad)
 clear hM af ad;go_upto_region 2 with fail;obtain⟨gV,t⟩: ∃gV,gV=w1.heap.size:=⟨_,rfl⟩
 rw[←t];have M2:=(M1.blkNew TH3 #[aA,aB,.slice p1 n c1] gV t.symm)
 generalize World.alloc _ _=w2 at M2⊢;clear M1 t;have t0:=aYu (a<0);have v_:=(M2.bk 0).tri;have a0:=(M2.bk 4).cl 0;have ag:=(M2.bk 4).frozen 0;have a1:=(M2.bk 4).cl 1;have ah:=(M2.bk 4).frozen 1;have a2:=(M2.bk 4).cl 2;have ai:=(M2.bk 4).frozen 2;go_upto_region 5 with fail;clear v_ a0 ag a1 ah a2 ai;have M3:=((M2.st 4 0 (I aA)).st 4 1 (I aB))
 have M4:=(M3.st 4 2 (.slice p1 n c1))
 have M5:=(M4)
 generalize ae:World.setCell _ _ _=w5;rw[ae]at M5;clear ae M2 M3 M4;have M6:=(show Mem w0 w5 [aJ w0 TI 1 (p1) (n) (c1) (ivs (ys)),aJ w0 TV 4 (q) (m) (c2) (vs.flatMap aC),aI w0 (gA) aN #[aA,aB,.slice (p1) n c1,b,d,aE,aF,aD,aG,.slice (q) m c2],R]from(M5.pick [1,3,4,5] (by decide) rfl))
 clear M5;go_wp2;go_loopw [8] (fun at_ wr=> ∃(k:Nat),k≤m∧at_=I k∧(∀u∈vs.take k,u.1<id)∧w5=wr) (fun at_ _=>m-(intOf at_).toNat)
 case atStart=>exact⟨0,aW6 _,rfl,by simp,rfl⟩
 case round=>
  obtain⟨k,hk,rfl,aa,rfl⟩:=hrel;have j:=xQ aa;clear aa;have b9:=(M6.bk 2).cl 9;have f:=(M6.hi 2)
  by_cases hkm:k<m
  ·obtain⟨gq,y,_,_⟩:=M6.so 1;obtain⟨⟨a0,a1,a2,a3⟩,hx⟩: ∃x,vs[k]? =some x:=⟨_,aW0 (by rw[hl.out];exact hkm)⟩
   have ca:w5.cell? ⟨gq,k*4,none⟩=some (I a0):=by
    have h1:=(M6.ow 1)
    rw[y]at h1;have h2:=h1.cellAt (k*4) (by omega);rw[h2];exact fG aC 4 (fun _=>rfl) vs k _ hx 0 (by omega)
   have i1:=aYp k;have i2:=aYq k m;by_cases h7:a0<id
   ·have t1:decide (a0<id)=true:=by simp[h7]
    have ab:=xQ (show∀u∈vs.take (k+1),u.1<id from by
     intro u hu;rw[aX hx,aWh,aWq]at hu;rcases hu with hu|rfl
     ·exact j u hu
     ·exact h7)
    clear hx h7;subst y;go_wp2;go_roundw
    case rel=>exact⟨k+1,by omega,by go_num,ab.out,by trivial⟩
    case measure=>simp[intOf];omega
   have t1:=aYu (a0<id);have h:=xQ (show∀u,vs[k]? =some u→ ¬u.1<id from fun u hu=>by rw[hx]at hu;injection hu with hu;subst hu;exact h7);clear hx h7;subst y;go_upto_region 8 with fail;clear b9 ca i1 i2 t1 f;have l:=xQ (wX (id,aD,0,aD) vs k j h.out);have HI:=xQ (fun(w1:World) (vb:Nat) (hx:Ext w5 w1) (hb:Blk w1 vb TV (aC (id,aD,0,aD)).toArray) (hle:w5.heap.size≤vb)=>aIm (w0:=w0) (w:=w1) (some ⟨gq,0,none⟩) k vb c2 m vs (id,aD,0,aD) 1 (by omega) hl (xQ (M6.adv hx)) (xQ hb) hk (fun g hg=>by have h7:=(M6.lt (i:=1) (g:=g) rfl hg).2;omega) (xQ rfl));rw[←l.out]at HI;have a7:=(M6.bk 2).cl 7;have a9:=(M6.bk 2).cl 9;have f:=(M6.hi 2)
   clear j h l;go_wp2_with fail
   go_region_with (first
    |(go_at_call 111;refine(HI _ _ (by first|exact(Ext.refl _).alloc _|exact Ext.drew ((Ext.refl _).alloc _)|exact xE) (by first|exact Blk.new _ _ _|exact(Blk.new _ _ _).ext (Ext.drew (Ext.refl _))) (by first|exact aVz _|simp)).mono ?_
      rintro e w9 ⟨q9,c9,rfl,o⟩;have M9:=(show Mem w0 w9 [aJ w0 TI 1 (p1) (n) (c1) (ivs (ys)),aJ w0 TV 4 (q9) (m+1) (c9) ((nM (id,aD,0,aD) vs).flatMap aC),aI w0 (gA) aN #[aA,aB,.slice (p1) n c1,b,d,aE,aF,aD,aG,.slice (some ⟨gq,0,none⟩) m c2],R]from o)
      clear o;have x7:=(M9.bk 2).cl 7;have x9:=(M9.bk 2).cl 9;have z:=(M9.bk 2).frozen 9
      have r:=(M9.hi 2)))
   all_goals (
   clear a7 a9 f x7 x9 z r HI M6;have MX:=(M9.st 2 9 (.slice q9 (m+1) c9))
   clear M9;go_wp2
   exact aYw (v:= .tuple #[a,.bool true]) ⟨p1,c1,q9,c9,rfl,MX⟩)
  obtain rfl:m=k:=by omega
  have h:=xQ (show∀u,vs[m]? =some u→ ¬u.1<id from fun u hu=>by rw[aXg (by rw[hl.out];exact aVz _)]at hu;cases hu);go_upto_region 8 with fail;clear b9 f;have l:=xQ (wX (id,aD,0,aD) vs m j h.out);have HI:=xQ (fun(w1:World) (vb:Nat) (hx:Ext w5 w1) (hb:Blk w1 vb TV (aC (id,aD,0,aD)).toArray) (hle:w5.heap.size≤vb)=>aIm (w0:=w0) (w:=w1) q m vb c2 m vs (id,aD,0,aD) 1 (by omega) hl (xQ (M6.adv hx)) (xQ hb) (aVz _) (fun g hg=>by have h7:=(M6.lt (i:=1) (g:=g) rfl hg).2;omega) (xQ rfl));rw[←l.out]at HI;have a7:=(M6.bk 2).cl 7;have a9:=(M6.bk 2).cl 9;have f:=(M6.hi 2)
  clear j h l;go_wp2_with fail
  go_region_with (first
   |(go_at_call 111;refine(HI _ _ (by first|exact(Ext.refl _).alloc _|exact Ext.drew ((Ext.refl _).alloc _)|exact xE) (by first|exact Blk.new _ _ _|exact(Blk.new _ _ _).ext (Ext.drew (Ext.refl _))) (by first|exact aVz _|simp)).mono ?_
     rintro e w9 ⟨q9,c9,rfl,o⟩;have M9:=(show Mem w0 w9 [aJ w0 TI 1 (p1) (n) (c1) (ivs (ys)),aJ w0 TV 4 (q9) (m+1) (c9) ((nM (id,aD,0,aD) vs).flatMap aC),aI w0 (gA) aN #[aA,aB,.slice (p1) n c1,b,d,aE,aF,aD,aG,.slice (q) m c2],R]from o)
     clear o;have x7:=(M9.bk 2).cl 7;have x9:=(M9.bk 2).cl 9;have z:=(M9.bk 2).frozen 9
     have r:=(M9.hi 2)))
  all_goals (
  clear a7 a9 f x7 x9 z r HI M6;have MX:=(M9.st 2 9 (.slice q9 (m+1) c9))
  clear M9;go_wp2
  exact aYw (v:= .tuple #[a,.bool true]) ⟨p1,c1,q9,c9,rfl,MX⟩)
theorem aOw (a now f s p c amt D:Int)(w:World)(hD:0≤D)(g:D≤693)(h:0≤pd)(hp:pd≤9999)(HD:Hid (∀w,U 153 #[aR f s p c,cK i pd a,now] w (Z (I D) w)))(ha:amt<1):
  U 113 #[aR f s p c,cK i pd a,now,amt] w (Z (.tuple #[cK 0 0 0,amt,.bool false]) w):=by
 go_enter func113,ntmps113;go_wp2_with fail;refine Ω (HD _) fun w1 d=>?_
 have M1:=((Mem.b3 w).adv d)
 clear d HD;have t0:=aYu (D<0);have d_:=(M1.bk 0).trif;go_wp2;clear d_;have M2:=(M1.put3 (i:=0) rfl (I 0) (I 0) (I 0))
 generalize b:World.setCell _ _ _=wz;rw[b]at M2;clear b M1;have y_:=(M2.bk 0).tri;exact aYw (v:= .tuple #[.agg #[(),(),()],amt,.bool false]) ⟨rfl,M2.ext⟩
theorem aOx (a now f s p c amt D:Int)(w:World)(hD:0≤D)(g:D≤693)(h:0≤pd)(hp:pd≤9999)(HD:Hid (∀w,U 153 #[aR f s p c,cK i pd a,now] w (Z (I D) w)))(ha:300<amt):
  U 113 #[aR f s p c,cK i pd a,now,amt] w (Z (.tuple #[cK 0 0 0,amt,.bool false]) w):=by
 go_enter func113,ntmps113;go_wp2_with fail;refine Ω (HD _) fun w1 d=>?_
 have M1:=((Mem.b3 w).adv d)
 clear d HD;have t0:=aYu (D<0);have t1:=aYu (amt<1);have d_:=(M1.bk 0).trif;go_wp2;clear d_;have M2:=(M1.put3 (i:=0) rfl (I 0) (I 0) (I 0))
 generalize b:World.setCell _ _ _=wz;rw[b]at M2;clear b M1;have y_:=(M2.bk 0).tri;exact aYw (v:= .tuple #[.agg #[(),(),()],amt,.bool false]) ⟨rfl,M2.ext⟩
theorem aIt (a now f s p c amt:Int)(w:World)(g:0≤pd)(hp:pd≤9999)(HD:Hid (∀w,U 153 #[aR f s p c,cK i pd a,now] w (Z (I 0) w)))(ha:1≤amt)(hb:amt≤300):
  U 113 #[aR f s p c,cK i pd a,now,amt] w (Z (.tuple #[cK i pd a,amt,.bool false]) w):=by
 go_enter func113,ntmps113;go_wp2_with fail;refine Ω (HD _) fun w1 d=>?_
 have M1:=((Mem.b3 w).adv d)
 clear d HD;have t1:=aYu (amt<1);have t2:=aYu (300<amt);have c_:=(M1.bk 1).tri;have d_:=(M1.bk 0).trif;go_wp2;clear c_ d_;have M2:=(M1.put3 (i:=0) rfl (I i) (I pd) (I a))
 generalize b:World.setCell _ _ _=wz;rw[b]at M2;clear b M1;have y_:=(M2.bk 0).tri;exact aYw (v:= .tuple #[.agg #[i,pd,a],amt,.bool false]) ⟨rfl,M2.ext⟩
theorem aLl (a now f s p c amt D:Int)(w:World)(hD:0≤D)(h:D≤693)(l:0≤pd)(hp:pd≤9999)(HD:Hid (∀w,U 153 #[aR f s p c,cK i pd a,now] w (Z (I D) w)))(ha:1≤amt)(hb:amt≤300)(g:1≤D):
  U 113 #[aR f s p c,cK i pd a,now,amt] w (Z (.tuple #[cK i (pd+min D amt) now,(amt-min D amt:Int),.bool true]) w):=by
 go_enter func113,ntmps113;go_wp2_with fail;refine Ω (HD _) fun w1 d=>?_
 have M1:=((Mem.b3 w).adv d)
 clear d HD;have k:min amt D=min D amt:=Int.min_comm _ _;have k1:=aYs (pd+min D amt);have k2:=aYs (amt-min D amt);have j:(D==0)=false:=by simp;omega
 have t0:=aYu (D<0);have t1:=aYu (amt<1);have t2:=aYu (300<amt);have c_:=(M1.bk 1).tri;have d_:=(M1.bk 0).trif;go_wp2;clear c_ d_;have M2:=(M1.put3 (i:=0) rfl (I i) (I (pd+min D amt)) (I now))
 generalize b:World.setCell _ _ _=wz;rw[b]at M2;clear b M1;have y_:=(M2.bk 0).tri;exact aYw (v:= .tuple #[.agg #[i,(pd+min D amt:Int),now],(amt-min D amt:Int),.bool true]) ⟨rfl,M2.ext⟩
theorem aIu (f s p c i pd a now amt:Int)(w:World)(h:bP f s p c=true)(h2:dV i pd a=true)(h3:a≤now)(h4:now≤9999):
  U 113 #[aR f s p c,cK i pd a,now,amt] w (Z (.tuple #[cK (kD f s p c i pd a now amt).1.1 (kD f s p c i pd a now amt).1.2.1 (kD f s p c i pd a now amt).1.2.2,I (kD f s p c i pd a now amt).2.1,.bool (kD f s p c i pd a now amt).2.2]) w):=by
 obtain⟨b1,b2,b3,b4,b5,b6⟩:=iT h2;obtain⟨e1,e2⟩:=oB h h2 h3 h4;have HD:=xQ (fun w=>aLi f s p c i pd a now w h h2 h3 h4);unfold kD;generalize cY f s p c i pd a now=D at*;by_cases ha:1≤amt∧amt≤300
 ·rw[if_pos ha];by_cases hd:D=0
  ·subst hd;rw[if_pos rfl];exact aIt i pd a now f s p c amt w b3 b4 HD ha.1 ha.2
  rw[if_neg hd];exact aLl i pd a now f s p c amt D w e1 e2 b3 b4 HD ha.1 ha.2 (by omega)
 rw[if_neg ha];by_cases hb:amt<1
 ·exact aOw i pd a now f s p c amt D w e1 e2 b3 b4 HD hb
 exact aOx i pd a now f s p c amt D w e1 e2 b3 b4 HD (by omega)
theorem aJ3 (aA aB a b aE aF aD aG id amt:Int)(p:OA)(n c:Nat)(q:OA)(m c2:Nat)(hA:Hid (Blk w gA aN #[aA,aB,.slice p n c,a,b,aE,aF,aD,aG,.slice q m c2]))(HX:xC 112 #[.agg #[aA,aB,.slice p n c,a,b,aE,aF,aD,aG,.slice q m c2],id] w fun w' e w''=>e= .returned (I (-1))∧Ext w' w''):
  U 73 #[.pointer (some ⟨gA,0,none⟩),id,amt] w (Z (.tuple #[(-1:Int),.bool false]) w):=by
 have a_:=hA.out.ten;go_enter func73,ntmps73;go_wp2_with fail;clear a_;refine Ω (HX _ (Ext.refl _)) fun w1 hx=>?_
 have hX:=xQ hx;clear hx;go_wp2;exact aYw (v:= .tuple #[(-1:Int),.bool false]) ⟨rfl,hX.out⟩
theorem aJ2 (gq:Nat)(aA aB d h aE aF aD aG id amt:Int)(p:OA)(n j m c2 k:Nat)(xs:List Int)(vs:List aV)(a0 a1 a2 a3 S1 S2 S3 bk:Int)(o:Bool)(hk:k<m)(hm:m≤1000)(a9:0≤aG)(av:aG≤99999)(al:o=true→0≤bk∧bk≤amt∧amt≤300)(l:Hid (vs[k]? =some (a0,a1,a2,a3)))(hM:Hid (Mem w0 w [aJ w0 TI 1 (p) (n) (j) (ivs xs),aJ w0 TV 4 (some ⟨gq,0,none⟩) (m) (c2) (vs.flatMap aC),aI w0 (gA) aN #[aA,aB,.slice p n j,d,h,aE,aF,aD,aG,.slice (some ⟨gq,0,none⟩) m c2],R]))(HX:xC 112 #[.agg #[aA,aB,.slice p n j,d,h,aE,aF,aD,aG,.slice (some ⟨gq,0,none⟩) m c2],id] w fun w' e w''=>e= .returned (I k)∧Ext w' w'')(HP:Hid (∀w',U 113 #[aR d h aE aF,cK a1 a2 a3,aD,amt] w' (Z (.tuple #[cK S1 S2 S3,bk,.bool o]) w'))):
  U 73 #[.pointer (some ⟨gA,0,none⟩),id,amt] w fun e w'=>(e= .returned (.tuple #[(-1:Int),.bool false])∧ ¬(o=true∧aG+amt-bk≤99999)∧Ext w w')∨
   (o=true∧aG+amt-bk≤99999∧e= .returned (.tuple #[bk,.bool true])∧Mem w0 w' [aJ w0 TI 1 (p) (n) (j) (ivs xs),aJ w0 TV 4 (some ⟨gq,0,none⟩) (m) (c2) ((vs.set k (a0,S1,S2,S3)).flatMap aC),aI w0 (gA) aN #[aA,aB,.slice p n j,d,h,aE,aF,aD,(aG+amt-bk:Int),.slice (some ⟨gq,0,none⟩) m c2],R]):=by
 go_enter func73,ntmps73;have s:=(hM.out.lt (i:=1) (g:=gq) rfl rfl).2;have g1:w.cell? ⟨gq,k*4+1,none⟩=some (I a1):=((hM.out.ow 1).cellAt (k*4+1) (by omega)).trans (fG aC 4 (fun _=>rfl) vs k _ l.out 1 (by omega));have g2:w.cell? ⟨gq,k*4+2,none⟩=some (I a2):=((hM.out.ow 1).cellAt (k*4+2) (by omega)).trans (fG aC 4 (fun _=>rfl) vs k _ l.out 2 (by omega));have g3:w.cell? ⟨gq,k*4+3,none⟩=some (I a3):=((hM.out.ow 1).cellAt (k*4+3) (by omega)).trans (fG aC 4 (fun _=>rfl) vs k _ l.out 3 (by omega));obtain⟨z0,z1,z2,z3,z4,z5,z6,z7,z8,z9⟩:=(hM.out.bk 2).ten;go_wp2_with fail;clear z0 z1 z2 z3 z4 z5 z6 z7 z8 z9;refine Ω (HX _ (Ext.refl _)) fun w2 z=>?_
 have q:=xQ z;have M2:=(hM.out.adv z)
 clear z HX;have ba:=(M2.hi 2)
 have u:gq<w2:=aVy s q.out.sz;have ab:w2.cell? ⟨gq,k*4+1,none⟩=some (I a1):=(q.out.cells.1 _ _ s).trans g1;have ad:w2.cell? ⟨gq,k*4+2,none⟩=some (I a2):=(q.out.cells.1 _ _ s).trans g2;have ae:w2.cell? ⟨gq,k*4+3,none⟩=some (I a3):=(q.out.cells.1 _ _ s).trans g3;clear g1 g2 g3;have ai:=(M2.bk 2).ten;have i1:=aYp k;have i2:=aYq k m;have n2: ¬(w2.heap.size=gA):=by omega
 have n4: ¬(w2.heap.size=gq):=by omega
 go_upto_region 4 with fail;go_cut [9,10,11] (fun s11 s12 s13 wx=> ∃a:Nat,s11= .pointer (some ⟨a,0,none⟩)∧s12=I bk∧s13= .bool o∧Ext w2 wx∧w2.heap.size≤a∧Blk wx a TS3 #[S1,S2,S3])
 case first=>
  go_region_held3 (fun w'=>w'.cell? ⟨gA,3,none⟩=some (I d)∧w'.cell? ⟨gA,4,none⟩=some (I h)∧w'.cell? ⟨gA,5,none⟩=some (I aE)∧w'.cell? ⟨gA,6,none⟩=some (I aF)∧w'.cell? ⟨gA,7,none⟩=some (I aD)∧w'.cell? ⟨gA,9,none⟩=some (.slice (some ⟨gq,0,none⟩) m c2)∧w'.cell? ⟨gq,k*4+1,none⟩=some (I a1)∧w'.cell? ⟨gq,k*4+2,none⟩=some (I a2)∧w'.cell? ⟨gq,k*4+3,none⟩=some (I a3))
   (first|(refine⟨?_,?_,?_,?_,?_,?_,?_,?_,?_⟩<;>assumption)|go_keep)
   ((go_at_call 113
     refine Ω (HP _) fun w5 ah=>?_
     have f:Ext w2 w5:=xE;have aw:=((M2.bk 2).ext f).cl 3;have ax:=((M2.bk 2).ext f).cl 4;have ay:=((M2.bk 2).ext f).cl 5;have az:=((M2.bk 2).ext f).cl 6;have a4:=((M2.bk 2).ext f).cl 7;have a5:=((M2.bk 2).ext f).cl 9;have a6:w5.cell? ⟨gq,k*4+1,none⟩=some (I a1):=(f.cells.1 _ _ u).trans ab;have a7:w5.cell? ⟨gq,k*4+2,none⟩=some (I a2):=(f.cells.1 _ _ u).trans ad;have a8:w5.cell? ⟨gq,k*4+3,none⟩=some (I a3):=(f.cells.1 _ _ u).trans ae
     first
      |(have aa:Ext (w2.alloc (.cells #[(),(),()] TS3)) w5:=ah
        have BB:=(Blk.new w2 TS3 #[(),(),()]).ext aa;have an:=BB.cl 0;have aq:=BB.frozen 0;have ao:=BB.cl 1;have ar:=BB.frozen 1;have ap:=BB.cl 2
        have au:w5.frozen? ⟨w2,2,none⟩=false:=BB.frozen 2)
      |(have aa:Ext (w2.alloc (.cells #[(),(),()] TS3)) w5:=ah.of_drew
        have BB:=(Blk.new w2 TS3 #[(),(),()]).ext aa;have an:=BB.cl 0;have aq:=BB.frozen 0;have ao:=BB.cl 1;have ar:=BB.frozen 1;have ap:=BB.cl 2
        have au:w5.frozen? ⟨w2,2,none⟩=false:=BB.frozen 2)
      |skip))
  ·go_wp2_with fail;go_meet;exact⟨w5.heap.size,rfl,rfl,rfl,xE,by have:=f.sz;omega,Blk.new _ _ _⟩
  have hR:ExtR w2 w5 _:=(((ExtR.refl w2 w5).setCell (p:=⟨w2,0,none⟩) (.inl rfl) (I S1)).setCell (p:=⟨w2,1,none⟩) (.inl rfl) (I S2)).setCell (p:=⟨w2,2,none⟩) (.inl rfl) (I S3);have hY:=((BB.set 0 (I S1)).set 1 (I S2)).set 2 (I S3);simp only[aWg,aWe,aWf]at hY;go_wp2_with fail;go_meet;exact⟨w2.heap.size,rfl,rfl,rfl,ExtR.new f hR (aVz _),aVz _,hY⟩
 case rest=>
  clear ai ab ad ae HP n2 n4;obtain⟨a,rfl,rfl,rfl,t,ha,af⟩:=hcut;have b:=xQ (q.out.trans t);have M3:=(M2.blkOf t af ha)
  clear M2 t ha af;cases o with
  |false=>
   have x:Hid (¬(false=true∧aG+amt-bk≤99999)):=by show¬_;simp
   go_wp2
   exact aYw (v:= .tuple #[(-1:Int),.bool false]) (by
    have c:=x.out
    first|exact .inl ⟨rfl,c,b.out⟩|exact .inl ⟨rfl,by omega,b.out⟩|exact .inl ⟨by omega,b.out⟩|exact .inl ⟨rfl,b.out⟩|exact .inl b.out|exact b.out|(simp at c;first|exact .inl ⟨rfl,c,b.out⟩|exact .inl ⟨c,b.out⟩|exact .inl ⟨rfl,by omega,b.out⟩|exact .inl ⟨by omega,b.out⟩))
  |true=>
   obtain⟨o1,o2,o3⟩:=al rfl;have k1:=aYs (aG+amt);have k2:=aYs (aG+amt-bk);have k3:=aYs (amt-bk);have k4:IntKind.i64.wrap (aG+(amt-bk))=aG+amt-bk:=by rw[aW2 _ (by omega)];omega
   have h8:=(M3.bk 3).cl 8;by_cases hq:aG+amt-bk≤99999
   ·have hd:=aYu (99999<aG+amt-bk);have y:=xQ hq;clear hq;go_upto_region 7 with fail;clear h8;have d9:=(M3.bk 3).cl 9;have am:=(M3.bk 0).tri;have y1:wc.cell? ⟨gq,k*4+1,none⟩=some (I a1):=((M3.ow 2).cellAt (k*4+1) (by omega)).trans (fG aC 4 (fun _=>rfl) vs k _ l.out 1 (by omega));have z1:wc.frozen? ⟨gq,k*4+1,none⟩=false:=(M3.ow 2).frozenAt (k*4+1);have y2:wc.cell? ⟨gq,k*4+2,none⟩=some (I a2):=((M3.ow 2).cellAt (k*4+2) (by omega)).trans (fG aC 4 (fun _=>rfl) vs k _ l.out 2 (by omega));have z2:wc.frozen? ⟨gq,k*4+2,none⟩=false:=(M3.ow 2).frozenAt (k*4+2);have y3:wc.cell? ⟨gq,k*4+3,none⟩=some (I a3):=((M3.ow 2).cellAt (k*4+3) (by omega)).trans (fG aC 4 (fun _=>rfl) vs k _ l.out 3 (by omega));have z3:wc.frozen? ⟨gq,k*4+3,none⟩=false:=(M3.ow 2).frozenAt (k*4+3);go_region;clear d9 am y1 z1 y2 z2 y3 z3;have ak:Hid ((((vs.flatMap aC).set (k*4+1) (I S1)).set (k*4+2) (I S2)).set (k*4+3) (I S3)=(vs.set k (a0,S1,S2,S3)).flatMap aC):=aE2 l S1 S2 S3;have MX:=(show Mem w0 (((wc.setCell ⟨gq,k*4+1,none⟩ (I S1)).setCell ⟨gq,k*4+2,none⟩ (I S2)).setCell ⟨gq,k*4+3,none⟩ (I S3)).drew [aI w0 (a) TS3 #[S1,S2,S3],aJ w0 TI 1 (p) (n) (j) (ivs xs),aJ w0 TV 4 (some ⟨gq,0,none⟩) (m) (c2) ((vs.set k (a0,S1,S2,S3)).flatMap aC),aI w0 (gA) aN #[aA,aB,.slice p n j,d,h,aE,aF,aD,aG,.slice (some ⟨gq,0,none⟩) m c2],R]from by rw[←ak.out];exact(((M3.ostore (i:=2) rfl (k*4+1) (I S1)).ostore (i:=2) rfl (k*4+2) (I S2)).ostore (i:=2) rfl (k*4+3) (I S3)).adv (Ext.drew (Ext.refl _)))
    generalize ag:World.drew _=w7;rw[ag]at MX;clear ag M3;have d8:=(MX.bk 3).cl 8;have aj:=(MX.bk 3).frozen 8;go_wp2;clear d8 aj;exact aYw (v:= .tuple #[bk,.bool true]) (by have r:Hid (Mem w0 _ [aJ w0 TI 1 (p) (n) (j) (ivs xs),aJ w0 TV 4 (some ⟨gq,0,none⟩) (m) (c2) ((vs.set k (a0,S1,S2,S3)).flatMap aC),aI w0 (gA) aN #[aA,aB,.slice p n j,d,h,aE,aF,aD,(aG+amt-bk:Int),.slice (some ⟨gq,0,none⟩) m c2],R]):=((MX.store (i:=3) rfl 8 (I (aG+amt-bk))).pick [1,2,3,4] (by decide) rfl);first|exact .inr ⟨rfl,y.out,rfl,r.out⟩|exact .inr ⟨y.out,rfl,r.out⟩|exact .inr ⟨y.out,r.out⟩)
   have x:Hid (¬(true=true∧aG+amt-bk≤99999)):=by show¬_;simp[hq]
   have hd:=aYv (99999<aG+amt-bk);go_wp2
   exact aYw (v:= .tuple #[(-1:Int),.bool false]) (by
    have c:=x.out
    first|exact .inl ⟨rfl,c,b.out⟩|exact .inl ⟨rfl,by omega,b.out⟩|exact .inl ⟨by omega,b.out⟩|exact .inl ⟨rfl,b.out⟩|exact .inl b.out|exact b.out|(simp at c;first|exact .inl ⟨rfl,c,b.out⟩|exact .inl ⟨c,b.out⟩|exact .inl ⟨rfl,by omega,b.out⟩|exact .inl ⟨by omega,b.out⟩))
theorem aLu (aA aB a b aE aF aD aG id d:Int)(p:OA)(n c:Nat)(q:OA)(m c2:Nat)(hA:Hid (Blk w gA aN #[aA,aB,.slice p n c,a,b,aE,aF,aD,aG,.slice q m c2]))(f:xB 114 #[.agg #[aA,aB,.slice p n c,a,b,aE,aF,aD,aG,.slice q m c2],id] w false):
  U 74 #[.pointer (some ⟨gA,0,none⟩),id] w (Z (.tuple #[(-1:Int),.bool false]) w):=by
 go_enter func74,ntmps74;have a_:=hA.out.ten;go_wp2_with fail;clear a_;refine Ω (f _ (Ext.refl _)) fun w1 hx=>?_
 have hX:=xQ hx;clear hx;go_wp2;exact aYw (v:= .tuple #[(-1:Int),.bool false]) ⟨rfl,hX.out⟩
theorem aP5 (aA aB b d aE aF aD aG id a:Int)(p:OA)(n f:Nat)(q:OA)(m c2:Nat)(ys:List Int)(h0:a<0)(hA:Hid (Blk w gA aN #[aA,aB,.slice p n f,b,d,aE,aF,aD,aG,.slice q m c2]))(h:xB 114 #[.agg #[aA,aB,.slice p n f,b,d,aE,aF,aD,aG,.slice q m c2],id] w true)(HF:xC 115 #[aH aA aB p n f,id] w fun w' e w''=> ∃q c,e= .returned (.tuple #[aH aA aB q n c,a])∧w''.ownsRow w' TI 1 (.slice q n c) n (ivs ys)∧Ext w' w''):
  U 74 #[.pointer (some ⟨gA,0,none⟩),id] w (Z (.tuple #[(-1:Int),.bool false]) w):=by
 go_enter func74,ntmps74;have a_:=hA.out.ten;go_wp2_with fail;clear a_;refine Ω (h _ (Ext.refl _)) fun w1 hx=>?_
 have hX:=xQ hx;clear hx;have a_:=(hA.out.ext hX.out).ten;go_wp2_with fail;clear a_;refine(HF _ hX.out).mono ?_;rintro e w2 ⟨p1,c1,rfl,_,g⟩;have i:=xQ (hX.out.trans g);clear g;go_wp2;exact aYw (v:= .tuple #[(-1:Int),.bool false]) ⟨rfl,by have:=i.out;exact xE⟩
theorem aLt (aA aB b d aE aF aD aG id a:Int)(p:OA)(n h:Nat)(gq:Nat)(m c2:Nat)(k:Nat)(xs ys:List Int)(vs:List aV)(hk:k<m)(hm:m≤1000)(h0:0≤a)(hM:Hid (Mem w0 w [aJ w0 TI 1 (p) (n) (h) (ivs (xs)),aJ w0 TV 4 (some ⟨gq,0,none⟩) (m) (c2) (vs.flatMap aC),aI w0 (gA) aN #[aA,aB,.slice p n h,b,d,aE,aF,aD,aG,.slice (some ⟨gq,0,none⟩) m c2],R]))(ab:xB 114 #[.agg #[aA,aB,.slice p n h,b,d,aE,aF,aD,aG,.slice (some ⟨gq,0,none⟩) m c2],id] w true)(HF:xC 115 #[aH aA aB p n h,id] w fun w' e w''=> ∃q c,e= .returned (.tuple #[aH aA aB q n c,a])∧w''.ownsRow w' TI 1 (.slice q n c) n (ivs ys)∧Ext w' w'')(HX:Hid (∀w' p' cap',Sl w' (some ⟨gq,0,none⟩) m c2 4 (vs.flatMap aC)→U 112 #[.agg #[aA,aB,.slice p' n cap',b,d,aE,aF,aD,aG,.slice (some ⟨gq,0,none⟩) m c2],id] w' (Z (I k) w'))):
  U 74 #[.pointer (some ⟨gA,0,none⟩),id] w fun e w'=> ∃p1 c1,e= .returned (.tuple #[a,.bool true])∧Mem w0 w' [aJ w0 TI 1 (p1) (n) (c1) (ivs (ys)),aJ w0 TV 4 (some ⟨gq,0,none⟩) (m-1) (c2) ((vs.eraseIdx k).flatMap aC),aI w0 (gA) aN #[aA,aB,.slice p1 n c1,b,d,aE,aF,aD,aG,.slice (some ⟨gq,0,none⟩) (m-1) c2],R]:=by
 go_enter func74,ntmps74;obtain⟨a0,a1,a2,a3,a4,a5,a6,a7,a8,a9⟩:=(hM.out.bk 2).ten;go_wp2_with fail;clear a0 a1 a2 a3 a4 a5 a6 a7 a8 a9;refine Ω (ab _ (Ext.refl _)) fun w1 s=>?_
 have ah:=xQ s;have M1:=(hM.out.adv s)
 clear hM s;have a0:=(M1.bk 2).cl 0;have a1:=(M1.bk 2).cl 1;have a2:=(M1.bk 2).cl 2;go_wp2_with fail;clear a0 a1 a2;refine(HF _ ah.out).mono ?_;rintro e w2 ⟨p1,c1,rfl,x,aa⟩;have M2:=(M1.call aa x)
 clear M1 aa x;go_upto_region 4 with fail;obtain⟨gV,r⟩: ∃gV,gV=w2.heap.size:=⟨_,rfl⟩
 rw[←r];have M3:=(M2.blkNew TH3 #[aA,aB,.slice p1 n c1] gV r.symm)
 generalize World.alloc _ _=w3 at M3⊢;clear M2 r;have t0: ¬(a<0):=by omega
 have v_:=(M3.bk 0).tri;have a0:=(M3.bk 4).cl 0;have ad:=(M3.bk 4).frozen 0;have a1:=(M3.bk 4).cl 1;have ae:=(M3.bk 4).frozen 1;have a2:=(M3.bk 4).cl 2;have af:=(M3.bk 4).frozen 2;go_upto_region 7 with fail;clear v_ a0 ad a1 ae a2 af;have M4:=((M3.st 4 0 (I aA)).st 4 1 (I aB))
 have M5:=(M4.st 4 2 (.slice p1 n c1))
 have M6:=(M5)
 generalize z:World.setCell _ _ _=w5;rw[z]at M6;clear z M3 M4 M5;have g:=(show Mem w0 w5 [aJ w0 TI 1 (p1) (n) (c1) (ivs (ys)),aJ w0 TV 4 (some ⟨gq,0,none⟩) (m) (c2) (vs.flatMap aC),aI w0 (gA) aN #[aA,aB,.slice p1 n c1,b,d,aE,aF,aD,aG,.slice (some ⟨gq,0,none⟩) m c2],R]from(M6.pick [1,3,4,5] (by decide) rfl))
 clear M6;obtain⟨a0,a1,a2,a3,a4,a5,a6,a7,a8,a9⟩:=(g.bk 2).ten;go_wp2_with fail;clear a0 a1 a2 a3 a4 a5 a6 a7 a8 a9;have t:=xQ (g.sq 1);refine Ω (HX _ _ _ t.out) fun ai j=>?_
 have f:=(g.adv j)
 clear g j t;have l:=xQ (aSs gq m c2 w0 k (k+1) vs ai (by omega) hk rfl (f.ow 1));rw[show((k+1:Nat):Int)=(k:Int)+1 by omega]at l;have aj:=aYs ((k:Int)+1);have a9:=(f.bk 2).cl 9;go_wp2_with fail;clear a9;refine l.out.mono ?_;rintro e w8 ⟨rfl,y,u⟩;have o:=(show Mem w0 w8 [aJ w0 TI 1 (p1) (n) (c1) (ivs (ys)),aJ w0 TV 4 (some ⟨gq,0,none⟩) (m-1) (c2) ((vs.eraseIdx k).flatMap aC),aI w0 (gA) aN #[aA,aB,.slice p1 n c1,b,d,aE,aF,aD,aG,.slice (some ⟨gq,0,none⟩) m c2],R]from f.app (i:=1) rfl y u (.inl rfl))
 clear f y u l;have a9:=(o.bk 2).cl 9;have ag:=(o.bk 2).frozen 9;go_wp2;clear a9 ag;exact aYw (v:= .tuple #[a,.bool true]) ⟨p1,c1,rfl,(o.st 2 9 (.slice (some ⟨gq,0,none⟩) (m-1) c2))⟩
end Go.Proofs.YthfmmibomhhmpabGreatDoor
