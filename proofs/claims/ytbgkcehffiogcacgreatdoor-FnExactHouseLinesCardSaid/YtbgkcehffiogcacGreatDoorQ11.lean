/-
  Texts of this proof, packed (@packed).
-/
import Derived.Test.YtbgkcehffiogcacGreatDoorQ10
namespace Go.Proofs.YtbgkcehffiogcacGreatDoor
open Go.RowKit
set_option linter.unusedSimpArgs false
set_option linter.unusedVariables false
set_option maxHeartbeats 8000000
set_option maxRecDepth 100000
section
open Go.Proofs.Tryz
def cZ (aA aB:Int)(xs:List Int)(id:Int):List Int×Bool:=if xs.getD 0 0=0∧1≤id∧aO aA aB (xs.set 0 id)=true then(xs.set 0 id,true)else(xs,false)
def cT (aA aB:Int)(xs:List Int)(i:Int)(w:World)(e:Ending)(w':World):Prop:=
 ∃p cap,e= .returned (.tuple #[aH aA aB p xs.length cap,i])∧w'.ownsRow w.heap.size TI 1 (.slice p xs.length cap) xs.length (ivs xs)∧Ext w w'
theorem eU {aA aB:Int}{p:OA}{n cap:Nat}{xs:List Int}{i:Int}{w w':World}(hn:xs.length=n)(ho:w'.ownsRow w TI 1 (.slice p n cap) n (ivs xs))(hx:Ext w w'):cT aA aB xs i w (.returned (.tuple #[aH aA aB p n cap,i])) w':=by subst hn;exact⟨p,cap,rfl,ho,hx⟩
theorem aDe (aA aB id:Int)(b a cap:Nat)(x:Int)(xs:List Int)(w:World)(al:4≤xs.length)(hn:xs.length≤12)(ai:Hid (xs[0]? =some x)) (hb:b<w.heap.size) (aa:Hid (w.cell? ⟨b,a,none⟩=some (I x))) (am:(x !=0)=true)
  (HI:Hid (∀w,U 50 #[(),(),((xs.length:Int)-1:Int)] w fun e w'=>e= .returned (.bool true)∧w=w'))
  (HV:xB 48 #[aH aA aB (some ⟨b,a,none⟩) xs.length cap] w true)
  (HC:Hid (∀w',Ext w w'→U 65 #[aH aA aB (some ⟨b,a,none⟩) xs.length cap] w' (eC aA aB xs w'))):
  U 103 #[aH aA aB (some ⟨b,a,none⟩) xs.length cap,(),id] w (cW aA aB xs false w):=by
 go_enter func103,ntmps103;have t:=xQ (Ext.refl w);go_wp2_with fail;refine Z (HV _ (by exact .alloc (.alloc (.refl _) _) _)) fun w1 d=>?_
 have z:Ext w w1:=(((Ext.refl _).alloc _).alloc _).trans d;have z1:w.heap.size+2≤w1.heap.size:=by have:=d.sz;(try simp at this);omega
 have l:=xQ (t.out.trans z);clear t;have i:=xQ (show Blk w1 w TH3 #[aA,aB,.slice (some ⟨b,a,none⟩) xs cap] by have:=((Blk.new w TH3 #[aA,aB,.slice (some ⟨b,a,none⟩) xs cap]).alloc _).ext d;simpa using this);have u:=xQ (show Blk w1 (w.heap.size+1) TH3 #[(),(),((),())] by have:=(Blk.new (w.alloc (.cells #[aA,aB,.slice (some ⟨b,a,none⟩) xs cap] TH3)) TH3 #[(),(),((),())]).ext d;simpa using this);clear z d;obtain⟨c0,c1,c2⟩:=i.out.tri;go_wp2_with fail;clear c0 c1 c2;refine(HC _ l.out).mono ?_;rintro e w2 ⟨q,cq,rfl,ho,o⟩;have h:Ext w1 w2:=by exact o
 have z2:w1.heap.size+0≤w2.heap.size:=by have:=o.sz;(try simp at this);omega
 have f:=xQ (l.out.trans h);have j:=xQ (i.out.ext h);have c:=xQ (u.out.ext h);clear l i u h;have r:(w:Nat)<w2:=j.out.lt;have s:w.heap.size+1<w2.heap.size:=c.out.lt;obtain⟨g,rfl,aj,ak⟩:=eX ho (by omega);have k:=xQ (ho);clear o ho;have cx:w2.cell? ⟨b,a,none⟩=some (I x):=(Ext.cells f.out).1 _ _ hb |>.trans aa.out;have lb:b<w2:=aRo hb f.out.sz;obtain⟨c0,c1,c2⟩:=j.out.tri;obtain⟨z0,af,z1,ag,z2,ah⟩:=c.out.trif;go_wp2_with ((go_at_call 50;(with_reducible refine(HI _).mono ?_);rintro e w9 ⟨rfl,rfl⟩));clear cx c0 c1 c2 z0 af z1 ag z2 ah;have y3:=((c.out.set 0 (I aA)).set 1 (I aB)).set 2 (.slice (some ⟨g,0,none⟩) xs cq);simp only[aS5,aS1,aS2]at y3;generalize n:World.setCell _ _ _=w3;rw[n]at y3;have m:ExtR (w.heap.size+1) w2 w3:=by rw[←n];exact(((ExtR.refl (w.heap.size+1) w2).setCell (p:=⟨w.heap.size+1,0,none⟩) (.inl rfl) (I aA)).setCell (p:=⟨w.heap.size+1,1,none⟩) (.inl rfl) (I aB)).setCell (p:=⟨w.heap.size+1,2,none⟩) (.inl rfl) (.slice (some ⟨g,0,none⟩) xs cq)
 clear n;have ad:=xQ (ExtR.new f m (by omega));have y:=xQ (y3);have ab:=xQ (k.out.kept m (.inr (dN k c.out (by decide))));clear f j c k m y3 r s;have ae:w.heap.size+1<w3.heap.size:=y.out.lt;obtain⟨y0,y1,y2⟩:=y.out.tri;exact bodyPost_ret (v:= .tuple #[.agg #[aA,aB,.slice (some ⟨g,0,none⟩) xs cq],.bool false]) (by simp[results,results103,go_sem, *]) rfl (eN (by simp) (bJ (ab.out.alloc _) (by omega)) (ad.out.alloc _))
theorem aJj (aA aB id:Int)(b a cap:Nat)(x:Int)(xs:List Int)(w:World)(am:4≤xs.length)(hn:xs.length≤12)(ai:Hid (xs[0]? =some x)) (hb:b<w.heap.size) (aa:Hid (w.cell? ⟨b,a,none⟩=some (I x))) (an:(x !=0)=false) (al:id<1)
  (HI:Hid (∀w,U 50 #[(),(),((xs.length:Int)-1:Int)] w fun e w'=>e= .returned (.bool true)∧w=w'))
  (HV:xB 48 #[aH aA aB (some ⟨b,a,none⟩) xs.length cap] w true)
  (HC:Hid (∀w',Ext w w'→U 65 #[aH aA aB (some ⟨b,a,none⟩) xs.length cap] w' (eC aA aB xs w'))):
  U 103 #[aH aA aB (some ⟨b,a,none⟩) xs.length cap,(),id] w (cW aA aB xs false w):=by
 go_enter func103,ntmps103;have t:=xQ (Ext.refl w);go_wp2_with fail;refine Z (HV _ (by exact .alloc (.alloc (.refl _) _) _)) fun w1 d=>?_
 have z:Ext w w1:=(((Ext.refl _).alloc _).alloc _).trans d;have z1:w.heap.size+2≤w1.heap.size:=by have:=d.sz;(try simp at this);omega
 have l:=xQ (t.out.trans z);clear t;have i:=xQ (show Blk w1 w TH3 #[aA,aB,.slice (some ⟨b,a,none⟩) xs cap] by have:=((Blk.new w TH3 #[aA,aB,.slice (some ⟨b,a,none⟩) xs cap]).alloc _).ext d;simpa using this);have u:=xQ (show Blk w1 (w.heap.size+1) TH3 #[(),(),((),())] by have:=(Blk.new (w.alloc (.cells #[aA,aB,.slice (some ⟨b,a,none⟩) xs cap] TH3)) TH3 #[(),(),((),())]).ext d;simpa using this);clear z d;obtain⟨c0,c1,c2⟩:=i.out.tri;go_wp2_with fail;clear c0 c1 c2;refine(HC _ l.out).mono ?_;rintro e w2 ⟨q,cq,rfl,ho,o⟩;have h:Ext w1 w2:=by exact o
 have z2:w1.heap.size+0≤w2.heap.size:=by have:=o.sz;(try simp at this);omega
 have f:=xQ (l.out.trans h);have j:=xQ (i.out.ext h);have c:=xQ (u.out.ext h);clear l i u h;have r:(w:Nat)<w2:=j.out.lt;have s:w.heap.size+1<w2.heap.size:=c.out.lt;obtain⟨g,rfl,aj,ak⟩:=eX ho (by omega);have k:=xQ (ho);clear o ho;have cx:w2.cell? ⟨b,a,none⟩=some (I x):=(Ext.cells f.out).1 _ _ hb |>.trans aa.out;have lb:b<w2:=aRo hb f.out.sz;obtain⟨c0,c1,c2⟩:=j.out.tri;obtain⟨z0,af,z1,ag,z2,ah⟩:=c.out.trif;go_wp2_with ((go_at_call 50;(with_reducible refine(HI _).mono ?_);rintro e w9 ⟨rfl,rfl⟩));clear cx c0 c1 c2 z0 af z1 ag z2 ah;have y3:=((c.out.set 0 (I aA)).set 1 (I aB)).set 2 (.slice (some ⟨g,0,none⟩) xs cq);simp only[aS5,aS1,aS2]at y3;generalize n:World.setCell _ _ _=w3;rw[n]at y3;have m:ExtR (w.heap.size+1) w2 w3:=by rw[←n];exact(((ExtR.refl (w.heap.size+1) w2).setCell (p:=⟨w.heap.size+1,0,none⟩) (.inl rfl) (I aA)).setCell (p:=⟨w.heap.size+1,1,none⟩) (.inl rfl) (I aB)).setCell (p:=⟨w.heap.size+1,2,none⟩) (.inl rfl) (.slice (some ⟨g,0,none⟩) xs cq)
 clear n;have ad:=xQ (ExtR.new f m (by omega));have y:=xQ (y3);have ab:=xQ (k.out.kept m (.inr (dN k c.out (by decide))));clear f j c k m y3 r s;have ae:w.heap.size+1<w3.heap.size:=y.out.lt;obtain⟨y0,y1,y2⟩:=y.out.tri;exact bodyPost_ret (v:= .tuple #[.agg #[aA,aB,.slice (some ⟨g,0,none⟩) xs cq],.bool false]) (by simp[results,results103,go_sem, *]) rfl (eN (by simp) (bJ (ab.out.alloc _) (by omega)) (ad.out.alloc _))
theorem aFx (aA aB id:Int)(b a cap:Nat)(x:Int)(xs:List Int)(w:World)(a3:4≤xs.length)(hn:xs.length≤12)(an:Hid (xs[0]? =some x)) (hb:b<w.heap.size) (al:Hid (w.cell? ⟨b,a,none⟩=some (I x))) (a4:(x !=0)=false) (a2:1≤id)
  (HI:Hid (∀w,U 50 #[(),(),((xs.length:Int)-1:Int)] w fun e w'=>e= .returned (.bool true)∧w=w'))
  (am:Hid (∀w' q c,Sl w' q xs.length c 1 (ivs (xs.set 0 id))→U 48 #[aH aA aB q xs.length c] w' (O (.bool true) w')))
  (HV:xB 48 #[aH aA aB (some ⟨b,a,none⟩) xs.length cap] w true)
  (HC:Hid (∀w',Ext w w'→U 65 #[aH aA aB (some ⟨b,a,none⟩) xs.length cap] w' (eC aA aB xs w'))):
  U 103 #[aH aA aB (some ⟨b,a,none⟩) xs.length cap,(),id] w (cW aA aB (xs.set 0 id) true w):=by
 have az:decide (id<1)=false:=by simp;omega
 go_enter func103,ntmps103;have af:=xQ (Ext.refl w);go_wp2_with fail;refine Z (HV _ (by exact .alloc (.alloc (.refl _) _) _)) fun w1 f=>?_
 have ak:Ext w w1:=(((Ext.refl _).alloc _).alloc _).trans f;have z1:w.heap.size+2≤w1.heap.size:=by have:=f.sz;(try simp at this);omega
 have s:=xQ (af.out.trans ak);clear af;have m:=xQ (show Blk w1 w TH3 #[aA,aB,.slice (some ⟨b,a,none⟩) xs cap] by have:=((Blk.new w TH3 #[aA,aB,.slice (some ⟨b,a,none⟩) xs cap]).alloc _).ext f;simpa using this);have ai:=xQ (show Blk w1 (w.heap.size+1) TH3 #[(),(),((),())] by have:=(Blk.new (w.alloc (.cells #[aA,aB,.slice (some ⟨b,a,none⟩) xs cap] TH3)) TH3 #[(),(),((),())]).ext f;simpa using this);clear ak f;obtain⟨c0,c1,c2⟩:=m.out.tri;go_wp2_with fail;clear c0 c1 c2;refine(HC _ s.out).mono ?_;rintro e w2 ⟨q,cq,rfl,ho,aa⟩;have j:Ext w1 w2:=by exact aa
 have z2:w1.heap.size+0≤w2.heap.size:=by have:=aa.sz;(try simp at this);omega
 have h:=xQ (s.out.trans j);have n:=xQ (m.out.ext j);have t:=xQ (ai.out.ext j);clear s m ai j;have ad:(w:Nat)<w2:=n.out.lt;obtain⟨g,rfl,a0,a1⟩:=eX ho (by omega);have d:=xQ (ho);clear aa ho;have cx:w2.cell? ⟨b,a,none⟩=some (I x):=(Ext.cells h.out).1 _ _ hb |>.trans al.out;have lb:b<w2:=aRo hb h.out.sz;obtain⟨c0,c1,c2⟩:=n.out.tri;have au:w2.cell? ⟨g,0,none⟩=some (I x):=by have:=d.out.cellAt 0 (by omega);rw[this];simpa[ivs]using an.out
 have av:w2.frozen? ⟨g,0,none⟩=false:=d.out.frozenAt 0;go_upto_region 7 with((go_at_call 50;(with_reducible refine(HI _).mono ?_);rintro e w9 ⟨rfl,rfl⟩));clear cx au av c0 c1 c2;have y3:=(d.out.stored (0) (I id)).1;have u:ExtR (g) w2 _:=(d.out.stored (0) (I id)).2;have l:(World.setCell w2 ⟨g,0,none⟩ (I id)).heap.size=w2.heap.size:=by simp
 generalize ar:World.setCell _ _ _=w3 at*;rw[←l];clear ar;have z3:(w2:Nat)≤w3:=aU9 l.symm;have a5:(w3:Nat)≤w2:=aU9 l;clear l;have ag:=xQ (ExtR.new h u (by omega));have aj:=xQ (show Blk w3 (w.heap.size+1) _ _ from(u.block _ t.out.lt (by first|(simp;done)|(simp;omega))).trans t.out);have o:=xQ (y3);clear h n t d u y3 ad;go_wp2_with fail;refine Z (am (w3.alloc (.cells #[aA,aB,.slice (some ⟨g,0,none⟩) xs cq] TH3)) _ _ (by rw[←eF];exact Sl.own (o.out.alloc _))) fun w4 ab=>?_
 have k:Ext w3 w4:=((Ext.refl _).alloc _).trans ab;have ah:=xQ (ag.out.trans k);have i:=xQ (aj.out.ext k);have r:=xQ (aZ o k);clear ag aj o;have ae:=xQ (show Blk w4 w3 TH3 #[aA,aB,.slice (some ⟨g,0,none⟩) xs cq] by have:=(Blk.new w3 TH3 #[aA,aB,.slice (some ⟨g,0,none⟩) xs cq]).ext ab;simpa using this);clear k ab;obtain⟨v0,v1,v2⟩:=ae.out.tri;obtain⟨z0,aw,z1,ax,z2,ay⟩:=i.out.trif;go_wp2;have y5:=((i.out.set 0 (I aA)).set 1 (I aB)).set 2 (.slice (some ⟨g,0,none⟩) xs cq);simp only[aS5,aS1,aS2]at y5;generalize z:World.setCell _ _ _=w5;rw[z]at y5;have y:ExtR (w.heap.size+1) w4 w5:=by rw[←z];exact(((ExtR.refl (w.heap.size+1) w4).setCell (p:=⟨w.heap.size+1,0,none⟩) (.inl rfl) (I aA)).setCell (p:=⟨w.heap.size+1,1,none⟩) (.inl rfl) (I aB)).setCell (p:=⟨w.heap.size+1,2,none⟩) (.inl rfl) (.slice (some ⟨g,0,none⟩) xs cq)
 clear z;have ap:=xQ (ExtR.new ah y (by omega));have aq:=xQ (y5);have ao:=xQ (r.out.kept y (.inr (dN r i.out (by decide))));clear ah i r ae y y5 v0 v1 v2 z0 aw z1 ax z2 ay;obtain⟨y0,y1,y2⟩:=aq.out.tri;exact bodyPost_ret (v:= .tuple #[.agg #[aA,aB,.slice (some ⟨g,0,none⟩) xs cq],.bool true]) (by simp[results,results103,go_sem, *]) rfl (eN (by simp) (bJ (by rw[←eF];exact ao.out) (by omega)) ap.out)
theorem aFy (aA aB id:Int)(b a cap:Nat)(x:Int)(xs:List Int)(w:World)(a8:4≤xs.length)(hn:xs.length≤12)(av:Hid (xs[0]? =some x)) (hb:b<w.heap.size) (ar:Hid (w.cell? ⟨b,a,none⟩=some (I x))) (a9:(x !=0)=false) (a7:1≤id)
  (HI:Hid (∀w,U 50 #[(),(),((xs.length:Int)-1:Int)] w fun e w'=>e= .returned (.bool true)∧w=w'))
  (au:Hid (∀w' q c,Sl w' q xs.length c 1 (ivs (xs.set 0 id))→U 48 #[aH aA aB q xs.length c] w' (O (.bool false) w')))
  (HV:xB 48 #[aH aA aB (some ⟨b,a,none⟩) xs.length cap] w true)
  (HC:Hid (∀w',Ext w w'→U 65 #[aH aA aB (some ⟨b,a,none⟩) xs.length cap] w' (eC aA aB xs w'))):
  U 103 #[aH aA aB (some ⟨b,a,none⟩) xs.length cap,(),id] w (cW aA aB xs false w):=by
 have a4:decide (id<1)=false:=by simp;omega
 go_enter func103,ntmps103;have aj:=xQ (Ext.refl w);go_wp2_with fail;refine Z (HV _ (by exact .alloc (.alloc (.refl _) _) _)) fun w1 i=>?_
 have aq:Ext w w1:=(((Ext.refl _).alloc _).alloc _).trans i;have z1:w.heap.size+2≤w1.heap.size:=by have:=i.sz;(try simp at this);omega
 have s:=xQ (aj.out.trans aq);clear aj;have r:=xQ (show Blk w1 w TH3 #[aA,aB,.slice (some ⟨b,a,none⟩) xs cap] by have:=((Blk.new w TH3 #[aA,aB,.slice (some ⟨b,a,none⟩) xs cap]).alloc _).ext i;simpa using this);have am:=xQ (show Blk w1 (w.heap.size+1) TH3 #[(),(),((),())] by have:=(Blk.new (w.alloc (.cells #[aA,aB,.slice (some ⟨b,a,none⟩) xs cap] TH3)) TH3 #[(),(),((),())]).ext i;simpa using this);clear aq i;obtain⟨c0,c1,c2⟩:=r.out.tri;go_wp2_with fail;clear c0 c1 c2;refine(HC _ s.out).mono ?_;rintro e w2 ⟨q,cq,rfl,ho,aa⟩;have m:Ext w1 w2:=by exact aa
 have z2:w1.heap.size+0≤w2.heap.size:=by have:=aa.sz;(try simp at this);omega
 have j:=xQ (s.out.trans m);have d:=xQ (r.out.ext m);have u:=xQ (am.out.ext m);clear s r am m;have ae:(w:Nat)<w2:=d.out.lt;obtain⟨g,rfl,a5,a6⟩:=eX ho (by omega);have h:=xQ (ho);clear aa ho;have cx:w2.cell? ⟨b,a,none⟩=some (I x):=(Ext.cells j.out).1 _ _ hb |>.trans ar.out;have lb:b<w2:=aRo hb j.out.sz;obtain⟨c0,c1,c2⟩:=d.out.tri;have az:w2.cell? ⟨g,0,none⟩=some (I x):=by have:=h.out.cellAt 0 (by omega);rw[this];simpa[ivs]using av.out
 have a0:w2.frozen? ⟨g,0,none⟩=false:=h.out.frozenAt 0;go_upto_region 7 with((go_at_call 50;(with_reducible refine(HI _).mono ?_);rintro e w9 ⟨rfl,rfl⟩));clear cx az a0 c0 c1 c2;have y3:=(h.out.stored (0) (I id)).1;have l:ExtR (g) w2 _:=(h.out.stored (0) (I id)).2;have o:(World.setCell w2 ⟨g,0,none⟩ (I id)).heap.size=w2.heap.size:=by simp
 generalize ay:World.setCell _ _ _=w3 at*;rw[←o];clear ay;have z3:(w2:Nat)≤w3:=aU9 o.symm;have ba:(w3:Nat)≤w2:=aU9 o;clear o;have ak:=xQ (ExtR.new j l (by omega));have af:=xQ (show Blk w3 w _ _ from(l.block _ d.out.lt (by first|(simp;done)|(simp;omega))).trans d.out);have an:=xQ (show Blk w3 (w.heap.size+1) _ _ from(l.block _ u.out.lt (by first|(simp;done)|(simp;omega))).trans u.out);have ai:=xQ (y3);clear j d u h l y3 ae;go_wp2_with fail;refine Z (au (w3.alloc (.cells #[aA,aB,.slice (some ⟨g,0,none⟩) xs cq] TH3)) _ _ (by rw[←eF];exact Sl.own (ai.out.alloc _))) fun w4 ab=>?_
 have n:Ext w3 w4:=((Ext.refl _).alloc _).trans ab;have z4:w3.heap.size+1≤w4.heap.size:=by have:=ab.sz;(try simp at this);omega
 have t:=xQ (ak.out.trans n);have ag:=xQ (af.out.ext n);have ao:=xQ (an.out.ext n);clear ak af an ai n ab;obtain⟨h0,h1,h2⟩:=ag.out.tri;go_wp2_with fail;clear h0 h1 h2;refine(HC _ t.out).mono ?_;rintro e w5 ⟨q5,c5,rfl,o5,ap⟩;have ad:Ext w4 w5:=by exact ap
 have al:=xQ (t.out.trans ad);have k:=xQ (ao.out.ext ad);clear t ag ao ad;have f:=xQ (o5);clear ap o5;obtain⟨z0,a1,z1,a2,z2,a3⟩:=k.out.trif;go_wp2;have y6:=((k.out.set 0 (I aA)).set 1 (I aB)).set 2 (.slice q5 xs c5);simp only[aS5,aS1,aS2]at y6;generalize z:World.setCell _ _ _=w6;rw[z]at y6;have y:ExtR (w.heap.size+1) w5 w6:=by rw[←z];exact(((ExtR.refl (w.heap.size+1) w5).setCell (p:=⟨w.heap.size+1,0,none⟩) (.inl rfl) (I aA)).setCell (p:=⟨w.heap.size+1,1,none⟩) (.inl rfl) (I aB)).setCell (p:=⟨w.heap.size+1,2,none⟩) (.inl rfl) (.slice q5 xs c5)
 clear z;have aw:=xQ (ExtR.new al y (by omega));have ax:=xQ (y6);have ah:=xQ (f.out.kept y (.inr (dN f k.out (by decide))));clear al k f y y6 z0 a1 z1 a2 z2 a3;obtain⟨y0,y1,y2⟩:=ax.out.tri;exact bodyPost_ret (v:= .tuple #[.agg #[aA,aB,.slice q5 xs c5],.bool false]) (by simp[results,results103,go_sem, *]) rfl (eN (by simp) (bJ (by exact ah.out) (by omega)) aw.out)
theorem aM2 (aA aB:Int)(b a cap:Nat)(x:Int)(xs:List Int)(w:World)(a1:4≤xs.length)(hn:xs.length≤12)(am:Hid (xs[0]? =some x)) (hb:b<w.heap.size) (aa:Hid (w.cell? ⟨b,a,none⟩=some (I x)))
  (HI:Hid (∀w,U 50 #[(),(),((xs.length:Int)-1:Int)] w fun e w'=>e= .returned (.bool true)∧w=w'))
  (HV:xB 48 #[aH aA aB (some ⟨b,a,none⟩) xs.length cap] w true)
  (HC:Hid (∀w',Ext w w'→U 65 #[aH aA aB (some ⟨b,a,none⟩) xs.length cap] w' (eC aA aB xs w'))):
  U 106 #[aH aA aB (some ⟨b,a,none⟩) xs.length cap,()] w (cT aA aB (xs.set 0 0) x w):=by
 go_enter func106,ntmps106;have ag:=xQ (Ext.refl w);go_wp2_with fail;refine Z (HV _ (by exact .alloc (.alloc (.refl _) _) _)) fun w1 f=>?_
 have al:Ext w w1:=(((Ext.refl _).alloc _).alloc _).trans f;have z1:w.heap.size+2≤w1.heap.size:=by have:=f.sz;(try simp at this);omega
 have n:=xQ (ag.out.trans al);clear ag;have l:=xQ (show Blk w1 w TH3 #[aA,aB,.slice (some ⟨b,a,none⟩) xs cap] by have:=((Blk.new w TH3 #[aA,aB,.slice (some ⟨b,a,none⟩) xs cap]).alloc _).ext f;simpa using this);have ai:=xQ (show Blk w1 (w.heap.size+1) TH3 #[(),(),((),())] by have:=(Blk.new (w.alloc (.cells #[aA,aB,.slice (some ⟨b,a,none⟩) xs cap] TH3)) TH3 #[(),(),((),())]).ext f;simpa using this);clear al f;obtain⟨c0,c1,c2⟩:=l.out.tri;go_wp2_with fail;clear c0 c1 c2;refine(HC _ n.out).mono ?_;rintro e w2 ⟨q,cq,rfl,ho,y⟩;have j:Ext w1 w2:=by exact y
 have z2:w1.heap.size+0≤w2.heap.size:=by have:=y.sz;(try simp at this);omega
 have o:=xQ (n.out.trans j);have c:=xQ (l.out.ext j);have s:=xQ (ai.out.ext j);clear n l ai j;have z:(w:Nat)<w2:=c.out.lt;obtain⟨g,rfl,az,a0⟩:=eX ho (by omega);have d:=xQ (ho);clear y ho;have cx:w2.cell? ⟨b,a,none⟩=some (I x):=(Ext.cells o.out).1 _ _ hb |>.trans aa.out;obtain⟨c0,c1,c2⟩:=c.out.tri;have ar:w2.cell? ⟨g,0,none⟩=some (I x):=by have:=d.out.cellAt 0 (by omega);rw[this];simpa[ivs]using am.out
 have au:w2.frozen? ⟨g,0,none⟩=false:=d.out.frozenAt 0;go_upto_region 7 with((go_at_call 50;(with_reducible refine(HI _).mono ?_);rintro e w9 ⟨rfl,rfl⟩));clear cx ar au c0 c1 c2;have y3:=(d.out.stored (0) (I 0)).1;have i:ExtR (g) w2 _:=(d.out.stored (0) (I 0)).2;have k:(World.setCell w2 ⟨g,0,none⟩ (I 0)).heap.size=w2.heap.size:=by simp
 generalize aq:World.setCell _ _ _=w3 at*;rw[←k];clear aq;have z3:(w2:Nat)≤w3:=aU9 k.symm;have a2:(w3:Nat)≤w2:=aU9 k;clear k;have ah:=xQ (ExtR.new o i (by omega));have ab:=xQ (show Blk w3 w _ _ from(i.block _ c.out.lt (by first|(simp;done)|(simp;omega))).trans c.out);have aj:=xQ (show Blk w3 (w.heap.size+1) _ _ from(i.block _ s.out.lt (by first|(simp;done)|(simp;omega))).trans s.out);have ae:=xQ (y3);clear o c s d i y3 z;have hV:Blk (w3.alloc (.cells #[aA,aB,.slice (some ⟨g,0,none⟩) xs cq] TH3)) w3 TH3 #[aA,aB,.slice (some ⟨g,0,none⟩) xs cq]:=Blk.new _ _ _;generalize ak:w3.alloc (.cells #[aA,aB,.slice (some ⟨g,0,none⟩) xs cq] TH3)=w4 at*;have e4:Ext w3 w4:=by rw[←ak];exact(Ext.refl _).alloc _
 clear ak;have r:=xQ (ah.out.trans e4);clear ah;have ad:=xQ (ab.out.ext e4);clear ab;have h:=xQ (aj.out.ext e4);clear aj;have m:=xQ (aZ ae e4);clear ae;have af:=xQ hV;clear hV e4;have cx:w4.cell? ⟨b,a,none⟩=some (I x):=(Ext.cells r.out).1 _ _ hb |>.trans aa.out;have ay:0<xs.length:=by omega
 have n2: ¬(w.heap.size+1=w3.heap.size):=by omega
 have n4: ¬(w.heap.size+1=b):=by omega
 obtain⟨v0,v1,v2⟩:=af.out.tri;have c2:=ad.out.cl 2;obtain⟨z0,av,z1,aw,z2,ax⟩:=h.out.trif;go_region_held3 (fun w'=>w'.cell? ⟨w3,0,none⟩=some (I aA)∧w'.cell? ⟨w3,1,none⟩=some (I aB)∧w'.cell? ⟨w3,2,none⟩=some (.slice (some ⟨g,0,none⟩) xs cq)∧w'.cell? ⟨w,2,none⟩=some (.slice (some ⟨b,a,none⟩) xs cap)∧w'.cell? ⟨b,a,none⟩=some (I x)) (first|(refine⟨?_,?_,?_,?_,?_⟩<;>assumption)|go_keep) (fail);go_wp2;have y5:=((h.out.set 0 (I aA)).set 1 (I aB)).set 2 (.slice (some ⟨g,0,none⟩) xs cq);simp only[aS5,aS1,aS2]at y5;generalize u:World.setCell _ _ _=w5;rw[u]at y5;have t:ExtR (w.heap.size+1) w4 w5:=by rw[←u];exact(((ExtR.refl (w.heap.size+1) w4).setCell (p:=⟨w.heap.size+1,0,none⟩) (.inl rfl) (I aA)).setCell (p:=⟨w.heap.size+1,1,none⟩) (.inl rfl) (I aB)).setCell (p:=⟨w.heap.size+1,2,none⟩) (.inl rfl) (.slice (some ⟨g,0,none⟩) xs cq)
 clear u;have ao:=xQ (ExtR.new r t (by omega));have ap:=xQ (y5);have an:=xQ (m.out.kept t (.inr (dN m h.out (by decide))));clear r ad h m af t y5 cx v0 v1 v2 c2 z0 av z1 aw z2 ax;obtain⟨y0,y1,y2⟩:=ap.out.tri;exact bodyPost_ret (v:= .tuple #[.agg #[aA,aB,.slice (some ⟨g,0,none⟩) xs cq],x]) (by simp[results,results106,go_sem, *]) rfl (eU (by simp) (bJ (by rw[←eF];exact aZ an (Ext.refl _).drew) (by omega)) ao.out.drew)
theorem aEw (aA aB id:Int)(p:OA)(n cap:Nat)(xs:List Int)(w:World)(hS:Sl w p n cap 1 (ivs xs))(f:aO aA aB xs=true):
  U 103 #[aH aA aB p n cap,(),id] w (cW aA aB (cZ aA aB xs id).1 (cZ aA aB xs id).2 w):=by
 have hl:=hS.ilen;subst hl;obtain⟨g1,g2,g3,g4,g5,g6,g7,g8,g9⟩:=bN f;obtain⟨b,a,x,rfl,hx,hb,hc⟩:=hS.int_at (k:=0) (by omega);have e:w.cell? ⟨b,a,none⟩=some (I x):=by simpa using hc
 have g:xs.getD 0 0=x:=by rw[aRw,hx];rfl
 have HV:=fun(w':World) (hy:Ext w w')=>gJ aA aB _ xs.length cap xs w' (hS.ext hy)
 rw[f]at HV;have HC:=fun(w':World) (hy:Ext w w')=>fW aA aB _ xs.length cap xs w' (by omega) (hS.ext hy)
 have HI:=fun(w:World)=>nH 0 0 ((xs.length:Int)-1) w (by omega) (by omega)
 unfold cZ;rw[g];by_cases e0:x=0
 ·have e1:(x !=0)=false:=by simp[e0]
  by_cases hi:1≤id
  ·have d:=fun(w':World) q c (h:Sl w' q xs.length c 1 (ivs (xs.set 0 id)))=>gJ aA aB q xs.length c (xs.set 0 id) w' h
   cases h2:aO aA aB (xs.set 0 id)with
   |true=>rw[h2]at d;rw[if_pos ⟨e0,hi,rfl⟩];exact aFx aA aB id b a cap x xs w g5 g6 hx hb e e1 hi HI d HV HC
   |false=>rw[h2]at d;rw[if_neg (by simp)];exact aFy aA aB id b a cap x xs w g5 g6 hx hb e e1 hi HI d HV HC
  rw[if_neg (fun h=>hi h.2.1)];exact aJj aA aB id b a cap x xs w g5 g6 hx hb e e1 (by omega) HI HV HC
 rw[if_neg (fun h=>e0 h.1)];exact aDe aA aB id b a cap x xs w g5 g6 hx hb e (by simpa using e0) HI HV HC
theorem aCj (aA aB:Int)(p:OA)(n cap:Nat)(xs:List Int)(w:World)(hS:Sl w p n cap 1 (ivs xs))(a:aO aA aB xs=true):
  U 106 #[aH aA aB p n cap,()] w (cT aA aB (xs.set 0 0) (xs.getD 0 0) w):=by
 have hl:=hS.ilen;subst hl;obtain⟨g1,g2,g3,g4,g5,g6,g7,g8,g9⟩:=bN a;obtain⟨b,c,x,rfl,hx,hb,hc⟩:=hS.int_at (k:=0) (by omega);have d:w.cell? ⟨b,c,none⟩=some (I x):=by simpa using hc
 have e:xs.getD 0 0=x:=by rw[aRw,hx];rfl
 have HV:=fun(w':World) (hy:Ext w w')=>gJ aA aB _ xs.length cap xs w' (hS.ext hy)
 rw[a]at HV;rw[e];exact aM2 aA aB b c cap x xs w g5 g6 hx hb d (fun w=>nH 0 0 ((xs.length:Int)-1) w (by omega) (by omega)) HV (fun(w':World) (hy:Ext w w')=>fW aA aB _ xs.length cap xs w' (by omega) (hS.ext hy))
abbrev Sl2:=Int×Int
def aM (s:Sl2):List Value:= [.int .i64 s.1,.int .i64 s.2]
def iK (l:List Sl2)(w:World)(e:Ending)(w':World):Prop:=
 ∃p cap,e= .returned (.slice p l.length cap)∧w'.ownsRow w.heap.size TSL 2 (.slice p l.length cap) l.length (l.flatMap aM)∧Ext w w'
theorem sX:ElT prog 120 TSL 2:=
 ⟨underlying120,by
  obtain⟨i,hi,h0,h1,h2⟩:=info_parts (show(prog.info? TSL).map (fun i=>(i.zero,i.size,i.bytes))=some (some (.agg #[(),()]),2,16) by kernel_rfl)
  exact⟨i,_,hi,h0,h1,by omega,rfl⟩,by omega⟩
theorem aHz (w:World)(a b:Value)(t:TypeId): ∀j u,([a,b]:List Value)[j]? =some u→(w.alloc (.cells #[a,b] t)).cell? ⟨w,0+j,none⟩=some u:=by
 intro j u hu;rw[aSs]
 match j,hu with
 |0,hu=>simp at hu;subst hu;exact(Blk.new w t #[a,b]).cell 0
 |1,hu=>simp at hu;subst hu;exact(Blk.new w t #[a,b]).cell 1
def oW (m:Nat→Bool)(f:Nat):Nat→List Sl2
 |0=> []
 |k+1=>oW m f k++(if m k then [((f:Int),(k:Int))]else [])
def gY (m:Nat→Nat→Bool)(n:Nat):Nat→List Sl2
 |0=> []
 |k+1=>gY m n k++oW (m k) k n
theorem aMn (m:Nat→Bool)(f k:Nat):(oW m f k).length≤k:=by
 induction k with
 |zero=>exact aRp _
 |succ k ih=>unfold oW;rw[aRx];split<;>simp<;>omega
theorem aJw (m:Nat→Nat→Bool)(n k:Nat):(gY m n k).length≤k*n:=by
 induction k with
 |zero=>simp[gY]
 |succ k ih=>unfold gY;rw[aRx,aT2];have:=aMn (m k) k n;omega
def lJ (aA aB:Int)(xs:List Int):List Sl2:=gY (fun f t=>bF aA aB xs f t) xs.length xs.length
theorem aLv (aA aB:Int)(p:OA)(n cap:Nat)(m:Nat→Nat→Bool)(w:World)(hn:n≤12)
  (HM:Hid (∀(f t:Nat),f<n→t<n→ ∀w',Ext w w'→U 109 #[aH aA aB p n cap,eI (f:Int) (t:Int)] w' (O (.bool (m f t)) w'))):
  U 142 #[aH aA aB p n cap] w (iK (gY m n n) w):=by
 go_enter func142,ntmps142;go_wp2;go_loopw [3,4] (fun v i wr=> ∃(k:Nat) (q:OA) (l c:Nat),k≤n∧i=I k∧v= .slice q l c∧l≤k*n∧wr.ownsRow (w.heap.size+1) TSL 2 (.slice q l c) l ((gY m n k).flatMap aM)∧Ext w wr∧Blk wr w TH3 #[aA,aB,.slice p n cap]) (fun _ i _=>n-(intOf i).toNat)
 case atStart=>have ho:((w.alloc (.cells #[aA,aB,.slice p n cap] TH3)).alloc (.cells #[] TSL)).ownsRow (w.heap.size+1) TSL 2 (.slice (some ⟨(w.alloc (.cells #[aA,aB,.slice p n cap] TH3)).heap.size,0,none⟩) 0 0) 0 []:=aSw _ #[] 0 (by simp) (by simp[maxLen]) rfl;exact⟨0,_,0,0,aRv _,rfl,rfl,by simp,by simpa[gY]using ho,by exact .alloc (.alloc (.refl _) _) _,(Blk.new w _ _).alloc _⟩
 case round=>
  obtain⟨k,q,l,c,hk,rfl,rfl,r,b,d,hB⟩:=hrel;have HO:=xQ b;have HB:=xQ hB;have x:(w:Nat)<wr:=hB.lt;have s:Hid (l=(gY m n k).length):=by have:=b.1;rw[cR aM 2 (fun _=>rfl)]at this;show _=_;omega
  clear b hB;obtain⟨b0,b1,b2⟩:=HB.out.cells3;by_cases hlt:k<n
  ·have af:k*n≤132:=by have:=Nat.mul_le_mul (show k≤11 by omega) hn;omega
   go_wp2;obtain⟨wo,rfl⟩: ∃wo:World,wo=wr:=⟨_,rfl⟩
   clear b0 b1 b2;go_loopw [3,5] (fun v i wr=> ∃(j:Nat) (q:OA) (l c:Nat),j≤n∧i=I j∧v= .slice q l c∧l≤k*n+j∧wr.ownsRow (w.heap.size+1) TSL 2 (.slice q l c) l ((gY m n k++oW (m k) k j).flatMap aM)∧Ext w wr∧Blk wr w TH3 #[aA,aB,.slice p n cap]) (fun _ i _=>n-(intOf i).toNat)
   case atStart=>exact⟨0,q,l,c,aRv _,rfl,rfl,by omega,by simpa[oW]using HO.out,d,HB.out⟩
   case round=>
    clear HO HB x d s r;obtain⟨j,q,l,c,hj,rfl,rfl,r,b,d,hB⟩:=hrel;have HO:=xQ b;have HB:=xQ hB;have x:(w:Nat)<wr:=hB.lt;clear b hB;obtain⟨b0,b1,b2⟩:=HB.out.cells3;by_cases hlt2:j<n
    ·go_wp2_with fail;refine Z (HM k j hlt hlt2 _ d) fun w1 h1=>?_
     have g:=xQ (aZ HO h1);have o:=xQ (HB.out.ext h1);have h:=xQ (d.trans h1);have ae:(w:Nat)<w1:=o.out.lt;clear h1 b0 b1 b2 HO HB d;cases hm:m k j with
     |true=>
      have a:Hid (gY m n k++oW (m k) k (j+1)=(gY m n k++oW (m k) k j)++ [((k:Int),(j:Int))]):=by show _=_;rw[oW,if_pos hm,aSh]
      clear hm;go_wp2_with (at_builtin;refine kD sX (f:=aM) (fun _=>rfl) (fun _ u hu=>by simp[aM]at hu;rcases hu with rfl|rfl<;>rfl) rfl _ _ rfl (w.heap.size+1) _ _ _ rfl (g.out.alloc _) _ _ ((k:Int),(j:Int)) _ rfl (aHz _ _ _ _) (by omega) (by first|(simp;done)|(simp;omega)) ?_;intro p' cap' w2 hown1 hg1;have z:=xQ hown1;have aa:Ext w w2:=Ext.own (h.out.alloc _) (g.out.alloc _) hg1 (by omega);have y:=xQ (tD g hg1 o.out);clear hown1 hg1);go_roundw
      case rel=>exact⟨j+1,p',l+1,cap',by omega,by go_num,rfl,by omega,by rw[a.out];exact z.out,aa,y.out⟩
      case measure=>simp[intOf];omega
     |false=>
      have a:Hid (gY m n k++oW (m k) k (j+1)=gY m n k++oW (m k) k j):=by show _=_;rw[oW,if_neg (by rw[hm];simp),aSe]
      clear hm;go_wp2;go_roundw
      case rel=>exact⟨j+1,q,l,c,by omega,by go_num,rfl,by omega,by rw[a.out];exact g.out,h.out,o.out⟩
      case measure=>simp[intOf];omega
    have a:Hid (gY m n k++oW (m k) k j=gY m n (k+1)):=by show _=_;rw[gY,show j=n by omega]
    have ab:k*n+n=(k+1)*n:=(aT2 k n).symm;go_wp2;go_roundw
    case rel=>exact⟨k+1,q,l,c,by omega,by go_num,rfl,by rw[←ab];omega,by rw[←a.out];exact HO.out,d,HB.out⟩
    case measure=>simp[intOf];omega
  have a:Hid (gY m n k=gY m n n):=by show _=_;rw[show k=n by omega]
  go_wp2;go_ret;have ad:(gY m n n).length=l:=by rw[←a.out];exact s.out.symm
  subst ad;exact⟨q,c,rfl,by rw[a.out]at HO;exact bJ HO (Nat.le_succ _),d⟩
theorem yZ (aA aB:Int)(p:OA)(n cap:Nat)(xs:List Int)(w:World)(hS:Sl w p n cap 1 (ivs xs))(a:aO aA aB xs=true):
  U 142 #[aH aA aB p n cap] w (iK (lJ aA aB xs) w):=by
 have hl:=hS.ilen;subst hl;obtain⟨g1,g2,g3,g4,g5,g6,g7,g8,g9⟩:=bN a;exact aLv aA aB p xs.length cap _ w g6 (fun f t _ _ w' hx=>aLu aA aB f t p xs.length cap xs w' (hS.ext hx))
end
theorem aMg {xs:List Int}{i j:Nat}{a b:Int}(hi:xs[i]? =some a) (hj:xs[j]? =some b) (d:i≠j):List.Perm ((xs.set j a).set i b) xs:=by
 induction xs generalizing i j with
 |nil=>simp at hi
 |cons x xs ih=>
  cases i with
  |zero=>
   cases j with
   |zero=>exact absurd rfl d
   |succ j=>
    simp only[aU0,aTh,aTl]at hi hj;subst hi;simp only[aS2,aS1];obtain⟨c,rfl⟩:=aRt.1 hj;clear ih d hj;induction xs generalizing j with
    |nil=>simp at c
    |cons y ys ih2=>
     cases j with
     |zero=>simpa using List.Perm.swap x y ys
     |succ j=>simp only[aSo,Nat.add_lt_add_iff_right]at c;simp only[aS2,List.getElem_cons_succ];exact(List.Perm.swap y _ _).trans ((List.Perm.cons y (ih2 j c)).trans (List.Perm.swap x y ys))
  |succ i=>
   cases j with
   |zero=>
    simp only[aU0,aTh,aTl]at hi hj;subst hj;simp only[aS2,aS1];obtain⟨c,rfl⟩:=aRt.1 hi;clear ih d hi;induction xs generalizing i with
    |nil=>simp at c
    |cons y ys ih2=>
     cases i with
     |zero=>simpa using List.Perm.swap x y ys
     |succ i=>simp only[aSo,Nat.add_lt_add_iff_right]at c;simp only[aS2,List.getElem_cons_succ];exact(List.Perm.swap y _ _).trans ((List.Perm.cons y (ih2 i c)).trans (List.Perm.swap x y ys))
   |succ j=>simp only[aTl]at hi hj;simp only[aS2];exact List.Perm.cons x (ih hi hj (by omega))
theorem vC {aA aB:Int}{xs ys:List Int}(h:aO aA aB xs=true)(hp:List.Perm ys xs):aO aA aB ys=true:=by unfold aO at*;rw[aRy]at*;refine⟨by rw[hp.length_eq];exact h.1,?_⟩;obtain⟨h1,h2,h3⟩:=(fK _ _).1 h.2;exact(fK _ _).2 ⟨fun x hx=>h1 x (hp.mem_iff.1 hx),fun x hx=>h2 x (hp.mem_iff.1 hx),(hp.filter _).nodup_iff.2 h3⟩
theorem nV {aA aB:Int}{xs:List Int}(f t:Int):List.Perm (bI aA aB xs f t) xs:=by
 unfold bI;cases h:bF aA aB xs f t with
 |false=>exact List.Perm.refl _
 |true=>
  rw[if_pos rfl];obtain⟨k1,k2,k3,k4,k5,k6,k7,k8,k9⟩:=lV h;refine aMg ?_ ?_ (by omega)
  ·rw[aRw,aRq (by omega)];rfl
  rw[aRq (by omega)];rw[aRw,aRq (by omega)]at k8;simpa using k8
theorem iW {aA aB:Int}{xs:List Int}(f t:Int)(h:aO aA aB xs=true):aO aA aB (bI aA aB xs f t)=true:=vC h (nV f t)
def bD (aA aB:Int):List Int→List Sl2→List Int×Nat
 |xs,[]=>(xs,0)
 |xs,s::l=>if bF aA aB xs s.1 s.2 then((bD aA aB (bI aA aB xs s.1 s.2) l).1,(bD aA aB (bI aA aB xs s.1 s.2) l).2+1)else(xs,0)
theorem eQ {aA aB:Int}{xs:List Int}{s:Sl2}{l:List Sl2}(h:bF aA aB xs s.1 s.2=true):bD aA aB xs (s::l)=((bD aA aB (bI aA aB xs s.1 s.2) l).1,(bD aA aB (bI aA aB xs s.1 s.2) l).2+1):=by rw[bD,if_pos h]
theorem kS {aA aB:Int}{xs:List Int}{s:Sl2}{l:List Sl2}(h:bF aA aB xs s.1 s.2=false):bD aA aB xs (s::l)=(xs,0):=by rw[bD,if_neg (by rw[h];simp)]
theorem qV {aA aB:Int}: ∀(l:List Sl2) (xs:List Int) (s:Sl2),(bD aA aB xs l).2=l.length→bD aA aB xs (l++ [s])=(if bF aA aB (bD aA aB xs l).1 s.1 s.2 then(bI aA aB (bD aA aB xs l).1 s.1 s.2,l.length+1)else((bD aA aB xs l).1,l.length)):=by
 intro l;induction l with
 |nil=>
  intro xs s _;cases h:bF aA aB xs s.1 s.2 with
  |true=>rw[aTa,eQ h];simp[bD,h]
  |false=>rw[aTa,kS h];simp[bD,h]
 |cons a l ih=>
  intro xs s h;cases ha:bF aA aB xs a.1 a.2 with
  |false=>rw[kS ha]at h;simp at h
  |true=>
   rw[eQ ha]at h;have h':(bD aA aB (bI aA aB xs a.1 a.2) l).2=l.length:=by simpa using h
   rw[aTd,eQ ha,eQ ha,ih _ s h'];dsimp only;split<;>simp
theorem zA {aA aB:Int}: ∀(l r:List Sl2) (xs:List Int),(bD aA aB xs l).2<l.length→bD aA aB xs (l++r)=bD aA aB xs l:=by
 intro l;induction l with
 |nil=>intro r xs h;simp at h
 |cons a l ih=>
  intro r xs h;cases ha:bF aA aB xs a.1 a.2 with
  |false=>rw[aTd,kS ha,kS ha]
  |true=>
   rw[eQ ha]at h;have h':(bD aA aB (bI aA aB xs a.1 a.2) l).2<l.length:=by simpa using h
   rw[aTd,eQ ha,eQ ha,ih r _ h']
theorem oV {aA aB:Int}: ∀(l:List Sl2) (xs:List Int),aO aA aB xs=true→aO aA aB (bD aA aB xs l).1=true∧(bD aA aB xs l).1.length=xs.length∧List.Perm (bD aA aB xs l).1 xs:=by
 intro l;induction l with
 |nil=>intro xs h;exact⟨h,rfl,List.Perm.refl _⟩
 |cons a l ih=>
  intro xs h;unfold bD;split
  ·obtain⟨a1,a2,a3⟩:=ih _ (iW a.1 a.2 h);exact⟨a1,a2.trans (dB _ _ _ _ _),a3.trans (nV _ _)⟩
  exact⟨h,rfl,List.Perm.refl _⟩
section
open Go.Proofs.Tryz
theorem aDj {w:World}{q:OA}{m c2:Nat}{l:List Sl2}(h:Sl w q m c2 2 (l.flatMap aM)){k:Nat}(hk:k<m):
  ∃b off f t,q=some ⟨b,off,none⟩∧l[k]? =some (f,t)∧b<w.heap.size∧w.cell? ⟨b,off+k*2,none⟩=some (I f)∧w.cell? ⟨b,off+k*2+1,none⟩=some (I t):=by
 obtain⟨b,off,x,hp,hx,hb,hc⟩:=Sl.at_ (sz:=2) (f:=aM) (fun _=>rfl) h hk (by omega);obtain⟨f,t⟩:=x;exact⟨b,off,f,t,hp,hx,hb,hc 0 (by omega),hc 1 (by omega)⟩
theorem aGa {w:World}{q:OA}{m c2:Nat}{l:List Sl2}(h:Sl w q m c2 2 (l.flatMap aM)):l.length=m:=by have:=h.len;rw[cR aM 2 (fun _=>rfl)]at this;omega
theorem aLs (aA aB:Int)(p:OA)(cap:Nat)(xs:List Int)(lq:OA)(m lc:Nat)(l:List Sl2)(w:World)(bz:4≤xs.length)(hn:xs.length≤12)(hm:m≤60)(bk:Hid (aO aA aB xs=true))(HS:Hid (Sl w lq m lc 2 (l.flatMap aM)))
  (HV:xB 48 #[aH aA aB p xs.length cap] w true)
  (HC:Hid (∀w',Ext w w'→U 65 #[aH aA aB p xs.length cap] w' (eC aA aB xs w'))):
  U 102 #[aH aA aB p xs.length cap,.slice lq m lc] w (cT aA aB (bD aA aB xs l).1 ((bD aA aB xs l).2:Nat) w):=by
 have hl:=xQ (aGa HS.out);have bv:decide (60<m)=false:=by simp;omega
 have bw:decide ((60:Int)<(m:Int))=false:=by simp;omega
 go_enter func102,ntmps102;have s:=xQ (Ext.refl w);go_wp2_with fail;refine Z (HV _ (by exact .alloc (.alloc (.refl _) _) _)) fun w1 ah=>?_
 have be:Ext w w1:=(((Ext.refl _).alloc _).alloc _).trans ah;have z1:w.heap.size+2≤w1.heap.size:=by have:=ah.sz;(try simp at this);omega
 have o:=xQ (s.out.trans be);clear s;have a4:=xQ (show Blk w1 w TH3 #[aA,aB,.slice p xs cap] by have:=((Blk.new w TH3 #[aA,aB,.slice p xs cap]).alloc _).ext ah;simpa using this);have x:=xQ (show Blk w1 (w.heap.size+1) TH3 #[(),(),((),())] by have:=(Blk.new (w.alloc (.cells #[aA,aB,.slice p xs cap] TH3)) TH3 #[(),(),((),())]).ext ah;simpa using this);clear be ah;obtain⟨c0,c1,c2⟩:=a4.out.tri;go_wp2_with fail;clear c0 c1 c2;refine(HC _ o.out).mono ?_;rintro e w2 ⟨q0,c0,rfl,o0,ax⟩;have ay:Ext w1 w2:=by exact ax
 have z2:w1.heap.size+0≤w2.heap.size:=by have:=ax.sz;(try simp at this);omega
 have a6:=xQ (o.out.trans ay);have a7:=xQ (x.out.ext ay);clear o a4 x ay;have a5:=xQ (o0);clear ax o0;go_wp2;go_loopw [7] (fun i wr=> ∃(k:Nat) (q:OA) (c:Nat),k≤m∧i=I k∧(bD aA aB xs (l.take k)).2=k∧wr.ownsRow w1 TI 1 (.slice q xs c) xs.length (ivs (bD aA aB xs (l.take k)).1)∧Ext w wr∧Blk wr w2 TH3 #[aA,aB,.slice q xs c]∧Blk wr (w.heap.size+1) TH3 #[(),(),((),())]∧w2.heap.size<wr.heap.size) (fun i _=>m-(intOf i).toNat)
 case atStart=>exact⟨0,q0,c0,aRv _,rfl,by simp[bD],by simpa[bD]using aZ a5 ((Ext.refl _).alloc _),a6.out.alloc _,Blk.new _ _ _,a7.out.alloc _,by simp⟩
 case round=>
  clear a5 a6 a7;obtain⟨k,q,c,hk,rfl,ar,au,y,a8,a9,b0⟩:=hrel;have HO:=xQ au;have h:=xQ a8;have r:=xQ a9;have aq:=xQ ar;clear au a8 a9 ar;obtain⟨bf,bg,bo⟩:=oV (l.take k) xs bk.out;have OK:=xQ bf;have av:=xQ bg;clear bf bg bo;by_cases hlt:k<m
  ·obtain⟨b2,z,f,t,rfl,hx,ba,d0,d1⟩:=aDj (HS.out.ext y) hlt;have HX:=xQ hx;clear hx;have i1:(0:Int)≤(k:Int):=by omega
   have i2:(k:Int)<(m:Int):=by omega
   have ag:Hid (bD aA aB xs (l.take (k+1))=(if bF aA aB (bD aA aB xs (l.take k)).1 f t then(bI aA aB (bD aA aB xs (l.take k)).1 f t,k+1)else((bD aA aB xs (l.take k)).1,k))):=by
    show _=_;have ao:(l.take k).length=k:=by rw[aSd,hl.out];omega
    rw[aY HX.out,qV _ _ _ (by rw[aq.out,ao]),ao]
   have HD:xC 62 #[aH aA aB q xs.length c,eI f t] wr fun w' e w''=> ∃q5 c5,e= .returned (.tuple #[aH aA aB q5 xs.length c5,.bool (bF aA aB (bD aA aB xs (l.take k)).1 f t)])∧w''.ownsRow w' TI 1 (.slice q5 xs c5) xs.length (ivs (bI aA aB (bD aA aB xs (l.take k)).1 f t))∧Ext w' w'':=
    fun w' hx=>(mK aA aB f t q xs.length c _ w' ((Sl.own HO.out).ext hx) OK.out).mono fun e w'' ⟨q5,c5,he,ho,hy⟩=>by
     have bj:(bI aA aB (bD aA aB xs (l.take k)).1 f t).length=xs.length:=by rw[dB,av.out]
     rw[bj]at he ho;exact⟨q5,c5,he,ho,hy⟩
   generalize bl:(bD aA aB xs (l.take k)).1=ys at*;clear bl;generalize bn:bI aA aB ys f t=zs at*;clear bn;generalize bb:bF aA aB ys f t=bm at*;have bx:=xQ bb;clear bb;obtain⟨v0,v1,v2⟩:=h.out.tri;have n2: ¬(wr.heap.size=w2.heap.size):=by omega
   have n4: ¬(wr.heap.size=b2):=by omega
   go_upto_region 7 with fail;go_cut [8,9] (fun s8 s9 wx=> ∃(a:Nat) (q5:OA) (c5:Nat),s8= .pointer (some ⟨a,0,none⟩)∧s9= .bool bm∧Ext wr wx∧wr.heap.size≤a∧Blk wx a TH3 #[aA,aB,.slice q5 xs c5]∧wx.ownsRow wr TI 1 (.slice q5 xs c5) xs.length (ivs zs))
   case first=>
    go_region_held3 (fun w'=>w'.cell? ⟨w2,0,none⟩=some (I aA)∧w'.cell? ⟨w2,1,none⟩=some (I aB)∧w'.cell? ⟨w2,2,none⟩=some (.slice q xs c)∧w'.cell? ⟨b2,z+k*2,none⟩=some (I f)∧w'.cell? ⟨b2,z+k*2+1,none⟩=some (I t))
     (first|(refine⟨?_,?_,?_,?_,?_⟩<;>assumption)|go_keep)
     ((go_at_call 62
       refine(HD _ xE).mono ?_;rintro e w5 ⟨q5,c5,rfl,o5,bd⟩;have ad:Ext wr w5:=xE;obtain⟨g0,g1,g2⟩:=(h.out.ext ad).tri;have g3:w5.cell? ⟨b2,z+k*2,none⟩=some (I f):=(ad.cells.1 _ _ ba).trans d0;have g4:w5.cell? ⟨b2,z+k*2+1,none⟩=some (I t):=(ad.cells.1 _ _ ba).trans d1
       first
        |(have az:Ext (wr.alloc (.cells #[(),(),((),())] TH3)) w5:=bd
          have BB:=(Blk.new wr TH3 #[(),(),((),())]).ext az;obtain⟨bs,aj,bt,ak,bu,_⟩:=BB.trif
          have al:w5.frozen? ⟨wr,2,none⟩=false:=BB.frozen 2)
        |(have az:Ext (wr.alloc (.cells #[(),(),((),())] TH3)) w5:=bd.of_drew
          have BB:=(Blk.new wr TH3 #[(),(),((),())]).ext az;obtain⟨bs,aj,bt,ak,bu,_⟩:=BB.trif
          have al:w5.frozen? ⟨wr,2,none⟩=false:=BB.frozen 2)
        |skip))
    ·go_wp2_with fail;go_meet;exact⟨w5.heap.size,q5,c5,rfl,rfl,by exact .alloc ad _,by have:=ad.sz;omega,Blk.new _ _ _,bJ (by exact o5.alloc _) (by simp)⟩
    have hR:ExtR wr w5 _:=(((ExtR.refl wr w5).setCell (p:=⟨wr,0,none⟩) (.inl rfl) (I aA)).setCell (p:=⟨wr,1,none⟩) (.inl rfl) (I aB)).setCell (p:=⟨wr,2,none⟩) (.inl rfl) (.slice q5 xs c5);have hY:=((BB.set 0 (I aA)).set 1 (I aB)).set 2 (.slice q5 xs c5);simp only[aS5,aS1,aS2]at hY;go_wp2_with fail;go_meet;exact⟨wr.heap.size,q5,c5,rfl,rfl,ExtR.new ad hR (aRp _),aRp _,hY,bJ (o5.kept hR (.inr (dN o5 BB (by decide)))) (by simp)⟩
   case rest=>
    clear v0 v1 v2 n2 n4 d0 d1;obtain⟨a,q5,c5,rfl,rfl,j,ha,an,ap⟩:=hcut;cases bm with
    |true=>
     have d:=ag.out;rw[if_pos rfl]at d;have ab:bD aA aB xs (l.take (k+1))=(zs,k+1):=d;have ab:=xQ ab;clear d;have n:=xQ (h.out.ext j);have u:=xQ (r.out.ext j);have am:=xQ an;have s:=xQ (y.trans j);have ae:=xQ (aZ HO j);have af:=xQ (bJ ap (show w1.heap.size≤wr.heap.size by omega));clear h r an y HO ap;have z0:=j.sz;obtain⟨v0,bp,v1,bq,v2,br⟩:=n.out.trif;obtain⟨a0,a1,a2⟩:=am.out.tri;go_wp2;clear ae;have y1:=((n.out.set 0 (I aA)).set 1 (I aB)).set 2 (.slice q5 xs c5);simp only[aS5,aS1,aS2]at y1;generalize g:World.setCell _ _ _=w1;rw[g]at y1;have b:ExtR w2 wc w1:=by rw[←g];exact(((ExtR.refl w2 wc).setCell (p:=⟨w2,0,none⟩) (.inl rfl) (I aA)).setCell (p:=⟨w2,1,none⟩) (.inl rfl) (I aB)).setCell (p:=⟨w2,2,none⟩) (.inl rfl) (.slice q5 xs c5)
     clear g;have z1:(wc:Nat)≤w1:=b.sz;have aa:=xQ (y1);have x:=xQ (show Blk w1 (w.heap.size+1) _ _ from(b.block _ u.out.lt (by first|(simp;done)|(simp;omega))).trans u.out);have o:=xQ (ExtR.new s b (by omega));have bh:=xQ (af.out.kept b (.inr (dN af n.out (by decide))));clear n u am s af b y1;have ai:(w2:Nat)<w1:=aa.out.lt;clear v0 bp v1 bq v2 br a0 a1 a2;go_roundw
     case rel=>exact⟨k+1,q5,c5,by omega,by go_num,by rw[ab.out],by rw[ab.out];exact bh.out,o.out,aa.out,x.out,by omega⟩
     case measure=>simp[intOf];omega
    |false=>
     have d:=ag.out;rw[if_neg (by simp)]at d;have ab:Hid (bD aA aB xs l=(ys,k)):=by
      show _=_;have ao:(l.take (k+1)).length=k+1:=by rw[aSd,hl.out];omega
      have:=zA (aA:=aA) (aB:=aB) (l.take (k+1)) (l.drop (k+1)) xs (by rw[d,ao];exact Nat.lt_succ_self k);rw[List.take_append_drop,d]at this;exact this
     clear d;have n:=xQ (h.out.ext j);have u:=xQ (r.out.ext j);have am:=xQ an;have s:=xQ (y.trans j);have ae:=xQ (aZ HO j);have af:=xQ (bJ ap (show w1.heap.size≤wr.heap.size by omega));clear h r an y HO ap;have z0:=j.sz;obtain⟨v0,v1,v2⟩:=n.out.tri;obtain⟨z0,aj,z1,ak,z2,al⟩:=u.out.trif;go_wp2;clear af;have y1:=((u.out.set 0 (I aA)).set 1 (I aB)).set 2 (.slice q xs c);simp only[aS5,aS1,aS2]at y1;generalize g:World.setCell _ _ _=w1;rw[g]at y1;have b:ExtR (w.heap.size+1) wc w1:=by rw[←g];exact(((ExtR.refl (w.heap.size+1) wc).setCell (p:=⟨w.heap.size+1,0,none⟩) (.inl rfl) (I aA)).setCell (p:=⟨w.heap.size+1,1,none⟩) (.inl rfl) (I aB)).setCell (p:=⟨w.heap.size+1,2,none⟩) (.inl rfl) (.slice q xs c)
     clear g;have z1:(wc:Nat)≤w1:=b.sz;have aa:=xQ (show Blk w1 w2 _ _ from(b.block _ n.out.lt (by first|(simp;done)|(simp;omega))).trans n.out);have x:=xQ (y1);have o:=xQ (ExtR.new s b (by omega));have aw:=xQ (ae.out.kept b (.inr (dN ae u.out (by decide))));clear n u am s ae b y1;have ai:(w2:Nat)<w1:=aa.out.lt;clear v0 v1 v2 z0 aj z1 ak z2 al;obtain⟨y0,y1,y2⟩:=x.out.tri;exact bodyPost_ret (v:= .tuple #[.agg #[aA,aB,.slice q xs c],k]) (by simp[results,results102,go_sem, *]) rfl (by rw[ab.out];exact eU av (bJ aw (by omega)) o.out)
  have bc:Hid (bD aA aB xs l=((bD aA aB xs (l.take k)).1,k)):=by have e1:l.take k=l:=aRu (by rw[hl.out];omega);have e2:=aq.out;show _=_;rw[e1]at e2⊢;exact Prod.ext rfl e2
  have bi:k=m:=by omega
  subst bi;have a3:=xQ y;clear y;obtain⟨v0,v1,v2⟩:=h.out.tri;obtain⟨z0,aj,z1,ak,z2,al⟩:=r.out.trif;go_wp2;have y1:=((r.out.set 0 (I aA)).set 1 (I aB)).set 2 (.slice q xs c);simp only[aS5,aS1,aS2]at y1;generalize g:World.setCell _ _ _=w1;rw[g]at y1;have b:ExtR (w.heap.size+1) wr w1:=by rw[←g];exact(((ExtR.refl (w.heap.size+1) wr).setCell (p:=⟨w.heap.size+1,0,none⟩) (.inl rfl) (I aA)).setCell (p:=⟨w.heap.size+1,1,none⟩) (.inl rfl) (I aB)).setCell (p:=⟨w.heap.size+1,2,none⟩) (.inl rfl) (.slice q xs c)
  clear g;have z1:(wr:Nat)≤w1:=b.sz;have aa:=xQ (show Blk w1 w2 _ _ from(b.block _ h.out.lt (by first|(simp;done)|(simp;omega))).trans h.out);have x:=xQ (y1);have o:=xQ (ExtR.new a3 b (by omega));have aw:=xQ (HO.out.kept b (.inr (dN HO r.out (by decide))));clear h r a3 HO b y1;have ai:(w2:Nat)<w1:=aa.out.lt;clear v0 v1 v2 z0 aj z1 ak z2 al;obtain⟨y0,y1,y2⟩:=x.out.tri;exact bodyPost_ret (v:= .tuple #[.agg #[aA,aB,.slice q xs c],k]) (by simp[results,results102,go_sem, *]) rfl (by rw[bc.out];exact eU av (bJ aw (by omega)) o.out)
theorem rY (aA aB:Int)(p:OA)(n cap:Nat)(xs:List Int)(lq:OA)(m lc:Nat)(l:List Sl2)(w:World)(hm:m≤60)(hS:Sl w p n cap 1 (ivs xs))(hL:Sl w lq m lc 2 (l.flatMap aM))(a:aO aA aB xs=true):
  U 102 #[aH aA aB p n cap,.slice lq m lc] w (cT aA aB (bD aA aB xs l).1 ((bD aA aB xs l).2:Nat) w):=by
 have hl:=hS.ilen;subst hl;obtain⟨g1,g2,g3,g4,g5,g6,g7,g8,g9⟩:=bN a;have HV:=fun(w':World) (hy:Ext w w')=>gJ aA aB p xs.length cap xs w' (hS.ext hy)
 rw[a]at HV;exact aLs aA aB p cap xs lq m lc l w g5 g6 hm a hL HV (fun(w':World) (hy:Ext w w')=>fW aA aB p xs.length cap xs w' (by omega) (hS.ext hy))
end
end Go.Proofs.YtbgkcehffiogcacGreatDoor
