/-
  Texts of this proof, packed (@packed).
-/
import Derived.Test.YtbgkcehffiogcaaGreatDoorV8
namespace Go.Proofs.YtbgkcehffiogcaaGreatDoor
open Go.RowKit
set_option linter.unusedSimpArgs false
set_option linter.unusedVariables false
set_option maxHeartbeats 8000000
set_option maxRecDepth 100000
section
open Go.Proofs.Tryz
def cH (aA aB:Int)(xs:List Int)(id:Int):List Int×Bool:=if xs.getD 0 0=0∧1≤id∧aN aA aB (xs.set 0 id)=true then(xs.set 0 id,true)else(xs,false)
def cF (aA aB:Int)(xs:List Int)(i:Int)(w:World)(e:Ending)(w':World):Prop:=
 ∃p cap,e= .returned (.tuple #[aH aA aB p xs.length cap,i])∧w'.ownsRow w.heap.size TI 1 (.slice p xs.length cap) xs.length (ivs xs)∧Ext w w'
theorem dX {aA aB:Int}{p:OA}{n a:Nat}{xs:List Int}{i:Int}{w w':World}(hn:xs.length=n)(ho:w'.ownsRow w TI 1 (.slice p n a) n (ivs xs))(hx:Ext w w'):cF aA aB xs i w (.returned (.tuple #[aH aA aB p n a,i])) w':=by subst hn;exact⟨p,a,rfl,ho,hx⟩
theorem yG (aA aB id:Int)(b a c:Nat)(x:Int)(xs:List Int)(w:World)(am:4≤xs.length)(hn:xs.length≤12)(aj:Hid (xs[0]? =some x)) (hb:b<w.heap.size) (ab:Hid (w.cell? ⟨b,a,none⟩=some (I x))) (an:(x !=0)=true)
  (HI:Hid (∀w,U 31 #[(),(),((xs.length:Int)-1:Int)] w fun e w'=>e= .returned (.bool true)∧w=w'))
  (HV:xB 29 #[aH aA aB (some ⟨b,a,none⟩) xs.length c] w true)
  (HC:Hid (∀w',Ext w w'→U 54 #[aH aA aB (some ⟨b,a,none⟩) xs.length c] w' (cP aA aB xs w'))):
  U 93 #[aH aA aB (some ⟨b,a,none⟩) xs.length c,(),id] w (cG aA aB xs false w):=by
 go_enter func93,ntmps93;have u:=xQ (Ext.refl w);go_wp2_with fail;refine Z (HV _ (by exact .alloc (.alloc (.refl _) _) _)) fun w1 f=>?_
 have aa:Ext w w1:=(((Ext.refl _).alloc _).alloc _).trans f;have z1:w.heap.size+2≤w1.heap.size:=by have:=f.sz;(try simp at this);omega
 have m:=xQ (u.out.trans aa);clear u;have j:=xQ (show Blk w1 w TH3 #[aA,aB,.slice (some ⟨b,a,none⟩) xs c] by have:=((Blk.new w TH3 #[aA,aB,.slice (some ⟨b,a,none⟩) xs c]).alloc _).ext f;simpa using this);have y:=xQ (show Blk w1 (w.heap.size+1) TH3 #[(),(),((),())] by have:=(Blk.new (w.alloc (.cells #[aA,aB,.slice (some ⟨b,a,none⟩) xs c] TH3)) TH3 #[(),(),((),())]).ext f;simpa using this);clear aa f;obtain⟨c0,c1,c2⟩:=j.out.tri;go_wp2_with fail;clear c0 c1 c2;refine(HC _ m.out).mono ?_;rintro e w2 ⟨q,cq,rfl,ho,r⟩;have i:Ext w1 w2:=by exact r
 have z2:w1.heap.size+0≤w2.heap.size:=by have:=r.sz;(try simp at this);omega
 have h:=xQ (m.out.trans i);have k:=xQ (j.out.ext i);have d:=xQ (y.out.ext i);clear m j y i;have s:(w:Nat)<w2:=k.out.lt;have t:w.heap.size+1<w2.heap.size:=d.out.lt;obtain⟨g,rfl,ak,al⟩:=eA ho (by omega);have l:=xQ (ho);clear r ho;have cx:w2.cell? ⟨b,a,none⟩=some (I x):=(Ext.cells h.out).1 _ _ hb |>.trans ab.out;have lb:b<w2:=aK0 hb h.out.sz;obtain⟨c0,c1,c2⟩:=k.out.tri;obtain⟨z0,ag,z1,ah,z2,ai⟩:=d.out.trif;go_wp2_with ((go_at_call 31;(with_reducible refine(HI _).mono ?_);rintro e w9 ⟨rfl,rfl⟩));clear cx c0 c1 c2 z0 ag z1 ah z2 ai;have y3:=((d.out.set 0 (I aA)).set 1 (I aB)).set 2 (.slice (some ⟨g,0,none⟩) xs cq);simp only[aKe,aKf,aKc]at y3;generalize o:World.setCell _ _ _=w3;rw[o]at y3;have n:ExtR (w.heap.size+1) w2 w3:=by rw[←o];exact(((ExtR.refl (w.heap.size+1) w2).setCell (p:=⟨w.heap.size+1,0,none⟩) (.inl rfl) (I aA)).setCell (p:=⟨w.heap.size+1,1,none⟩) (.inl rfl) (I aB)).setCell (p:=⟨w.heap.size+1,2,none⟩) (.inl rfl) (.slice (some ⟨g,0,none⟩) xs cq)
 clear o;have ae:=xQ (ExtR.new h n (by omega));have z:=xQ (y3);have ad:=xQ (l.out.kept n (.inr (cV l d.out (by decide))));clear h k d l n y3 s t;have af:w.heap.size+1<w3.heap.size:=z.out.lt;obtain⟨y0,y1,y2⟩:=z.out.tri;exact bodyPost_ret (v:= .tuple #[.agg #[aA,aB,.slice (some ⟨g,0,none⟩) xs cq],.bool false]) (by simp[results,results93,go_sem, *]) rfl (dP (by simp) (bF (ad.out.alloc _) (by omega)) (ae.out.alloc _))
theorem aDk (aA aB id:Int)(b a c:Nat)(x:Int)(xs:List Int)(w:World)(an:4≤xs.length)(hn:xs.length≤12)(aj:Hid (xs[0]? =some x)) (hb:b<w.heap.size) (ab:Hid (w.cell? ⟨b,a,none⟩=some (I x))) (ao:(x !=0)=false) (am:id<1)
  (HI:Hid (∀w,U 31 #[(),(),((xs.length:Int)-1:Int)] w fun e w'=>e= .returned (.bool true)∧w=w'))
  (HV:xB 29 #[aH aA aB (some ⟨b,a,none⟩) xs.length c] w true)
  (HC:Hid (∀w',Ext w w'→U 54 #[aH aA aB (some ⟨b,a,none⟩) xs.length c] w' (cP aA aB xs w'))):
  U 93 #[aH aA aB (some ⟨b,a,none⟩) xs.length c,(),id] w (cG aA aB xs false w):=by
 go_enter func93,ntmps93;have u:=xQ (Ext.refl w);go_wp2_with fail;refine Z (HV _ (by exact .alloc (.alloc (.refl _) _) _)) fun w1 f=>?_
 have aa:Ext w w1:=(((Ext.refl _).alloc _).alloc _).trans f;have z1:w.heap.size+2≤w1.heap.size:=by have:=f.sz;(try simp at this);omega
 have m:=xQ (u.out.trans aa);clear u;have j:=xQ (show Blk w1 w TH3 #[aA,aB,.slice (some ⟨b,a,none⟩) xs c] by have:=((Blk.new w TH3 #[aA,aB,.slice (some ⟨b,a,none⟩) xs c]).alloc _).ext f;simpa using this);have y:=xQ (show Blk w1 (w.heap.size+1) TH3 #[(),(),((),())] by have:=(Blk.new (w.alloc (.cells #[aA,aB,.slice (some ⟨b,a,none⟩) xs c] TH3)) TH3 #[(),(),((),())]).ext f;simpa using this);clear aa f;obtain⟨c0,c1,c2⟩:=j.out.tri;go_wp2_with fail;clear c0 c1 c2;refine(HC _ m.out).mono ?_;rintro e w2 ⟨q,cq,rfl,ho,r⟩;have i:Ext w1 w2:=by exact r
 have z2:w1.heap.size+0≤w2.heap.size:=by have:=r.sz;(try simp at this);omega
 have h:=xQ (m.out.trans i);have k:=xQ (j.out.ext i);have d:=xQ (y.out.ext i);clear m j y i;have s:(w:Nat)<w2:=k.out.lt;have t:w.heap.size+1<w2.heap.size:=d.out.lt;obtain⟨g,rfl,ak,al⟩:=eA ho (by omega);have l:=xQ (ho);clear r ho;have cx:w2.cell? ⟨b,a,none⟩=some (I x):=(Ext.cells h.out).1 _ _ hb |>.trans ab.out;have lb:b<w2:=aK0 hb h.out.sz;obtain⟨c0,c1,c2⟩:=k.out.tri;obtain⟨z0,ag,z1,ah,z2,ai⟩:=d.out.trif;go_wp2_with ((go_at_call 31;(with_reducible refine(HI _).mono ?_);rintro e w9 ⟨rfl,rfl⟩));clear cx c0 c1 c2 z0 ag z1 ah z2 ai;have y3:=((d.out.set 0 (I aA)).set 1 (I aB)).set 2 (.slice (some ⟨g,0,none⟩) xs cq);simp only[aKe,aKf,aKc]at y3;generalize o:World.setCell _ _ _=w3;rw[o]at y3;have n:ExtR (w.heap.size+1) w2 w3:=by rw[←o];exact(((ExtR.refl (w.heap.size+1) w2).setCell (p:=⟨w.heap.size+1,0,none⟩) (.inl rfl) (I aA)).setCell (p:=⟨w.heap.size+1,1,none⟩) (.inl rfl) (I aB)).setCell (p:=⟨w.heap.size+1,2,none⟩) (.inl rfl) (.slice (some ⟨g,0,none⟩) xs cq)
 clear o;have ae:=xQ (ExtR.new h n (by omega));have z:=xQ (y3);have ad:=xQ (l.out.kept n (.inr (cV l d.out (by decide))));clear h k d l n y3 s t;have af:w.heap.size+1<w3.heap.size:=z.out.lt;obtain⟨y0,y1,y2⟩:=z.out.tri;exact bodyPost_ret (v:= .tuple #[.agg #[aA,aB,.slice (some ⟨g,0,none⟩) xs cq],.bool false]) (by simp[results,results93,go_sem, *]) rfl (dP (by simp) (bF (ad.out.alloc _) (by omega)) (ae.out.alloc _))
theorem aAh (aA aB id:Int)(b a d:Nat)(x:Int)(xs:List Int)(w:World)(a4:4≤xs.length)(hn:xs.length≤12)(ao:Hid (xs[0]? =some x)) (hb:b<w.heap.size) (am:Hid (w.cell? ⟨b,a,none⟩=some (I x))) (a5:(x !=0)=false) (a3:1≤id)
  (HI:Hid (∀w,U 31 #[(),(),((xs.length:Int)-1:Int)] w fun e w'=>e= .returned (.bool true)∧w=w'))
  (an:Hid (∀w' q c,Sl w' q xs.length c 1 (ivs (xs.set 0 id))→U 29 #[aH aA aB q xs.length c] w' (O (.bool true) w')))
  (HV:xB 29 #[aH aA aB (some ⟨b,a,none⟩) xs.length d] w true)
  (HC:Hid (∀w',Ext w w'→U 54 #[aH aA aB (some ⟨b,a,none⟩) xs.length d] w' (cP aA aB xs w'))):
  U 93 #[aH aA aB (some ⟨b,a,none⟩) xs.length d,(),id] w (cG aA aB (xs.set 0 id) true w):=by
 have a0:decide (id<1)=false:=by simp;omega
 go_enter func93,ntmps93;have ag:=xQ (Ext.refl w);go_wp2_with fail;refine Z (HV _ (by exact .alloc (.alloc (.refl _) _) _)) fun w1 h=>?_
 have al:Ext w w1:=(((Ext.refl _).alloc _).alloc _).trans h;have z1:w.heap.size+2≤w1.heap.size:=by have:=h.sz;(try simp at this);omega
 have t:=xQ (ag.out.trans al);clear ag;have n:=xQ (show Blk w1 w TH3 #[aA,aB,.slice (some ⟨b,a,none⟩) xs d] by have:=((Blk.new w TH3 #[aA,aB,.slice (some ⟨b,a,none⟩) xs d]).alloc _).ext h;simpa using this);have aj:=xQ (show Blk w1 (w.heap.size+1) TH3 #[(),(),((),())] by have:=(Blk.new (w.alloc (.cells #[aA,aB,.slice (some ⟨b,a,none⟩) xs d] TH3)) TH3 #[(),(),((),())]).ext h;simpa using this);clear al h;obtain⟨c0,c1,c2⟩:=n.out.tri;go_wp2_with fail;clear c0 c1 c2;refine(HC _ t.out).mono ?_;rintro e w2 ⟨q,cq,rfl,ho,ab⟩;have k:Ext w1 w2:=by exact ab
 have z2:w1.heap.size+0≤w2.heap.size:=by have:=ab.sz;(try simp at this);omega
 have i:=xQ (t.out.trans k);have o:=xQ (n.out.ext k);have u:=xQ (aj.out.ext k);clear t n aj k;have ae:(w:Nat)<w2:=o.out.lt;obtain⟨g,rfl,a1,a2⟩:=eA ho (by omega);have f:=xQ (ho);clear ab ho;have cx:w2.cell? ⟨b,a,none⟩=some (I x):=(Ext.cells i.out).1 _ _ hb |>.trans am.out;have lb:b<w2:=aK0 hb i.out.sz;obtain⟨c0,c1,c2⟩:=o.out.tri;have av:w2.cell? ⟨g,0,none⟩=some (I x):=by have:=f.out.cellAt 0 (by omega);rw[this];simpa[ivs]using ao.out
 have aw:w2.frozen? ⟨g,0,none⟩=false:=f.out.frozenAt 0;go_upto_region 7 with((go_at_call 31;(with_reducible refine(HI _).mono ?_);rintro e w9 ⟨rfl,rfl⟩));clear cx av aw c0 c1 c2;have y3:=(f.out.stored (0) (I id)).1;have y:ExtR (g) w2 _:=(f.out.stored (0) (I id)).2;have m:(World.setCell w2 ⟨g,0,none⟩ (I id)).heap.size=w2.heap.size:=by simp
 generalize au:World.setCell _ _ _=w3 at*;rw[←m];clear au;have z3:(w2:Nat)≤w3:=aM8 m.symm;have a6:(w3:Nat)≤w2:=aM8 m;clear m;have ah:=xQ (ExtR.new i y (by omega));have ak:=xQ (show Blk w3 (w.heap.size+1) _ _ from(y.block _ u.out.lt (by first|(simp;done)|(simp;omega))).trans u.out);have r:=xQ (y3);clear i o u f y y3 ae;go_wp2_with fail;refine Z (an (w3.alloc (.cells #[aA,aB,.slice (some ⟨g,0,none⟩) xs cq] TH3)) _ _ (by rw[←dJ];exact Sl.own (r.out.alloc _))) fun w4 ad=>?_
 have l:Ext w3 w4:=((Ext.refl _).alloc _).trans ad;have ai:=xQ (ah.out.trans l);have j:=xQ (ak.out.ext l);have s:=xQ (aY r l);clear ah ak r;have af:=xQ (show Blk w4 w3 TH3 #[aA,aB,.slice (some ⟨g,0,none⟩) xs cq] by have:=(Blk.new w3 TH3 #[aA,aB,.slice (some ⟨g,0,none⟩) xs cq]).ext ad;simpa using this);clear l ad;obtain⟨v0,v1,v2⟩:=af.out.tri;obtain⟨z0,ax,z1,ay,z2,az⟩:=j.out.trif;go_wp2;have y5:=((j.out.set 0 (I aA)).set 1 (I aB)).set 2 (.slice (some ⟨g,0,none⟩) xs cq);simp only[aKe,aKf,aKc]at y5;generalize aa:World.setCell _ _ _=w5;rw[aa]at y5;have z:ExtR (w.heap.size+1) w4 w5:=by rw[←aa];exact(((ExtR.refl (w.heap.size+1) w4).setCell (p:=⟨w.heap.size+1,0,none⟩) (.inl rfl) (I aA)).setCell (p:=⟨w.heap.size+1,1,none⟩) (.inl rfl) (I aB)).setCell (p:=⟨w.heap.size+1,2,none⟩) (.inl rfl) (.slice (some ⟨g,0,none⟩) xs cq)
 clear aa;have aq:=xQ (ExtR.new ai z (by omega));have ar:=xQ (y5);have ap:=xQ (s.out.kept z (.inr (cV s j.out (by decide))));clear ai j s af z y5 v0 v1 v2 z0 ax z1 ay z2 az;obtain⟨y0,y1,y2⟩:=ar.out.tri;exact bodyPost_ret (v:= .tuple #[.agg #[aA,aB,.slice (some ⟨g,0,none⟩) xs cq],.bool true]) (by simp[results,results93,go_sem, *]) rfl (dP (by simp) (bF (by rw[←dJ];exact ap.out) (by omega)) aq.out)
theorem aAi (aA aB id:Int)(b a d:Nat)(x:Int)(xs:List Int)(w:World)(a9:4≤xs.length)(hn:xs.length≤12)(aw:Hid (xs[0]? =some x)) (hb:b<w.heap.size) (au:Hid (w.cell? ⟨b,a,none⟩=some (I x))) (ba:(x !=0)=false) (a8:1≤id)
  (HI:Hid (∀w,U 31 #[(),(),((xs.length:Int)-1:Int)] w fun e w'=>e= .returned (.bool true)∧w=w'))
  (av:Hid (∀w' q c,Sl w' q xs.length c 1 (ivs (xs.set 0 id))→U 29 #[aH aA aB q xs.length c] w' (O (.bool false) w')))
  (HV:xB 29 #[aH aA aB (some ⟨b,a,none⟩) xs.length d] w true)
  (HC:Hid (∀w',Ext w w'→U 54 #[aH aA aB (some ⟨b,a,none⟩) xs.length d] w' (cP aA aB xs w'))):
  U 93 #[aH aA aB (some ⟨b,a,none⟩) xs.length d,(),id] w (cG aA aB xs false w):=by
 have a5:decide (id<1)=false:=by simp;omega
 go_enter func93,ntmps93;have ak:=xQ (Ext.refl w);go_wp2_with fail;refine Z (HV _ (by exact .alloc (.alloc (.refl _) _) _)) fun w1 j=>?_
 have ar:Ext w w1:=(((Ext.refl _).alloc _).alloc _).trans j;have z1:w.heap.size+2≤w1.heap.size:=by have:=j.sz;(try simp at this);omega
 have t:=xQ (ak.out.trans ar);clear ak;have s:=xQ (show Blk w1 w TH3 #[aA,aB,.slice (some ⟨b,a,none⟩) xs d] by have:=((Blk.new w TH3 #[aA,aB,.slice (some ⟨b,a,none⟩) xs d]).alloc _).ext j;simpa using this);have an:=xQ (show Blk w1 (w.heap.size+1) TH3 #[(),(),((),())] by have:=(Blk.new (w.alloc (.cells #[aA,aB,.slice (some ⟨b,a,none⟩) xs d] TH3)) TH3 #[(),(),((),())]).ext j;simpa using this);clear ar j;obtain⟨c0,c1,c2⟩:=s.out.tri;go_wp2_with fail;clear c0 c1 c2;refine(HC _ t.out).mono ?_;rintro e w2 ⟨q,cq,rfl,ho,ab⟩;have n:Ext w1 w2:=by exact ab
 have z2:w1.heap.size+0≤w2.heap.size:=by have:=ab.sz;(try simp at this);omega
 have k:=xQ (t.out.trans n);have f:=xQ (s.out.ext n);have y:=xQ (an.out.ext n);clear t s an n;have af:(w:Nat)<w2:=f.out.lt;obtain⟨g,rfl,a6,a7⟩:=eA ho (by omega);have i:=xQ (ho);clear ab ho;have cx:w2.cell? ⟨b,a,none⟩=some (I x):=(Ext.cells k.out).1 _ _ hb |>.trans au.out;have lb:b<w2:=aK0 hb k.out.sz;obtain⟨c0,c1,c2⟩:=f.out.tri;have a0:w2.cell? ⟨g,0,none⟩=some (I x):=by have:=i.out.cellAt 0 (by omega);rw[this];simpa[ivs]using aw.out
 have a1:w2.frozen? ⟨g,0,none⟩=false:=i.out.frozenAt 0;go_upto_region 7 with((go_at_call 31;(with_reducible refine(HI _).mono ?_);rintro e w9 ⟨rfl,rfl⟩));clear cx a0 a1 c0 c1 c2;have y3:=(i.out.stored (0) (I id)).1;have m:ExtR (g) w2 _:=(i.out.stored (0) (I id)).2;have r:(World.setCell w2 ⟨g,0,none⟩ (I id)).heap.size=w2.heap.size:=by simp
 generalize az:World.setCell _ _ _=w3 at*;rw[←r];clear az;have z3:(w2:Nat)≤w3:=aM8 r.symm;have bb:(w3:Nat)≤w2:=aM8 r;clear r;have al:=xQ (ExtR.new k m (by omega));have ag:=xQ (show Blk w3 w _ _ from(m.block _ f.out.lt (by first|(simp;done)|(simp;omega))).trans f.out);have ao:=xQ (show Blk w3 (w.heap.size+1) _ _ from(m.block _ y.out.lt (by first|(simp;done)|(simp;omega))).trans y.out);have aj:=xQ (y3);clear k f y i m y3 af;go_wp2_with fail;refine Z (av (w3.alloc (.cells #[aA,aB,.slice (some ⟨g,0,none⟩) xs cq] TH3)) _ _ (by rw[←dJ];exact Sl.own (aj.out.alloc _))) fun w4 ad=>?_
 have o:Ext w3 w4:=((Ext.refl _).alloc _).trans ad;have z4:w3.heap.size+1≤w4.heap.size:=by have:=ad.sz;(try simp at this);omega
 have u:=xQ (al.out.trans o);have ah:=xQ (ag.out.ext o);have ap:=xQ (ao.out.ext o);clear al ag ao aj o ad;obtain⟨h0,h1,h2⟩:=ah.out.tri;go_wp2_with fail;clear h0 h1 h2;refine(HC _ u.out).mono ?_;rintro e w5 ⟨q5,c5,rfl,o5,aq⟩;have ae:Ext w4 w5:=by exact aq
 have am:=xQ (u.out.trans ae);have l:=xQ (ap.out.ext ae);clear u ah ap ae;have h:=xQ (o5);clear aq o5;obtain⟨z0,a2,z1,a3,z2,a4⟩:=l.out.trif;go_wp2;have y6:=((l.out.set 0 (I aA)).set 1 (I aB)).set 2 (.slice q5 xs c5);simp only[aKe,aKf,aKc]at y6;generalize aa:World.setCell _ _ _=w6;rw[aa]at y6;have z:ExtR (w.heap.size+1) w5 w6:=by rw[←aa];exact(((ExtR.refl (w.heap.size+1) w5).setCell (p:=⟨w.heap.size+1,0,none⟩) (.inl rfl) (I aA)).setCell (p:=⟨w.heap.size+1,1,none⟩) (.inl rfl) (I aB)).setCell (p:=⟨w.heap.size+1,2,none⟩) (.inl rfl) (.slice q5 xs c5)
 clear aa;have ax:=xQ (ExtR.new am z (by omega));have ay:=xQ (y6);have ai:=xQ (h.out.kept z (.inr (cV h l.out (by decide))));clear am l h z y6 z0 a2 z1 a3 z2 a4;obtain⟨y0,y1,y2⟩:=ay.out.tri;exact bodyPost_ret (v:= .tuple #[.agg #[aA,aB,.slice q5 xs c5],.bool false]) (by simp[results,results93,go_sem, *]) rfl (dP (by simp) (bF (by exact ai.out) (by omega)) ax.out)
theorem aFn (aA aB:Int)(b a c:Nat)(x:Int)(xs:List Int)(w:World)(a2:4≤xs.length)(hn:xs.length≤12)(an:Hid (xs[0]? =some x)) (hb:b<w.heap.size) (ab:Hid (w.cell? ⟨b,a,none⟩=some (I x)))
  (HI:Hid (∀w,U 31 #[(),(),((xs.length:Int)-1:Int)] w fun e w'=>e= .returned (.bool true)∧w=w'))
  (HV:xB 29 #[aH aA aB (some ⟨b,a,none⟩) xs.length c] w true)
  (HC:Hid (∀w',Ext w w'→U 54 #[aH aA aB (some ⟨b,a,none⟩) xs.length c] w' (cP aA aB xs w'))):
  U 96 #[aH aA aB (some ⟨b,a,none⟩) xs.length c,()] w (cF aA aB (xs.set 0 0) x w):=by
 go_enter func96,ntmps96;have ah:=xQ (Ext.refl w);go_wp2_with fail;refine Z (HV _ (by exact .alloc (.alloc (.refl _) _) _)) fun w1 h=>?_
 have am:Ext w w1:=(((Ext.refl _).alloc _).alloc _).trans h;have z1:w.heap.size+2≤w1.heap.size:=by have:=h.sz;(try simp at this);omega
 have o:=xQ (ah.out.trans am);clear ah;have m:=xQ (show Blk w1 w TH3 #[aA,aB,.slice (some ⟨b,a,none⟩) xs c] by have:=((Blk.new w TH3 #[aA,aB,.slice (some ⟨b,a,none⟩) xs c]).alloc _).ext h;simpa using this);have aj:=xQ (show Blk w1 (w.heap.size+1) TH3 #[(),(),((),())] by have:=(Blk.new (w.alloc (.cells #[aA,aB,.slice (some ⟨b,a,none⟩) xs c] TH3)) TH3 #[(),(),((),())]).ext h;simpa using this);clear am h;obtain⟨c0,c1,c2⟩:=m.out.tri;go_wp2_with fail;clear c0 c1 c2;refine(HC _ o.out).mono ?_;rintro e w2 ⟨q,cq,rfl,ho,z⟩;have k:Ext w1 w2:=by exact z
 have z2:w1.heap.size+0≤w2.heap.size:=by have:=z.sz;(try simp at this);omega
 have r:=xQ (o.out.trans k);have d:=xQ (m.out.ext k);have t:=xQ (aj.out.ext k);clear o m aj k;have aa:(w:Nat)<w2:=d.out.lt;obtain⟨g,rfl,a0,a1⟩:=eA ho (by omega);have f:=xQ (ho);clear z ho;have cx:w2.cell? ⟨b,a,none⟩=some (I x):=(Ext.cells r.out).1 _ _ hb |>.trans ab.out;obtain⟨c0,c1,c2⟩:=d.out.tri;have au:w2.cell? ⟨g,0,none⟩=some (I x):=by have:=f.out.cellAt 0 (by omega);rw[this];simpa[ivs]using an.out
 have av:w2.frozen? ⟨g,0,none⟩=false:=f.out.frozenAt 0;go_upto_region 7 with((go_at_call 31;(with_reducible refine(HI _).mono ?_);rintro e w9 ⟨rfl,rfl⟩));clear cx au av c0 c1 c2;have y3:=(f.out.stored (0) (I 0)).1;have j:ExtR (g) w2 _:=(f.out.stored (0) (I 0)).2;have l:(World.setCell w2 ⟨g,0,none⟩ (I 0)).heap.size=w2.heap.size:=by simp
 generalize ar:World.setCell _ _ _=w3 at*;rw[←l];clear ar;have z3:(w2:Nat)≤w3:=aM8 l.symm;have a3:(w3:Nat)≤w2:=aM8 l;clear l;have ai:=xQ (ExtR.new r j (by omega));have ad:=xQ (show Blk w3 w _ _ from(j.block _ d.out.lt (by first|(simp;done)|(simp;omega))).trans d.out);have ak:=xQ (show Blk w3 (w.heap.size+1) _ _ from(j.block _ t.out.lt (by first|(simp;done)|(simp;omega))).trans t.out);have af:=xQ (y3);clear r d t f j y3 aa;have hV:Blk (w3.alloc (.cells #[aA,aB,.slice (some ⟨g,0,none⟩) xs cq] TH3)) w3 TH3 #[aA,aB,.slice (some ⟨g,0,none⟩) xs cq]:=Blk.new _ _ _;generalize al:w3.alloc (.cells #[aA,aB,.slice (some ⟨g,0,none⟩) xs cq] TH3)=w4 at*;have e4:Ext w3 w4:=by rw[←al];exact(Ext.refl _).alloc _
 clear al;have s:=xQ (ai.out.trans e4);clear ai;have ae:=xQ (ad.out.ext e4);clear ad;have i:=xQ (ak.out.ext e4);clear ak;have n:=xQ (aY af e4);clear af;have ag:=xQ hV;clear hV e4;have cx:w4.cell? ⟨b,a,none⟩=some (I x):=(Ext.cells s.out).1 _ _ hb |>.trans ab.out;have az:0<xs.length:=by omega
 have n2: ¬(w.heap.size+1=w3.heap.size):=by omega
 have n4: ¬(w.heap.size+1=b):=by omega
 obtain⟨v0,v1,v2⟩:=ag.out.tri;have c2:=ae.out.cl 2;obtain⟨z0,aw,z1,ax,z2,ay⟩:=i.out.trif;go_region_held3 (fun w'=>w'.cell? ⟨w3,0,none⟩=some (I aA)∧w'.cell? ⟨w3,1,none⟩=some (I aB)∧w'.cell? ⟨w3,2,none⟩=some (.slice (some ⟨g,0,none⟩) xs cq)∧w'.cell? ⟨w,2,none⟩=some (.slice (some ⟨b,a,none⟩) xs c)∧w'.cell? ⟨b,a,none⟩=some (I x)) (first|(refine⟨?_,?_,?_,?_,?_⟩<;>assumption)|go_keep) (fail);go_wp2;have y5:=((i.out.set 0 (I aA)).set 1 (I aB)).set 2 (.slice (some ⟨g,0,none⟩) xs cq);simp only[aKe,aKf,aKc]at y5;generalize y:World.setCell _ _ _=w5;rw[y]at y5;have u:ExtR (w.heap.size+1) w4 w5:=by rw[←y];exact(((ExtR.refl (w.heap.size+1) w4).setCell (p:=⟨w.heap.size+1,0,none⟩) (.inl rfl) (I aA)).setCell (p:=⟨w.heap.size+1,1,none⟩) (.inl rfl) (I aB)).setCell (p:=⟨w.heap.size+1,2,none⟩) (.inl rfl) (.slice (some ⟨g,0,none⟩) xs cq)
 clear y;have ap:=xQ (ExtR.new s u (by omega));have aq:=xQ (y5);have ao:=xQ (n.out.kept u (.inr (cV n i.out (by decide))));clear s ae i n ag u y5 cx v0 v1 v2 c2 z0 aw z1 ax z2 ay;obtain⟨y0,y1,y2⟩:=aq.out.tri;exact bodyPost_ret (v:= .tuple #[.agg #[aA,aB,.slice (some ⟨g,0,none⟩) xs cq],x]) (by simp[results,results96,go_sem, *]) rfl (dX (by simp) (bF (by rw[←dJ];exact aY ao (Ext.refl _).drew) (by omega)) ap.out.drew)
theorem zP (aA aB id:Int)(p:OA)(n a:Nat)(xs:List Int)(w:World)(hS:Sl w p n a 1 (ivs xs))(g:aN aA aB xs=true):
  U 93 #[aH aA aB p n a,(),id] w (cG aA aB (cH aA aB xs id).1 (cH aA aB xs id).2 w):=by
 have hl:=hS.ilen;subst hl;obtain⟨g1,g2,g3,g4,g5,g6,g7,g8,g9⟩:=bL g;obtain⟨b,d,x,rfl,hx,hb,hc⟩:=hS.int_at (k:=0) (by omega);have f:w.cell? ⟨b,d,none⟩=some (I x):=by simpa using hc
 have i:xs.getD 0 0=x:=by rw[aK6,hx];rfl
 have HV:=fun(w':World) (hy:Ext w w')=>fM aA aB _ xs.length a xs w' (hS.ext hy)
 rw[g]at HV;have HC:=fun(w':World) (hy:Ext w w')=>eT aA aB _ xs.length a xs w' (by omega) (hS.ext hy)
 have HI:=fun(w:World)=>lG 0 0 ((xs.length:Int)-1) w (by omega) (by omega)
 unfold cH;rw[i];by_cases e0:x=0
 ·have e1:(x !=0)=false:=by simp[e0]
  by_cases hi:1≤id
  ·have e:=fun(w':World) q c (h:Sl w' q xs.length c 1 (ivs (xs.set 0 id)))=>fM aA aB q xs.length c (xs.set 0 id) w' h
   cases h2:aN aA aB (xs.set 0 id)with
   |true=>rw[h2]at e;rw[if_pos ⟨e0,hi,rfl⟩];exact aAh aA aB id b d a x xs w g5 g6 hx hb f e1 hi HI e HV HC
   |false=>rw[h2]at e;rw[if_neg (by simp)];exact aAi aA aB id b d a x xs w g5 g6 hx hb f e1 hi HI e HV HC
  rw[if_neg (fun h=>hi h.2.1)];exact aDk aA aB id b d a x xs w g5 g6 hx hb f e1 (by omega) HI HV HC
 rw[if_neg (fun h=>e0 h.1)];exact yG aA aB id b d a x xs w g5 g6 hx hb f (by simpa using e0) HI HV HC
theorem xD (aA aB:Int)(p:OA)(n a:Nat)(xs:List Int)(w:World)(hS:Sl w p n a 1 (ivs xs))(c:aN aA aB xs=true):
  U 96 #[aH aA aB p n a,()] w (cF aA aB (xs.set 0 0) (xs.getD 0 0) w):=by
 have hl:=hS.ilen;subst hl;obtain⟨g1,g2,g3,g4,g5,g6,g7,g8,g9⟩:=bL c;obtain⟨b,d,x,rfl,hx,hb,hc⟩:=hS.int_at (k:=0) (by omega);have e:w.cell? ⟨b,d,none⟩=some (I x):=by simpa using hc
 have f:xs.getD 0 0=x:=by rw[aK6,hx];rfl
 have HV:=fun(w':World) (hy:Ext w w')=>fM aA aB _ xs.length a xs w' (hS.ext hy)
 rw[c]at HV;rw[f];exact aFn aA aB b d a x xs w g5 g6 hx hb e (fun w=>lG 0 0 ((xs.length:Int)-1) w (by omega) (by omega)) HV (fun(w':World) (hy:Ext w w')=>eT aA aB _ xs.length a xs w' (by omega) (hS.ext hy))
abbrev Sl2:=Int×Int
def aK (s:Sl2):List Value:= [.int .i64 s.1,.int .i64 s.2]
def eL (l:List Sl2)(w:World)(e:Ending)(w':World):Prop:=
 ∃p cap,e= .returned (.slice p l.length cap)∧w'.ownsRow w.heap.size TSL 2 (.slice p l.length cap) l.length (l.flatMap aK)∧Ext w w'
theorem nU:ElT prog 131 TSL 2:=
 ⟨underlying131,by
  obtain⟨i,hi,h0,h1,h2⟩:=info_parts (show(prog.info? TSL).map (fun i=>(i.zero,i.size,i.bytes))=some (some (.agg #[(),()]),2,16) by kernel_rfl)
  exact⟨i,_,hi,h0,h1,by omega,rfl⟩,by omega⟩
theorem tS (w:World)(a b:Value)(t:TypeId): ∀j u,([a,b]:List Value)[j]? =some u→(w.alloc (.cells #[a,b] t)).cell? ⟨w,0+j,none⟩=some u:=by
 intro j u hu;rw[aL4]
 match j,hu with
 |0,hu=>simp at hu;subst hu;exact(Blk.new w t #[a,b]).cell 0
 |1,hu=>simp at hu;subst hu;exact(Blk.new w t #[a,b]).cell 1
def jA (m:Nat→Bool)(f:Nat):Nat→List Sl2
 |0=> []
 |k+1=>jA m f k++(if m k then [((f:Int),(k:Int))]else [])
def dE (m:Nat→Nat→Bool)(n:Nat):Nat→List Sl2
 |0=> []
 |k+1=>dE m n k++jA (m k) k n
theorem aG7 (m:Nat→Bool)(f k:Nat):(jA m f k).length≤k:=by
 induction k with
 |zero=>exact aK1 _
 |succ k ih=>unfold jA;rw[aKa];split<;>simp<;>omega
theorem uY (m:Nat→Nat→Bool)(n k:Nat):(dE m n k).length≤k*n:=by
 induction k with
 |zero=>simp[dE]
 |succ k ih=>unfold dE;rw[aKa,aLy];have:=aG7 (m k) k n;omega
def fT (aA aB:Int)(xs:List Int):List Sl2:=dE (fun f t=>aX aA aB xs f t) xs.length xs.length
theorem aFh (aA aB:Int)(p:OA)(n g:Nat)(m:Nat→Nat→Bool)(w:World)(hn:n≤12)
  (HM:Hid (∀(f t:Nat),f<n→t<n→ ∀w',Ext w w'→U 99 #[aH aA aB p n g,dH (f:Int) (t:Int)] w' (O (.bool (m f t)) w'))):
  U 89 #[aH aA aB p n g] w (eL (dE m n n) w):=by
 go_enter func89,ntmps89;go_wp2;go_loopw [3,4] (fun v i wr=> ∃(k:Nat) (q:OA) (l c:Nat),k≤n∧i=I k∧v= .slice q l c∧l≤k*n∧wr.ownsRow (w.heap.size+1) TSL 2 (.slice q l c) l ((dE m n k).flatMap aK)∧Ext w wr∧Blk wr w TH3 #[aA,aB,.slice p n g]) (fun _ i _=>n-(intOf i).toNat)
 case atStart=>have ho:((w.alloc (.cells #[aA,aB,.slice p n g] TH3)).alloc (.cells #[] TSL)).ownsRow (w.heap.size+1) TSL 2 (.slice (some ⟨(w.alloc (.cells #[aA,aB,.slice p n g] TH3)).heap.size,0,none⟩) 0 0) 0 []:=aLa _ #[] 0 (by simp) (by simp[maxLen]) rfl;exact⟨0,_,0,0,aK8 _,rfl,rfl,by simp,by simpa[dE]using ho,by exact .alloc (.alloc (.refl _) _) _,(Blk.new w _ _).alloc _⟩
 case round=>
  obtain⟨k,q,l,c,hk,rfl,rfl,s,b,d,hB⟩:=hrel;have HO:=xQ b;have HB:=xQ hB;have y:(w:Nat)<wr:=hB.lt;have x:Hid (l=(dE m n k).length):=by have:=b.1;rw[cR aK 2 (fun _=>rfl)]at this;show _=_;omega
  clear b hB;obtain⟨b0,b1,b2⟩:=HB.out.cells3;by_cases hlt:k<n
  ·have ag:k*n≤132:=by have:=Nat.mul_le_mul (show k≤11 by omega) hn;omega
   go_wp2;obtain⟨wo,rfl⟩: ∃wo:World,wo=wr:=⟨_,rfl⟩
   clear b0 b1 b2;go_loopw [3,5] (fun v i wr=> ∃(j:Nat) (q:OA) (l c:Nat),j≤n∧i=I j∧v= .slice q l c∧l≤k*n+j∧wr.ownsRow (w.heap.size+1) TSL 2 (.slice q l c) l ((dE m n k++jA (m k) k j).flatMap aK)∧Ext w wr∧Blk wr w TH3 #[aA,aB,.slice p n g]) (fun _ i _=>n-(intOf i).toNat)
   case atStart=>exact⟨0,q,l,c,aK8 _,rfl,rfl,by omega,by simpa[jA]using HO.out,d,HB.out⟩
   case round=>
    clear HO HB y d x s;obtain⟨j,q,l,c,hj,rfl,rfl,s,b,d,hB⟩:=hrel;have HO:=xQ b;have HB:=xQ hB;have y:(w:Nat)<wr:=hB.lt;clear b hB;obtain⟨b0,b1,b2⟩:=HB.out.cells3;by_cases hlt2:j<n
    ·go_wp2_with fail;refine Z (HM k j hlt hlt2 _ d) fun w1 h1=>?_
     have h:=xQ (aY HO h1);have r:=xQ (HB.out.ext h1);have o:=xQ (d.trans h1);have af:(w:Nat)<w1:=r.out.lt;clear h1 b0 b1 b2 HO HB d;cases hm:m k j with
     |true=>
      have a:Hid (dE m n k++jA (m k) k (j+1)=(dE m n k++jA (m k) k j)++ [((k:Int),(j:Int))]):=by show _=_;rw[jA,if_pos hm,aKw]
      clear hm;go_wp2_with (at_builtin;refine iO nU (f:=aK) (fun _=>rfl) (fun _ u hu=>by simp[aK]at hu;rcases hu with rfl|rfl<;>rfl) rfl _ _ rfl (w.heap.size+1) _ _ _ rfl (h.out.alloc _) _ _ ((k:Int),(j:Int)) _ rfl (tS _ _ _ _) (by omega) (by first|(simp;done)|(simp;omega)) ?_;intro p' cap' w2 hown1 hg1;have aa:=xQ hown1;have ab:Ext w w2:=Ext.own (o.out.alloc _) (h.out.alloc _) hg1 (by omega);have z:=xQ (nX h hg1 r.out);clear hown1 hg1);go_roundw
      case rel=>exact⟨j+1,p',l+1,cap',by omega,by go_num,rfl,by omega,by rw[a.out];exact aa.out,ab,z.out⟩
      case measure=>simp[intOf];omega
     |false=>
      have a:Hid (dE m n k++jA (m k) k (j+1)=dE m n k++jA (m k) k j):=by show _=_;rw[jA,if_neg (by rw[hm];simp),aKr]
      clear hm;go_wp2;go_roundw
      case rel=>exact⟨j+1,q,l,c,by omega,by go_num,rfl,by omega,by rw[a.out];exact h.out,o.out,r.out⟩
      case measure=>simp[intOf];omega
    have a:Hid (dE m n k++jA (m k) k j=dE m n (k+1)):=by show _=_;rw[dE,show j=n by omega]
    have ad:k*n+n=(k+1)*n:=(aLy k n).symm;go_wp2;go_roundw
    case rel=>exact⟨k+1,q,l,c,by omega,by go_num,rfl,by rw[←ad];omega,by rw[←a.out];exact HO.out,d,HB.out⟩
    case measure=>simp[intOf];omega
  have a:Hid (dE m n k=dE m n n):=by show _=_;rw[show k=n by omega]
  go_wp2;go_ret;have ae:(dE m n n).length=l:=by rw[←a.out];exact x.out.symm
  subst ae;exact⟨q,c,rfl,by rw[a.out]at HO;exact bF HO (Nat.le_succ _),d⟩
theorem uB (aA aB:Int)(p:OA)(n a:Nat)(xs:List Int)(w:World)(hS:Sl w p n a 1 (ivs xs))(b:aN aA aB xs=true):
  U 89 #[aH aA aB p n a] w (eL (fT aA aB xs) w):=by
 have hl:=hS.ilen;subst hl;obtain⟨g1,g2,g3,g4,g5,g6,g7,g8,g9⟩:=bL b;exact aFh aA aB p xs.length a _ w g6 (fun f t _ _ w' hx=>aA9 aA aB f t p xs.length a xs w' (hS.ext hx))
end
theorem aG0 {xs:List Int}{i j:Nat}{a b:Int}(hi:xs[i]? =some a) (hj:xs[j]? =some b) (d:i≠j):List.Perm ((xs.set j a).set i b) xs:=by
 induction xs generalizing i j with
 |nil=>simp at hi
 |cons x xs ih=>
  cases i with
  |zero=>
   cases j with
   |zero=>exact absurd rfl d
   |succ j=>
    simp only[aMd,aM2,aM5]at hi hj;subst hi;simp only[aKc,aKf];obtain⟨c,rfl⟩:=aK4.1 hj;clear ih d hj;induction xs generalizing j with
    |nil=>simp at c
    |cons y ys ih2=>
     cases j with
     |zero=>simpa using List.Perm.swap x y ys
     |succ j=>simp only[aLs,Nat.add_lt_add_iff_right]at c;simp only[aKc,List.getElem_cons_succ];exact(List.Perm.swap y _ _).trans ((List.Perm.cons y (ih2 j c)).trans (List.Perm.swap x y ys))
  |succ i=>
   cases j with
   |zero=>
    simp only[aMd,aM2,aM5]at hi hj;subst hj;simp only[aKc,aKf];obtain⟨c,rfl⟩:=aK4.1 hi;clear ih d hi;induction xs generalizing i with
    |nil=>simp at c
    |cons y ys ih2=>
     cases i with
     |zero=>simpa using List.Perm.swap x y ys
     |succ i=>simp only[aLs,Nat.add_lt_add_iff_right]at c;simp only[aKc,List.getElem_cons_succ];exact(List.Perm.swap y _ _).trans ((List.Perm.cons y (ih2 i c)).trans (List.Perm.swap x y ys))
   |succ j=>simp only[aM5]at hi hj;simp only[aKc];exact List.Perm.cons x (ih hi hj (by omega))
theorem rK {aA aB:Int}{xs ys:List Int}(h:aN aA aB xs=true)(hp:List.Perm ys xs):aN aA aB ys=true:=by unfold aN at*;rw[aKg]at*;refine⟨by rw[hp.length_eq];exact h.1,?_⟩;obtain⟨h1,h2,h3⟩:=(eP _ _).1 h.2;exact(eP _ _).2 ⟨fun x hx=>h1 x (hp.mem_iff.1 hx),fun x hx=>h2 x (hp.mem_iff.1 hx),(hp.filter _).nodup_iff.2 h3⟩
theorem lT {aA aB:Int}{xs:List Int}(f t:Int):List.Perm (bD aA aB xs f t) xs:=by
 unfold bD;cases h:aX aA aB xs f t with
 |false=>exact List.Perm.refl _
 |true=>
  rw[if_pos rfl];obtain⟨k1,k2,k3,k4,k5,k6,k7,k8,k9⟩:=jX h;refine aG0 ?_ ?_ (by omega)
  ·rw[aK6,aK2 (by omega)];rfl
  rw[aK2 (by omega)];rw[aK6,aK2 (by omega)]at k8;simpa using k8
theorem gK {aA aB:Int}{xs:List Int}(f t:Int)(h:aN aA aB xs=true):aN aA aB (bD aA aB xs f t)=true:=rK h (lT f t)
def aV (aA aB:Int):List Int→List Sl2→List Int×Nat
 |xs,[]=>(xs,0)
 |xs,s::l=>if aX aA aB xs s.1 s.2 then((aV aA aB (bD aA aB xs s.1 s.2) l).1,(aV aA aB (bD aA aB xs s.1 s.2) l).2+1)else(xs,0)
theorem dR {aA aB:Int}{xs:List Int}{s:Sl2}{l:List Sl2}(h:aX aA aB xs s.1 s.2=true):aV aA aB xs (s::l)=((aV aA aB (bD aA aB xs s.1 s.2) l).1,(aV aA aB (bD aA aB xs s.1 s.2) l).2+1):=by rw[aV,if_pos h]
theorem iZ {aA aB:Int}{xs:List Int}{s:Sl2}{l:List Sl2}(h:aX aA aB xs s.1 s.2=false):aV aA aB xs (s::l)=(xs,0):=by rw[aV,if_neg (by rw[h];simp)]
theorem oE {aA aB:Int}: ∀(l:List Sl2) (xs:List Int) (s:Sl2),(aV aA aB xs l).2=l.length→aV aA aB xs (l++ [s])=(if aX aA aB (aV aA aB xs l).1 s.1 s.2 then(bD aA aB (aV aA aB xs l).1 s.1 s.2,l.length+1)else((aV aA aB xs l).1,l.length)):=by
 intro l;induction l with
 |nil=>
  intro xs s _;cases h:aX aA aB xs s.1 s.2 with
  |true=>rw[aLx,dR h];simp[aV,h]
  |false=>rw[aLx,iZ h];simp[aV,h]
 |cons a l ih=>
  intro xs s h;cases ha:aX aA aB xs a.1 a.2 with
  |false=>rw[iZ ha]at h;simp at h
  |true=>
   rw[dR ha]at h;have h':(aV aA aB (bD aA aB xs a.1 a.2) l).2=l.length:=by simpa using h
   rw[aMb,dR ha,dR ha,ih _ s h'];dsimp only;split<;>simp
theorem uC {aA aB:Int}: ∀(l r:List Sl2) (xs:List Int),(aV aA aB xs l).2<l.length→aV aA aB xs (l++r)=aV aA aB xs l:=by
 intro l;induction l with
 |nil=>intro r xs h;simp at h
 |cons a l ih=>
  intro r xs h;cases ha:aX aA aB xs a.1 a.2 with
  |false=>rw[aMb,iZ ha,iZ ha]
  |true=>
   rw[dR ha]at h;have h':(aV aA aB (bD aA aB xs a.1 a.2) l).2<l.length:=by simpa using h
   rw[aMb,dR ha,dR ha,ih r _ h']
theorem mP {aA aB:Int}: ∀(l:List Sl2) (xs:List Int),aN aA aB xs=true→aN aA aB (aV aA aB xs l).1=true∧(aV aA aB xs l).1.length=xs.length∧List.Perm (aV aA aB xs l).1 xs:=by
 intro l;induction l with
 |nil=>intro xs h;exact⟨h,rfl,List.Perm.refl _⟩
 |cons a l ih=>
  intro xs h;unfold aV;split
  ·obtain⟨a1,a2,a3⟩:=ih _ (gK a.1 a.2 h);exact⟨a1,a2.trans (cJ _ _ _ _ _),a3.trans (lT _ _)⟩
  exact⟨h,rfl,List.Perm.refl _⟩
section
open Go.Proofs.Tryz
theorem yK {w:World}{q:OA}{m c2:Nat}{l:List Sl2}(h:Sl w q m c2 2 (l.flatMap aK)){k:Nat}(hk:k<m):
  ∃b off f t,q=some ⟨b,off,none⟩∧l[k]? =some (f,t)∧b<w.heap.size∧w.cell? ⟨b,off+k*2,none⟩=some (I f)∧w.cell? ⟨b,off+k*2+1,none⟩=some (I t):=by
 obtain⟨b,off,x,hp,hx,hb,hc⟩:=Sl.at_ (sz:=2) (f:=aK) (fun _=>rfl) h hk (by omega);obtain⟨f,t⟩:=x;exact⟨b,off,f,t,hp,hx,hb,hc 0 (by omega),hc 1 (by omega)⟩
theorem aAv {w:World}{q:OA}{m c2:Nat}{l:List Sl2}(h:Sl w q m c2 2 (l.flatMap aK)):l.length=m:=by have:=h.len;rw[cR aK 2 (fun _=>rfl)]at this;omega
theorem aFe (aA aB:Int)(p:OA)(ab:Nat)(xs:List Int)(lq:OA)(m lc:Nat)(l:List Sl2)(w:World)(b0:4≤xs.length)(hn:xs.length≤12)(hm:m≤60)(bl:Hid (aN aA aB xs=true))(HS:Hid (Sl w lq m lc 2 (l.flatMap aK)))
  (HV:xB 29 #[aH aA aB p xs.length ab] w true)
  (HC:Hid (∀w',Ext w w'→U 54 #[aH aA aB p xs.length ab] w' (cP aA aB xs w'))):
  U 92 #[aH aA aB p xs.length ab,.slice lq m lc] w (cF aA aB (aV aA aB xs l).1 ((aV aA aB xs l).2:Nat) w):=by
 have hl:=xQ (aAv HS.out);have bw:decide (60<m)=false:=by simp;omega
 have bx:decide ((60:Int)<(m:Int))=false:=by simp;omega
 go_enter func92,ntmps92;have s:=xQ (Ext.refl w);go_wp2_with fail;refine Z (HV _ (by exact .alloc (.alloc (.refl _) _) _)) fun w1 ai=>?_
 have bf:Ext w w1:=(((Ext.refl _).alloc _).alloc _).trans ai;have z1:w.heap.size+2≤w1.heap.size:=by have:=ai.sz;(try simp at this);omega
 have o:=xQ (s.out.trans bf);clear s;have a5:=xQ (show Blk w1 w TH3 #[aA,aB,.slice p xs ab] by have:=((Blk.new w TH3 #[aA,aB,.slice p xs ab]).alloc _).ext ai;simpa using this);have x:=xQ (show Blk w1 (w.heap.size+1) TH3 #[(),(),((),())] by have:=(Blk.new (w.alloc (.cells #[aA,aB,.slice p xs ab] TH3)) TH3 #[(),(),((),())]).ext ai;simpa using this);clear bf ai;obtain⟨c0,c1,c2⟩:=a5.out.tri;go_wp2_with fail;clear c0 c1 c2;refine(HC _ o.out).mono ?_;rintro e w2 ⟨q0,c0,rfl,o0,ay⟩;have az:Ext w1 w2:=by exact ay
 have z2:w1.heap.size+0≤w2.heap.size:=by have:=ay.sz;(try simp at this);omega
 have a7:=xQ (o.out.trans az);have a8:=xQ (x.out.ext az);clear o a5 x az;have a6:=xQ (o0);clear ay o0;go_wp2;go_loopw [7] (fun i wr=> ∃(k:Nat) (q:OA) (c:Nat),k≤m∧i=I k∧(aV aA aB xs (l.take k)).2=k∧wr.ownsRow w1 TI 1 (.slice q xs c) xs.length (ivs (aV aA aB xs (l.take k)).1)∧Ext w wr∧Blk wr w2 TH3 #[aA,aB,.slice q xs c]∧Blk wr (w.heap.size+1) TH3 #[(),(),((),())]∧w2.heap.size<wr.heap.size) (fun i _=>m-(intOf i).toNat)
 case atStart=>exact⟨0,q0,c0,aK8 _,rfl,by simp[aV],by simpa[aV]using aY a6 ((Ext.refl _).alloc _),a7.out.alloc _,Blk.new _ _ _,a8.out.alloc _,by simp⟩
 case round=>
  clear a6 a7 a8;obtain⟨k,q,c,hk,rfl,au,av,y,a9,ba,b1⟩:=hrel;have HO:=xQ av;have h:=xQ a9;have r:=xQ ba;have ar:=xQ au;clear av a9 ba au;obtain⟨bg,bh,bp⟩:=mP (l.take k) xs bl.out;have OK:=xQ bg;have aw:=xQ bh;clear bg bh bp;by_cases hlt:k<m
  ·obtain⟨b2,z,f,t,rfl,hx,bb,d0,d1⟩:=yK (HS.out.ext y) hlt;have HX:=xQ hx;clear hx;have i1:(0:Int)≤(k:Int):=by omega
   have i2:(k:Int)<(m:Int):=by omega
   have ah:Hid (aV aA aB xs (l.take (k+1))=(if aX aA aB (aV aA aB xs (l.take k)).1 f t then(bD aA aB (aV aA aB xs (l.take k)).1 f t,k+1)else((aV aA aB xs (l.take k)).1,k))):=by
    show _=_;have ap:(l.take k).length=k:=by rw[aKs,hl.out];omega
    rw[bE HX.out,oE _ _ _ (by rw[ar.out,ap]),ap]
   have HD:xC 61 #[aH aA aB q xs.length c,dH f t] wr fun w' e w''=> ∃q5 c5,e= .returned (.tuple #[aH aA aB q5 xs.length c5,.bool (aX aA aB (aV aA aB xs (l.take k)).1 f t)])∧w''.ownsRow w' TI 1 (.slice q5 xs c5) xs.length (ivs (bD aA aB (aV aA aB xs (l.take k)).1 f t))∧Ext w' w'':=
    fun w' hx=>(kL aA aB f t q xs.length c _ w' ((Sl.own HO.out).ext hx) OK.out).mono fun e w'' ⟨q5,c5,he,ho,hy⟩=>by
     have bk:(bD aA aB (aV aA aB xs (l.take k)).1 f t).length=xs.length:=by rw[cJ,aw.out]
     rw[bk]at he ho;exact⟨q5,c5,he,ho,hy⟩
   generalize bn:(aV aA aB xs (l.take k)).1=ys at*;clear bn;generalize bo:bD aA aB ys f t=zs at*;clear bo;generalize bc:aX aA aB ys f t=bm at*;have bz:=xQ bc;clear bc;obtain⟨v0,v1,v2⟩:=h.out.tri;have n2: ¬(wr.heap.size=w2.heap.size):=by omega
   have n4: ¬(wr.heap.size=b2):=by omega
   go_upto_region 7 with fail;go_cut [8,9] (fun s8 s9 wx=> ∃(a:Nat) (q5:OA) (c5:Nat),s8= .pointer (some ⟨a,0,none⟩)∧s9= .bool bm∧Ext wr wx∧wr.heap.size≤a∧Blk wx a TH3 #[aA,aB,.slice q5 xs c5]∧wx.ownsRow wr TI 1 (.slice q5 xs c5) xs.length (ivs zs))
   case first=>
    go_region_held3 (fun w'=>w'.cell? ⟨w2,0,none⟩=some (I aA)∧w'.cell? ⟨w2,1,none⟩=some (I aB)∧w'.cell? ⟨w2,2,none⟩=some (.slice q xs c)∧w'.cell? ⟨b2,z+k*2,none⟩=some (I f)∧w'.cell? ⟨b2,z+k*2+1,none⟩=some (I t))
     (first|(refine⟨?_,?_,?_,?_,?_⟩<;>assumption)|go_keep)
     ((go_at_call 61
       refine(HD _ xE).mono ?_;rintro e w5 ⟨q5,c5,rfl,o5,be⟩;have ae:Ext wr w5:=xE;obtain⟨g0,g1,g2⟩:=(h.out.ext ae).tri;have g3:w5.cell? ⟨b2,z+k*2,none⟩=some (I f):=(ae.cells.1 _ _ bb).trans d0;have g4:w5.cell? ⟨b2,z+k*2+1,none⟩=some (I t):=(ae.cells.1 _ _ bb).trans d1
       first
        |(have a3:Ext (wr.alloc (.cells #[(),(),((),())] TH3)) w5:=be
          have BB:=(Blk.new wr TH3 #[(),(),((),())]).ext a3;obtain⟨bt,ak,bu,al,bv,_⟩:=BB.trif
          have am:w5.frozen? ⟨wr,2,none⟩=false:=BB.frozen 2)
        |(have a3:Ext (wr.alloc (.cells #[(),(),((),())] TH3)) w5:=be.of_drew
          have BB:=(Blk.new wr TH3 #[(),(),((),())]).ext a3;obtain⟨bt,ak,bu,al,bv,_⟩:=BB.trif
          have am:w5.frozen? ⟨wr,2,none⟩=false:=BB.frozen 2)
        |skip))
    ·go_wp2_with fail;go_meet;exact⟨w5.heap.size,q5,c5,rfl,rfl,by exact .alloc ae _,by have:=ae.sz;omega,Blk.new _ _ _,bF (by exact o5.alloc _) (by simp)⟩
    have hR:ExtR wr w5 _:=(((ExtR.refl wr w5).setCell (p:=⟨wr,0,none⟩) (.inl rfl) (I aA)).setCell (p:=⟨wr,1,none⟩) (.inl rfl) (I aB)).setCell (p:=⟨wr,2,none⟩) (.inl rfl) (.slice q5 xs c5);have hY:=((BB.set 0 (I aA)).set 1 (I aB)).set 2 (.slice q5 xs c5);simp only[aKe,aKf,aKc]at hY;go_wp2_with fail;go_meet;exact⟨wr.heap.size,q5,c5,rfl,rfl,ExtR.new ae hR (aK1 _),aK1 _,hY,bF (o5.kept hR (.inr (cV o5 BB (by decide)))) (by simp)⟩
   case rest=>
    clear v0 v1 v2 n2 n4 d0 d1;obtain⟨a,q5,c5,rfl,rfl,j,ha,ao,aq⟩:=hcut;cases bm with
    |true=>
     have d:=ah.out;rw[if_pos rfl]at d;have ad:aV aA aB xs (l.take (k+1))=(zs,k+1):=d;have ad:=xQ ad;clear d;have n:=xQ (h.out.ext j);have u:=xQ (r.out.ext j);have an:=xQ ao;have s:=xQ (y.trans j);have af:=xQ (aY HO j);have ag:=xQ (bF aq (show w1.heap.size≤wr.heap.size by omega));clear h r ao y HO aq;have z0:=j.sz;obtain⟨v0,bq,v1,br,v2,bs⟩:=n.out.trif;obtain⟨a0,a1,a2⟩:=an.out.tri;go_wp2;clear af;have y1:=((n.out.set 0 (I aA)).set 1 (I aB)).set 2 (.slice q5 xs c5);simp only[aKe,aKf,aKc]at y1;generalize g:World.setCell _ _ _=w1;rw[g]at y1;have b:ExtR w2 wc w1:=by rw[←g];exact(((ExtR.refl w2 wc).setCell (p:=⟨w2,0,none⟩) (.inl rfl) (I aA)).setCell (p:=⟨w2,1,none⟩) (.inl rfl) (I aB)).setCell (p:=⟨w2,2,none⟩) (.inl rfl) (.slice q5 xs c5)
     clear g;have z1:(wc:Nat)≤w1:=b.sz;have aa:=xQ (y1);have x:=xQ (show Blk w1 (w.heap.size+1) _ _ from(b.block _ u.out.lt (by first|(simp;done)|(simp;omega))).trans u.out);have o:=xQ (ExtR.new s b (by omega));have bi:=xQ (ag.out.kept b (.inr (cV ag n.out (by decide))));clear n u an s ag b y1;have aj:(w2:Nat)<w1:=aa.out.lt;clear v0 bq v1 br v2 bs a0 a1 a2;go_roundw
     case rel=>exact⟨k+1,q5,c5,by omega,by go_num,by rw[ad.out],by rw[ad.out];exact bi.out,o.out,aa.out,x.out,by omega⟩
     case measure=>simp[intOf];omega
    |false=>
     have d:=ah.out;rw[if_neg (by simp)]at d;have ad:Hid (aV aA aB xs l=(ys,k)):=by
      show _=_;have ap:(l.take (k+1)).length=k+1:=by rw[aKs,hl.out];omega
      have:=uC (aA:=aA) (aB:=aB) (l.take (k+1)) (l.drop (k+1)) xs (by rw[d,ap];exact Nat.lt_succ_self k);rw[List.take_append_drop,d]at this;exact this
     clear d;have n:=xQ (h.out.ext j);have u:=xQ (r.out.ext j);have an:=xQ ao;have s:=xQ (y.trans j);have af:=xQ (aY HO j);have ag:=xQ (bF aq (show w1.heap.size≤wr.heap.size by omega));clear h r ao y HO aq;have z0:=j.sz;obtain⟨v0,v1,v2⟩:=n.out.tri;obtain⟨z0,ak,z1,al,z2,am⟩:=u.out.trif;go_wp2;clear ag;have y1:=((u.out.set 0 (I aA)).set 1 (I aB)).set 2 (.slice q xs c);simp only[aKe,aKf,aKc]at y1;generalize g:World.setCell _ _ _=w1;rw[g]at y1;have b:ExtR (w.heap.size+1) wc w1:=by rw[←g];exact(((ExtR.refl (w.heap.size+1) wc).setCell (p:=⟨w.heap.size+1,0,none⟩) (.inl rfl) (I aA)).setCell (p:=⟨w.heap.size+1,1,none⟩) (.inl rfl) (I aB)).setCell (p:=⟨w.heap.size+1,2,none⟩) (.inl rfl) (.slice q xs c)
     clear g;have z1:(wc:Nat)≤w1:=b.sz;have aa:=xQ (show Blk w1 w2 _ _ from(b.block _ n.out.lt (by first|(simp;done)|(simp;omega))).trans n.out);have x:=xQ (y1);have o:=xQ (ExtR.new s b (by omega));have ax:=xQ (af.out.kept b (.inr (cV af u.out (by decide))));clear n u an s af b y1;have aj:(w2:Nat)<w1:=aa.out.lt;clear v0 v1 v2 z0 ak z1 al z2 am;obtain⟨y0,y1,y2⟩:=x.out.tri;exact bodyPost_ret (v:= .tuple #[.agg #[aA,aB,.slice q xs c],k]) (by simp[results,results92,go_sem, *]) rfl (by rw[ad.out];exact dX aw (bF ax (by omega)) o.out)
  have bd:Hid (aV aA aB xs l=((aV aA aB xs (l.take k)).1,k)):=by have e1:l.take k=l:=aKb (by rw[hl.out];omega);have e2:=ar.out;show _=_;rw[e1]at e2⊢;exact Prod.ext rfl e2
  have bj:k=m:=by omega
  subst bj;have a4:=xQ y;clear y;obtain⟨v0,v1,v2⟩:=h.out.tri;obtain⟨z0,ak,z1,al,z2,am⟩:=r.out.trif;go_wp2;have y1:=((r.out.set 0 (I aA)).set 1 (I aB)).set 2 (.slice q xs c);simp only[aKe,aKf,aKc]at y1;generalize g:World.setCell _ _ _=w1;rw[g]at y1;have b:ExtR (w.heap.size+1) wr w1:=by rw[←g];exact(((ExtR.refl (w.heap.size+1) wr).setCell (p:=⟨w.heap.size+1,0,none⟩) (.inl rfl) (I aA)).setCell (p:=⟨w.heap.size+1,1,none⟩) (.inl rfl) (I aB)).setCell (p:=⟨w.heap.size+1,2,none⟩) (.inl rfl) (.slice q xs c)
  clear g;have z1:(wr:Nat)≤w1:=b.sz;have aa:=xQ (show Blk w1 w2 _ _ from(b.block _ h.out.lt (by first|(simp;done)|(simp;omega))).trans h.out);have x:=xQ (y1);have o:=xQ (ExtR.new a4 b (by omega));have ax:=xQ (HO.out.kept b (.inr (cV HO r.out (by decide))));clear h r a4 HO b y1;have aj:(w2:Nat)<w1:=aa.out.lt;clear v0 v1 v2 z0 ak z1 al z2 am;obtain⟨y0,y1,y2⟩:=x.out.tri;exact bodyPost_ret (v:= .tuple #[.agg #[aA,aB,.slice q xs c],k]) (by simp[results,results92,go_sem, *]) rfl (by rw[bd.out];exact dX aw (bF ax (by omega)) o.out)
theorem oY (aA aB:Int)(p:OA)(n a:Nat)(xs:List Int)(lq:OA)(m lc:Nat)(l:List Sl2)(w:World)(hm:m≤60)(hS:Sl w p n a 1 (ivs xs))(hL:Sl w lq m lc 2 (l.flatMap aK))(b:aN aA aB xs=true):
  U 92 #[aH aA aB p n a,.slice lq m lc] w (cF aA aB (aV aA aB xs l).1 ((aV aA aB xs l).2:Nat) w):=by
 have hl:=hS.ilen;subst hl;obtain⟨g1,g2,g3,g4,g5,g6,g7,g8,g9⟩:=bL b;have HV:=fun(w':World) (hy:Ext w w')=>fM aA aB p xs.length a xs w' (hS.ext hy)
 rw[b]at HV;exact aFe aA aB p a xs lq m lc l w g5 g6 hm b hL HV (fun(w':World) (hy:Ext w w')=>eT aA aB p xs.length a xs w' (by omega) (hS.ext hy))
end
end Go.Proofs.YtbgkcehffiogcaaGreatDoor
