/-
  Texts of this proof, packed (@packed).
-/
import Derived.Test.YtpelpnfhbepokaaGreatDoorU8
namespace Go.Proofs.YtpelpnfhbepokaaGreatDoor
open Go.RowKit
set_option linter.unusedVariables false
set_option linter.unusedSimpArgs false
set_option maxHeartbeats 8000000
set_option maxRecDepth 100000
def cP (aA aB:Int)(xs:List Int)(id:Int):List Int×Bool:=if xs.getD 0 0=0∧1≤id∧aN aA aB (xs.set 0 id)=true then(xs.set 0 id,true)else(xs,false)
def cM (aA aB:Int)(xs:List Int)(i:Int)(w:World)(e:Ending)(w':World):Prop:=
 ∃p cap,e= .returned (.tuple #[aH aA aB p xs.length cap,i])∧w'.ownsRow w.heap.size TI 1 (.slice p xs.length cap) xs.length (ivs xs)∧Ext w w'
theorem eD {aA aB:Int}{p:OA}{n cap:Nat}{xs:List Int}{i:Int}{w w':World}(hn:xs.length=n)(ho:w'.ownsRow w.heap.size TI 1 (.slice p n cap) n (ivs xs))(hx:Ext w w'):cM aA aB xs i w (.returned (.tuple #[aH aA aB p n cap,i])) w':=by subst hn;exact⟨p,cap,rfl,ho,hx⟩
theorem aBg (aA aB id:Int)(b a cap:Nat)(x:Int)(xs:List Int)(w:World)(ap:4≤xs.length)(hn:xs.length≤12)(am:Hid (xs[0]? =some x)) (hb:b<w.heap.size) (ad:Hid (w.cell? ⟨b,a,none⟩=some (.int .i64 x))) (aq:(x !=0)=true)
  (HI:Hid (∀w,Calls Tryz.prog 43 #[(),(),((xs.length:Int)-1:Int)] w fun e w'=>e= .returned (.bool true)∧w=w'))
  (HV:xB 41 #[aH aA aB (some ⟨b,a,none⟩) xs.length cap] w true)
  (HC:Hid (∀w',Ext w w'→Calls Tryz.prog 81 #[aH aA aB (some ⟨b,a,none⟩) xs.length cap] w' (dK aA aB xs w'))):
  Calls Tryz.prog 133 #[aH aA aB (some ⟨b,a,none⟩) xs.length cap,(),id] w (cN aA aB xs false w):=by
 go_enter Tryz.func133,Tryz.ntmps133;have z:=xQ (Ext.refl w);go_wp2_with fail;refine(HV _ (by exact .alloc (.alloc (.refl _) _) _)).mono ?_;rintro e w1 ⟨rfl,h⟩;have ab:Ext w w1:=(((Ext.refl _).alloc _).alloc _).trans h;have z1:w.heap.size+2≤w1.heap.size:=by have:=h.sz;(try simp at this);omega
 have m:=xQ (z.out.trans ab);clear z;have i:=xQ (show Blk w1 (w.heap.size) TH3 #[aA,aB,.slice (some ⟨b,a,none⟩) xs.length cap] by have:=((Blk.new w TH3 #[aA,aB,.slice (some ⟨b,a,none⟩) xs.length cap]).alloc _).ext h;simpa using this);have n:=xQ (show Blk w1 (w.heap.size+1) TH3 #[(),(),((),())] by have:=(Blk.new (w.alloc (.cells #[aA,aB,.slice (some ⟨b,a,none⟩) xs.length cap] TH3)) TH3 #[(),(),((),())]).ext h;simpa using this);clear ab;have s:w.heap.size<w1.heap.size:=i.out.lt;have u:w.heap.size+1<w1.heap.size:=n.out.lt;clear h;obtain⟨c0,c1,c2⟩:=i.out.tri;go_wp2_with fail;clear c0 c1 c2;refine(HC _ m.out).mono ?_;rintro e w2 ⟨q,cq,rfl,ho,r⟩;have k:Ext w1 w2:=by exact r
 have z2:w1.heap.size+0≤w2.heap.size:=by have:=r.sz;(try simp at this);omega
 have j:=xQ (m.out.trans k);have c:=xQ (i.out.ext k);have d:=xQ (n.out.ext k);clear m i n k s;have t:w.heap.size<w2.heap.size:=c.out.lt;clear u;have y:w.heap.size+1<w2.heap.size:=d.out.lt;obtain⟨g,rfl,an,ao⟩:=eG ho (by omega);have l:=xQ (ho);clear r ho;have cx:w2.cell? ⟨b,a,none⟩=some (.int .i64 x):=(Ext.cells j.out).1 _ _ hb |>.trans ad.out;have lb:b<w2.heap.size:=Nat.lt_of_lt_of_le hb j.out.sz;have ar:w.heap.size<w2.heap.size:=by omega
 obtain⟨c0,c1,c2⟩:=c.out.tri;obtain⟨z0,aj,z1,ak,z2,al⟩:=d.out.trif;go_wp2_with ((go_at_call 43;(with_reducible refine(HI _).mono ?_);rintro e w9 ⟨rfl,rfl⟩));clear cx c0 c1 c2 z0 aj z1 ak z2 al;have y3:=((d.out.set 0 (.int .i64 aA)).set 1 (.int .i64 aB)).set 2 (.slice (some ⟨g,0,none⟩) xs.length cq);simp only[List.setIfInBounds_toArray,List.set_cons_zero,List.set_cons_succ]at y3;generalize o:World.setCell _ _ _=w3;rw[o]at y3;have f:ExtR (w.heap.size+1) w2 w3:=by rw[←o];exact(((ExtR.refl (w.heap.size+1) w2).setCell (p:=⟨w.heap.size+1,0,none⟩) (.inl rfl) (.int .i64 aA)).setCell (p:=⟨w.heap.size+1,1,none⟩) (.inl rfl) (.int .i64 aB)).setCell (p:=⟨w.heap.size+1,2,none⟩) (.inl rfl) (.slice (some ⟨g,0,none⟩) xs.length cq)
 clear o;have z3:w2.heap.size≤w3.heap.size:=f.sz;have ag:=xQ (ExtR.new j f (by omega));have ae:=xQ (show Blk w3 (w.heap.size) _ _ from(f.block _ c.out.lt (by first|(simp;done)|(simp;omega))).trans c.out);have aa:=xQ (y3);have af:=xQ (l.out.kept f (.inr (dD l d.out (by decide))));clear j c d l f y3 t;have ah:w.heap.size<w3.heap.size:=ae.out.lt;clear y;have ai:w.heap.size+1<w3.heap.size:=aa.out.lt;obtain⟨y0,y1,y2⟩:=aa.out.tri;exact bodyPost_ret (v:= .tuple #[.agg #[aA,aB,.slice (some ⟨g,0,none⟩) xs.length cq],.bool false]) (by simp[results,Tryz.results133,go_sem, *]) rfl (dR (by simp) (bK (af.out.alloc _) (by omega)) (ag.out.alloc _))
theorem aGq (aA aB id:Int)(b a cap:Nat)(x:Int)(xs:List Int)(w:World)(aq:4≤xs.length)(hn:xs.length≤12)(am:Hid (xs[0]? =some x)) (hb:b<w.heap.size) (ad:Hid (w.cell? ⟨b,a,none⟩=some (.int .i64 x))) (ar:(x !=0)=false) (ap:id<1)
  (HI:Hid (∀w,Calls Tryz.prog 43 #[(),(),((xs.length:Int)-1:Int)] w fun e w'=>e= .returned (.bool true)∧w=w'))
  (HV:xB 41 #[aH aA aB (some ⟨b,a,none⟩) xs.length cap] w true)
  (HC:Hid (∀w',Ext w w'→Calls Tryz.prog 81 #[aH aA aB (some ⟨b,a,none⟩) xs.length cap] w' (dK aA aB xs w'))):
  Calls Tryz.prog 133 #[aH aA aB (some ⟨b,a,none⟩) xs.length cap,(),id] w (cN aA aB xs false w):=by
 go_enter Tryz.func133,Tryz.ntmps133;have z:=xQ (Ext.refl w);go_wp2_with fail;refine(HV _ (by exact .alloc (.alloc (.refl _) _) _)).mono ?_;rintro e w1 ⟨rfl,h⟩;have ab:Ext w w1:=(((Ext.refl _).alloc _).alloc _).trans h;have z1:w.heap.size+2≤w1.heap.size:=by have:=h.sz;(try simp at this);omega
 have m:=xQ (z.out.trans ab);clear z;have i:=xQ (show Blk w1 (w.heap.size) TH3 #[aA,aB,.slice (some ⟨b,a,none⟩) xs.length cap] by have:=((Blk.new w TH3 #[aA,aB,.slice (some ⟨b,a,none⟩) xs.length cap]).alloc _).ext h;simpa using this);have n:=xQ (show Blk w1 (w.heap.size+1) TH3 #[(),(),((),())] by have:=(Blk.new (w.alloc (.cells #[aA,aB,.slice (some ⟨b,a,none⟩) xs.length cap] TH3)) TH3 #[(),(),((),())]).ext h;simpa using this);clear ab;have s:w.heap.size<w1.heap.size:=i.out.lt;have u:w.heap.size+1<w1.heap.size:=n.out.lt;clear h;obtain⟨c0,c1,c2⟩:=i.out.tri;go_wp2_with fail;clear c0 c1 c2;refine(HC _ m.out).mono ?_;rintro e w2 ⟨q,cq,rfl,ho,r⟩;have k:Ext w1 w2:=by exact r
 have z2:w1.heap.size+0≤w2.heap.size:=by have:=r.sz;(try simp at this);omega
 have j:=xQ (m.out.trans k);have c:=xQ (i.out.ext k);have d:=xQ (n.out.ext k);clear m i n k s;have t:w.heap.size<w2.heap.size:=c.out.lt;clear u;have y:w.heap.size+1<w2.heap.size:=d.out.lt;obtain⟨g,rfl,an,ao⟩:=eG ho (by omega);have l:=xQ (ho);clear r ho;have cx:w2.cell? ⟨b,a,none⟩=some (.int .i64 x):=(Ext.cells j.out).1 _ _ hb |>.trans ad.out;have lb:b<w2.heap.size:=Nat.lt_of_lt_of_le hb j.out.sz;have au:w.heap.size<w2.heap.size:=by omega
 obtain⟨c0,c1,c2⟩:=c.out.tri;obtain⟨z0,aj,z1,ak,z2,al⟩:=d.out.trif;go_wp2_with ((go_at_call 43;(with_reducible refine(HI _).mono ?_);rintro e w9 ⟨rfl,rfl⟩));clear cx c0 c1 c2 z0 aj z1 ak z2 al;have y3:=((d.out.set 0 (.int .i64 aA)).set 1 (.int .i64 aB)).set 2 (.slice (some ⟨g,0,none⟩) xs.length cq);simp only[List.setIfInBounds_toArray,List.set_cons_zero,List.set_cons_succ]at y3;generalize o:World.setCell _ _ _=w3;rw[o]at y3;have f:ExtR (w.heap.size+1) w2 w3:=by rw[←o];exact(((ExtR.refl (w.heap.size+1) w2).setCell (p:=⟨w.heap.size+1,0,none⟩) (.inl rfl) (.int .i64 aA)).setCell (p:=⟨w.heap.size+1,1,none⟩) (.inl rfl) (.int .i64 aB)).setCell (p:=⟨w.heap.size+1,2,none⟩) (.inl rfl) (.slice (some ⟨g,0,none⟩) xs.length cq)
 clear o;have z3:w2.heap.size≤w3.heap.size:=f.sz;have ag:=xQ (ExtR.new j f (by omega));have ae:=xQ (show Blk w3 (w.heap.size) _ _ from(f.block _ c.out.lt (by first|(simp;done)|(simp;omega))).trans c.out);have aa:=xQ (y3);have af:=xQ (l.out.kept f (.inr (dD l d.out (by decide))));clear j c d l f y3 t;have ah:w.heap.size<w3.heap.size:=ae.out.lt;clear y;have ai:w.heap.size+1<w3.heap.size:=aa.out.lt;obtain⟨y0,y1,y2⟩:=aa.out.tri;exact bodyPost_ret (v:= .tuple #[.agg #[aA,aB,.slice (some ⟨g,0,none⟩) xs.length cq],.bool false]) (by simp[results,Tryz.results133,go_sem, *]) rfl (dR (by simp) (bK (af.out.alloc _) (by omega)) (ag.out.alloc _))
theorem aDr (aA aB id:Int)(b a cap:Nat)(x:Int)(xs:List Int)(w:World)(bj:4≤xs.length)(hn:xs.length≤12)(a0:Hid (xs[0]? =some x)) (hb:b<w.heap.size) (ay:Hid (w.cell? ⟨b,a,none⟩=some (.int .i64 x))) (bk:(x !=0)=false) (bi:1≤id)
  (HI:Hid (∀w,Calls Tryz.prog 43 #[(),(),((xs.length:Int)-1:Int)] w fun e w'=>e= .returned (.bool true)∧w=w'))
  (az:Hid (∀w' q c,Sl w' q xs.length c 1 (ivs (xs.set 0 id))→Calls Tryz.prog 41 #[aH aA aB q xs.length c] w' fun e w''=>e= .returned (.bool true)∧Ext w' w''))
  (HV:xB 41 #[aH aA aB (some ⟨b,a,none⟩) xs.length cap] w true)
  (HC:Hid (∀w',Ext w w'→Calls Tryz.prog 81 #[aH aA aB (some ⟨b,a,none⟩) xs.length cap] w' (dK aA aB xs w'))):
  Calls Tryz.prog 133 #[aH aA aB (some ⟨b,a,none⟩) xs.length cap,(),id] w (cN aA aB (xs.set 0 id) true w):=by
 have be:decide (id<1)=false:=by simp;omega
 go_enter Tryz.func133,Tryz.ntmps133;have ar:=xQ (Ext.refl w);go_wp2_with fail;refine(HV _ (by exact .alloc (.alloc (.refl _) _) _)).mono ?_;rintro e w1 ⟨rfl,k⟩;have ax:Ext w w1:=(((Ext.refl _).alloc _).alloc _).trans k;have z1:w.heap.size+2≤w1.heap.size:=by have:=k.sz;(try simp at this);omega
 have ad:=xQ (ar.out.trans ax);clear ar;have m:=xQ (show Blk w1 (w.heap.size) TH3 #[aA,aB,.slice (some ⟨b,a,none⟩) xs.length cap] by have:=((Blk.new w TH3 #[aA,aB,.slice (some ⟨b,a,none⟩) xs.length cap]).alloc _).ext k;simpa using this);have ae:=xQ (show Blk w1 (w.heap.size+1) TH3 #[(),(),((),())] by have:=(Blk.new (w.alloc (.cells #[aA,aB,.slice (some ⟨b,a,none⟩) xs.length cap] TH3)) TH3 #[(),(),((),())]).ext k;simpa using this);clear ax;have ai:w.heap.size<w1.heap.size:=m.out.lt;have an:w.heap.size+1<w1.heap.size:=ae.out.lt;clear k;obtain⟨c0,c1,c2⟩:=m.out.tri;go_wp2_with fail;clear c0 c1 c2;refine(HC _ ad.out).mono ?_;rintro e w2 ⟨q,cq,rfl,ho,ah⟩;have u:Ext w1 w2:=by exact ah
 have z2:w1.heap.size+0≤w2.heap.size:=by have:=ah.sz;(try simp at this);omega
 have o:=xQ (ad.out.trans u);have f:=xQ (m.out.ext u);have r:=xQ (ae.out.ext u);clear ad m ae u ai;have aj:w.heap.size<w2.heap.size:=f.out.lt;clear an;have ao:w.heap.size+1<w2.heap.size:=r.out.lt;obtain⟨g,rfl,bg,bh⟩:=eG ho (by omega);have h:=xQ (ho);clear ah ho;have cx:w2.cell? ⟨b,a,none⟩=some (.int .i64 x):=(Ext.cells o.out).1 _ _ hb |>.trans ay.out;have lb:b<w2.heap.size:=Nat.lt_of_lt_of_le hb o.out.sz;have bl:w.heap.size<w2.heap.size:=by omega
 obtain⟨c0,c1,c2⟩:=f.out.tri;have a9:w2.cell? ⟨g,0,none⟩=some (.int .i64 x):=by have:=h.out.cellAt 0 (by omega);rw[this];simpa[ivs]using a0.out
 have ba:w2.frozen? ⟨g,0,none⟩=false:=h.out.frozenAt 0;have bf:g≠w2.heap.size:=by omega
 go_upto_region 7 with((go_at_call 43;(with_reducible refine(HI _).mono ?_);rintro e w9 ⟨rfl,rfl⟩));clear cx a9 ba c0 c1 c2;have y3:=(h.out.stored (0) (.int .i64 id)).1;have s:ExtR (g) w2 _:=(h.out.stored (0) (.int .i64 id)).2;have y:(World.setCell w2 ⟨g,0,none⟩ (.int .i64 id)).heap.size=w2.heap.size:=by simp
 generalize a5:World.setCell _ _ _=w3 at*;rw[←y];clear a5;have z3:w2.heap.size≤w3.heap.size:=Nat.le_of_eq y.symm;have bm:w3.heap.size≤w2.heap.size:=Nat.le_of_eq y;clear y;have au:=xQ (ExtR.new o s (by omega));have z:=xQ (show Blk w3 (w.heap.size) _ _ from(s.block _ f.out.lt (by first|(simp;done)|(simp;omega))).trans f.out);have af:=xQ (show Blk w3 (w.heap.size+1) _ _ from(s.block _ r.out.lt (by first|(simp;done)|(simp;omega))).trans r.out);have aa:=xQ (y3);clear o f r h s y3 aj;have ak:w.heap.size<w3.heap.size:=z.out.lt;clear ao;have ap:w.heap.size+1<w3.heap.size:=af.out.lt;go_wp2_with fail;refine(az (w3.alloc (.cells #[aA,aB,.slice (some ⟨g,0,none⟩) xs.length cq] TH3)) _ _ (by rw[←dN];exact Sl.own (aa.out.alloc _))).mono ?_;rintro e w4 ⟨rfl,t⟩;have l:Ext w3 w4:=((Ext.refl _).alloc _).trans t;have z4:w3.heap.size+1≤w4.heap.size:=by have:=t.sz;(try simp at this);omega
 have av:=xQ (au.out.trans l);have n:=xQ (z.out.ext l);have j:=xQ (af.out.ext l);have ab:=xQ (bD aa l);clear au z af aa;have i:=xQ (show Blk w4 (w3.heap.size) TH3 #[aA,aB,.slice (some ⟨g,0,none⟩) xs.length cq] by have:=(Blk.new w3 TH3 #[aA,aB,.slice (some ⟨g,0,none⟩) xs.length cq]).ext t;simpa using this);clear l ak;have al:w.heap.size<w4.heap.size:=n.out.lt;clear ap;have aq:w.heap.size+1<w4.heap.size:=j.out.lt;have am:w3.heap.size<w4.heap.size:=i.out.lt;clear t;obtain⟨v0,v1,v2⟩:=i.out.tri;obtain⟨z0,bb,z1,bc,z2,bd⟩:=j.out.trif;go_wp2;have y5:=((j.out.set 0 (.int .i64 aA)).set 1 (.int .i64 aB)).set 2 (.slice (some ⟨g,0,none⟩) xs.length cq);simp only[List.setIfInBounds_toArray,List.set_cons_zero,List.set_cons_succ]at y5;generalize ag:World.setCell _ _ _=w5;rw[ag]at y5;have d:ExtR (w.heap.size+1) w4 w5:=by rw[←ag];exact(((ExtR.refl (w.heap.size+1) w4).setCell (p:=⟨w.heap.size+1,0,none⟩) (.inl rfl) (.int .i64 aA)).setCell (p:=⟨w.heap.size+1,1,none⟩) (.inl rfl) (.int .i64 aB)).setCell (p:=⟨w.heap.size+1,2,none⟩) (.inl rfl) (.slice (some ⟨g,0,none⟩) xs.length cq)
 clear ag;have z5:w4.heap.size≤w5.heap.size:=d.sz;have a4:=xQ (ExtR.new av d (by omega));have a1:=xQ (show Blk w5 (w.heap.size) _ _ from(d.block _ n.out.lt (by first|(simp;done)|(simp;omega))).trans n.out);have aw:=xQ (y5);have a2:=xQ (ab.out.kept d (.inr (dD ab j.out (by decide))));have a3:=xQ (show Blk w5 (w3.heap.size) _ _ from(d.block _ i.out.lt (by first|(simp;done)|(simp;omega))).trans i.out);clear av n j ab i d y5 al;have a6:w.heap.size<w5.heap.size:=a1.out.lt;clear aq;have a8:w.heap.size+1<w5.heap.size:=aw.out.lt;clear am;have a7:w3.heap.size<w5.heap.size:=a3.out.lt;clear v0 v1 v2 z0 bb z1 bc z2 bd;obtain⟨y0,y1,y2⟩:=aw.out.tri;exact bodyPost_ret (v:= .tuple #[.agg #[aA,aB,.slice (some ⟨g,0,none⟩) xs.length cq],.bool true]) (by simp[results,Tryz.results133,go_sem, *]) rfl (dR (by simp) (bK (by rw[←dN];exact a2.out) (by omega)) a4.out)
theorem aDs (aA aB id:Int)(b a cap:Nat)(x:Int)(xs:List Int)(w:World)(bu:4≤xs.length)(hn:xs.length≤12)(bb:Hid (xs[0]? =some x)) (hb:b<w.heap.size) (a9:Hid (w.cell? ⟨b,a,none⟩=some (.int .i64 x))) (bv:(x !=0)=false) (bt:1≤id)
  (HI:Hid (∀w,Calls Tryz.prog 43 #[(),(),((xs.length:Int)-1:Int)] w fun e w'=>e= .returned (.bool true)∧w=w'))
  (ba:Hid (∀w' q c,Sl w' q xs.length c 1 (ivs (xs.set 0 id))→Calls Tryz.prog 41 #[aH aA aB q xs.length c] w' fun e w''=>e= .returned (.bool false)∧Ext w' w''))
  (HV:xB 41 #[aH aA aB (some ⟨b,a,none⟩) xs.length cap] w true)
  (HC:Hid (∀w',Ext w w'→Calls Tryz.prog 81 #[aH aA aB (some ⟨b,a,none⟩) xs.length cap] w' (dK aA aB xs w'))):
  Calls Tryz.prog 133 #[aH aA aB (some ⟨b,a,none⟩) xs.length cap,(),id] w (cN aA aB xs false w):=by
 have bp:decide (id<1)=false:=by simp;omega
 go_enter Tryz.func133,Tryz.ntmps133;have a4:=xQ (Ext.refl w);go_wp2_with fail;refine(HV _ (by exact .alloc (.alloc (.refl _) _) _)).mono ?_;rintro e w1 ⟨rfl,l⟩;have a8:Ext w w1:=(((Ext.refl _).alloc _).alloc _).trans l;have z1:w.heap.size+2≤w1.heap.size:=by have:=l.sz;(try simp at this);omega
 have ag:=xQ (a4.out.trans a8);clear a4;have n:=xQ (show Blk w1 (w.heap.size) TH3 #[aA,aB,.slice (some ⟨b,a,none⟩) xs.length cap] by have:=((Blk.new w TH3 #[aA,aB,.slice (some ⟨b,a,none⟩) xs.length cap]).alloc _).ext l;simpa using this);have ai:=xQ (show Blk w1 (w.heap.size+1) TH3 #[(),(),((),())] by have:=(Blk.new (w.alloc (.cells #[aA,aB,.slice (some ⟨b,a,none⟩) xs.length cap] TH3)) TH3 #[(),(),((),())]).ext l;simpa using this);clear a8;have ao:w.heap.size<w1.heap.size:=n.out.lt;have ax:w.heap.size+1<w1.heap.size:=ai.out.lt;clear l;obtain⟨c0,c1,c2⟩:=n.out.tri;go_wp2_with fail;clear c0 c1 c2;refine(HC _ ag.out).mono ?_;rintro e w2 ⟨q,cq,rfl,ho,am⟩;have aa:Ext w1 w2:=by exact am
 have z2:w1.heap.size+0≤w2.heap.size:=by have:=am.sz;(try simp at this);omega
 have t:=xQ (ag.out.trans aa);have h:=xQ (n.out.ext aa);have u:=xQ (ai.out.ext aa);clear ag n ai aa ao;have ap:w.heap.size<w2.heap.size:=h.out.lt;clear ax;have ay:w.heap.size+1<w2.heap.size:=u.out.lt;obtain⟨g,rfl,br,bs⟩:=eG ho (by omega);have j:=xQ (ho);clear am ho;have cx:w2.cell? ⟨b,a,none⟩=some (.int .i64 x):=(Ext.cells t.out).1 _ _ hb |>.trans a9.out;have lb:b<w2.heap.size:=Nat.lt_of_lt_of_le hb t.out.sz;have bw:w.heap.size<w2.heap.size:=by omega
 obtain⟨c0,c1,c2⟩:=h.out.tri;have bk:w2.cell? ⟨g,0,none⟩=some (.int .i64 x):=by have:=j.out.cellAt 0 (by omega);rw[this];simpa[ivs]using bb.out
 have bl:w2.frozen? ⟨g,0,none⟩=false:=j.out.frozenAt 0;have bq:g≠w2.heap.size:=by omega
 go_upto_region 7 with((go_at_call 43;(with_reducible refine(HI _).mono ?_);rintro e w9 ⟨rfl,rfl⟩));clear cx bk bl c0 c1 c2;have y3:=(j.out.stored (0) (.int .i64 id)).1;have y:ExtR (g) w2 _:=(j.out.stored (0) (.int .i64 id)).2;have ab:(World.setCell w2 ⟨g,0,none⟩ (.int .i64 id)).heap.size=w2.heap.size:=by simp
 generalize bg:World.setCell _ _ _=w3 at*;rw[←ab];clear bg;have z3:w2.heap.size≤w3.heap.size:=Nat.le_of_eq ab.symm;have bx:w3.heap.size≤w2.heap.size:=Nat.le_of_eq ab;clear ab;have a5:=xQ (ExtR.new t y (by omega));have ad:=xQ (show Blk w3 (w.heap.size) _ _ from(y.block _ h.out.lt (by first|(simp;done)|(simp;omega))).trans h.out);have aj:=xQ (show Blk w3 (w.heap.size+1) _ _ from(y.block _ u.out.lt (by first|(simp;done)|(simp;omega))).trans u.out);have ae:=xQ (y3);clear t h u j y y3 ap;have aq:w.heap.size<w3.heap.size:=ad.out.lt;clear ay;have az:w.heap.size+1<w3.heap.size:=aj.out.lt;go_wp2_with fail;refine(ba (w3.alloc (.cells #[aA,aB,.slice (some ⟨g,0,none⟩) xs.length cq] TH3)) _ _ (by rw[←dN];exact Sl.own (ae.out.alloc _))).mono ?_;rintro e w4 ⟨rfl,z⟩;have m:Ext w3 w4:=((Ext.refl _).alloc _).trans z;have z4:w3.heap.size+1≤w4.heap.size:=by have:=z.sz;(try simp at this);omega
 have ah:=xQ (a5.out.trans m);have o:=xQ (ad.out.ext m);have ak:=xQ (aj.out.ext m);have a3:=xQ (bD ae m);clear a5 ad aj ae;have af:=xQ (show Blk w4 (w3.heap.size) TH3 #[aA,aB,.slice (some ⟨g,0,none⟩) xs.length cq] by have:=(Blk.new w3 TH3 #[aA,aB,.slice (some ⟨g,0,none⟩) xs.length cq]).ext z;simpa using this);clear m aq;have ar:w.heap.size<w4.heap.size:=o.out.lt;clear az;have a0:w.heap.size+1<w4.heap.size:=ak.out.lt;have av:w3.heap.size<w4.heap.size:=af.out.lt;clear z;obtain⟨h0,h1,h2⟩:=o.out.tri;go_wp2_with fail;clear h0 h1 h2;refine(HC _ ah.out).mono ?_;rintro e w5 ⟨q5,c5,rfl,o5,an⟩;have f:Ext w4 w5:=by exact an
 have z5:w4.heap.size+0≤w5.heap.size:=by have:=an.sz;(try simp at this);omega
 have a6:=xQ (ah.out.trans f);have r:=xQ (o.out.ext f);have k:=xQ (ak.out.ext f);have bd:=xQ (bD a3 f);have s:=xQ (af.out.ext f);clear ah o ak a3 af f ar;have au:w.heap.size<w5.heap.size:=r.out.lt;clear a0;have a1:w.heap.size+1<w5.heap.size:=k.out.lt;clear av;have aw:w3.heap.size<w5.heap.size:=s.out.lt;have i:=xQ (o5);clear an o5 bd;obtain⟨z0,bm,z1,bn,z2,bo⟩:=k.out.trif;go_wp2;have y6:=((k.out.set 0 (.int .i64 aA)).set 1 (.int .i64 aB)).set 2 (.slice q5 xs.length c5);simp only[List.setIfInBounds_toArray,List.set_cons_zero,List.set_cons_succ]at y6;generalize al:World.setCell _ _ _=w6;rw[al]at y6;have d:ExtR (w.heap.size+1) w5 w6:=by rw[←al];exact(((ExtR.refl (w.heap.size+1) w5).setCell (p:=⟨w.heap.size+1,0,none⟩) (.inl rfl) (.int .i64 aA)).setCell (p:=⟨w.heap.size+1,1,none⟩) (.inl rfl) (.int .i64 aB)).setCell (p:=⟨w.heap.size+1,2,none⟩) (.inl rfl) (.slice q5 xs.length c5)
 clear al;have z6:w5.heap.size≤w6.heap.size:=d.sz;have bf:=xQ (ExtR.new a6 d (by omega));have bc:=xQ (show Blk w6 (w.heap.size) _ _ from(d.block _ r.out.lt (by first|(simp;done)|(simp;omega))).trans r.out);have a7:=xQ (y6);have be:=xQ (show Blk w6 (w3.heap.size) _ _ from(d.block _ s.out.lt (by first|(simp;done)|(simp;omega))).trans s.out);have a2:=xQ (i.out.kept d (.inr (dD i k.out (by decide))));clear a6 r k s i d y6 au;have bh:w.heap.size<w6.heap.size:=bc.out.lt;clear a1;have bj:w.heap.size+1<w6.heap.size:=a7.out.lt;clear aw;have bi:w3.heap.size<w6.heap.size:=be.out.lt;clear z0 bm z1 bn z2 bo;obtain⟨y0,y1,y2⟩:=a7.out.tri;exact bodyPost_ret (v:= .tuple #[.agg #[aA,aB,.slice q5 xs.length c5],.bool false]) (by simp[results,Tryz.results133,go_sem, *]) rfl (dR (by simp) (bK (by exact a2.out) (by omega)) bf.out)
theorem aIw (aA aB:Int)(b a cap:Nat)(x:Int)(xs:List Int)(w:World)(bg:4≤xs.length)(hn:xs.length≤12)(ax:Hid (xs[0]? =some x)) (hb:b<w.heap.size) (ao:Hid (w.cell? ⟨b,a,none⟩=some (.int .i64 x)))
  (HI:Hid (∀w,Calls Tryz.prog 43 #[(),(),((xs.length:Int)-1:Int)] w fun e w'=>e= .returned (.bool true)∧w=w'))
  (HV:xB 41 #[aH aA aB (some ⟨b,a,none⟩) xs.length cap] w true)
  (HC:Hid (∀w',Ext w w'→Calls Tryz.prog 81 #[aH aA aB (some ⟨b,a,none⟩) xs.length cap] w' (dK aA aB xs w'))):
  Calls Tryz.prog 136 #[aH aA aB (some ⟨b,a,none⟩) xs.length cap,()] w (cM aA aB (xs.set 0 0) x w):=by
 go_enter Tryz.func136,Tryz.ntmps136;have aq:=xQ (Ext.refl w);go_wp2_with fail;refine(HV _ (by exact .alloc (.alloc (.refl _) _) _)).mono ?_;rintro e w1 ⟨rfl,k⟩;have aw:Ext w w1:=(((Ext.refl _).alloc _).alloc _).trans k;have z1:w.heap.size+2≤w1.heap.size:=by have:=k.sz;(try simp at this);omega
 have y:=xQ (aq.out.trans aw);clear aq;have l:=xQ (show Blk w1 (w.heap.size) TH3 #[aA,aB,.slice (some ⟨b,a,none⟩) xs.length cap] by have:=((Blk.new w TH3 #[aA,aB,.slice (some ⟨b,a,none⟩) xs.length cap]).alloc _).ext k;simpa using this);have aa:=xQ (show Blk w1 (w.heap.size+1) TH3 #[(),(),((),())] by have:=(Blk.new (w.alloc (.cells #[aA,aB,.slice (some ⟨b,a,none⟩) xs.length cap] TH3)) TH3 #[(),(),((),())]).ext k;simpa using this);clear aw;have af:w.heap.size<w1.heap.size:=l.out.lt;have ak:w.heap.size+1<w1.heap.size:=aa.out.lt;clear k;obtain⟨c0,c1,c2⟩:=l.out.tri;go_wp2_with fail;clear c0 c1 c2;refine(HC _ y.out).mono ?_;rintro e w2 ⟨q,cq,rfl,ho,ae⟩;have r:Ext w1 w2:=by exact ae
 have z2:w1.heap.size+0≤w2.heap.size:=by have:=ae.sz;(try simp at this);omega
 have m:=xQ (y.out.trans r);have d:=xQ (l.out.ext r);have n:=xQ (aa.out.ext r);clear y l aa r af;have ag:w.heap.size<w2.heap.size:=d.out.lt;clear ak;have al:w.heap.size+1<w2.heap.size:=n.out.lt;obtain⟨g,rfl,be,bf⟩:=eG ho (by omega);have h:=xQ (ho);clear ae ho;have cx:w2.cell? ⟨b,a,none⟩=some (.int .i64 x):=(Ext.cells m.out).1 _ _ hb |>.trans ao.out;have lb:b<w2.heap.size:=Nat.lt_of_lt_of_le hb m.out.sz;have bh:w.heap.size<w2.heap.size:=by omega
 obtain⟨c0,c1,c2⟩:=d.out.tri;have a7:w2.cell? ⟨g,0,none⟩=some (.int .i64 x):=by have:=h.out.cellAt 0 (by omega);rw[this];simpa[ivs]using ax.out
 have a8:w2.frozen? ⟨g,0,none⟩=false:=h.out.frozenAt 0;have bd:g≠w2.heap.size:=by omega
 go_upto_region 7 with((go_at_call 43;(with_reducible refine(HI _).mono ?_);rintro e w9 ⟨rfl,rfl⟩));clear cx a7 a8 c0 c1 c2;have y3:=(h.out.stored (0) (.int .i64 0)).1;have o:ExtR (g) w2 _:=(h.out.stored (0) (.int .i64 0)).2;have s:(World.setCell w2 ⟨g,0,none⟩ (.int .i64 0)).heap.size=w2.heap.size:=by simp
 generalize a2:World.setCell _ _ _=w3 at*;rw[←s];clear a2;have z3:w2.heap.size≤w3.heap.size:=Nat.le_of_eq s.symm;have bi:w3.heap.size≤w2.heap.size:=Nat.le_of_eq s;clear s;have ar:=xQ (ExtR.new m o (by omega));have t:=xQ (show Blk w3 (w.heap.size) _ _ from(o.block _ d.out.lt (by first|(simp;done)|(simp;omega))).trans d.out);have ab:=xQ (show Blk w3 (w.heap.size+1) _ _ from(o.block _ n.out.lt (by first|(simp;done)|(simp;omega))).trans n.out);have ap:=xQ (y3);clear m d n h o y3 ag;have ah:w.heap.size<w3.heap.size:=t.out.lt;clear al;have am:w.heap.size+1<w3.heap.size:=ab.out.lt;have hV:Blk (w3.alloc (.cells #[aA,aB,.slice (some ⟨g,0,none⟩) xs.length cq] TH3)) w3.heap.size TH3 #[aA,aB,.slice (some ⟨g,0,none⟩) xs.length cq]:=Blk.new _ _ _;generalize av:w3.alloc (.cells #[aA,aB,.slice (some ⟨g,0,none⟩) xs.length cq] TH3)=w4 at*;have e4:Ext w3 w4:=by rw[←av];exact(Ext.refl _).alloc _
 clear av;have z:=xQ (ar.out.trans e4);clear ar;have f:=xQ (t.out.ext e4);clear t;have j:=xQ (ab.out.ext e4);clear ab;have u:=xQ (bD ap e4);clear ap;have i:=xQ hV;clear hV e4 ah;have ai:w.heap.size<w4.heap.size:=f.out.lt;clear am;have an:w.heap.size+1<w4.heap.size:=j.out.lt;have aj:w3.heap.size<w4.heap.size:=i.out.lt;have cx:w4.cell? ⟨b,a,none⟩=some (.int .i64 x):=(Ext.cells z.out).1 _ _ hb |>.trans ao.out;have bc:0<xs.length:=by omega
 have a3:(0:Int)<(xs.length:Int):=by omega
 have n1: ¬(w3.heap.size=w.heap.size+1):=by omega
 have n2: ¬(w.heap.size+1=w3.heap.size):=by omega
 have n3: ¬(b=w.heap.size+1):=by omega
 have n4: ¬(w.heap.size+1=b):=by omega
 obtain⟨v0,v1,v2⟩:=i.out.tri;have c2:=f.out.cl 2;obtain⟨z0,a9,z1,ba,z2,bb⟩:=j.out.trif;go_region_held3 (fun w'=>w'.cell? ⟨w3.heap.size,0,none⟩=some (.int .i64 aA)∧w'.cell? ⟨w3.heap.size,1,none⟩=some (.int .i64 aB)∧w'.cell? ⟨w3.heap.size,2,none⟩=some (.slice (some ⟨g,0,none⟩) xs.length cq)∧w'.cell? ⟨w.heap.size,2,none⟩=some (.slice (some ⟨b,a,none⟩) xs.length cap)∧w'.cell? ⟨b,a,none⟩=some (.int .i64 x)) (first|(refine⟨?_,?_,?_,?_,?_⟩<;>assumption)|go_keep) (fail);go_wp2;have y5:=((j.out.set 0 (.int .i64 aA)).set 1 (.int .i64 aB)).set 2 (.slice (some ⟨g,0,none⟩) xs.length cq);simp only[List.setIfInBounds_toArray,List.set_cons_zero,List.set_cons_succ]at y5;generalize ad:World.setCell _ _ _=w5;rw[ad]at y5;have c:ExtR (w.heap.size+1) w4 w5:=by rw[←ad];exact(((ExtR.refl (w.heap.size+1) w4).setCell (p:=⟨w.heap.size+1,0,none⟩) (.inl rfl) (.int .i64 aA)).setCell (p:=⟨w.heap.size+1,1,none⟩) (.inl rfl) (.int .i64 aB)).setCell (p:=⟨w.heap.size+1,2,none⟩) (.inl rfl) (.slice (some ⟨g,0,none⟩) xs.length cq)
 clear ad;have z5:w4.heap.size≤w5.heap.size:=c.sz;have a1:=xQ (ExtR.new z c (by omega));have ay:=xQ (show Blk w5 (w.heap.size) _ _ from(c.block _ f.out.lt (by first|(simp;done)|(simp;omega))).trans f.out);have au:=xQ (y5);have az:=xQ (u.out.kept c (.inr (dD u j.out (by decide))));have a0:=xQ (show Blk w5 (w3.heap.size) _ _ from(c.block _ i.out.lt (by first|(simp;done)|(simp;omega))).trans i.out);clear z f j u i c y5 ai;have a4:w.heap.size<w5.heap.size:=ay.out.lt;clear an;have a6:w.heap.size+1<w5.heap.size:=au.out.lt;clear aj;have a5:w3.heap.size<w5.heap.size:=a0.out.lt;clear cx v0 v1 v2 c2 z0 a9 z1 ba z2 bb;obtain⟨y0,y1,y2⟩:=au.out.tri;exact bodyPost_ret (v:= .tuple #[.agg #[aA,aB,.slice (some ⟨g,0,none⟩) xs.length cq],x]) (by simp[results,Tryz.results136,go_sem, *]) rfl (eD (by simp) (bK (by rw[←dN];exact bD az (Ext.refl _).drew) (by omega)) a1.out.drew)
theorem aCu (aA aB id:Int)(p:OA)(n cap:Nat)(xs:List Int)(w:World)(hS:Sl w p n cap 1 (ivs xs))(f:aN aA aB xs=true):
  Calls Tryz.prog 133 #[aH aA aB p n cap,(),id] w (cN aA aB (cP aA aB xs id).1 (cP aA aB xs id).2 w):=by
 have hl:=hS.ilen;subst hl;obtain⟨g1,g2,g3,g4,g5,g6,g7,g8,g9⟩:=bQ f;obtain⟨b,a,x,rfl,hx,hb,hc⟩:=hS.int_at (k:=0) (by omega);have e:w.cell? ⟨b,a,none⟩=some (.int .i64 x):=by simpa using hc
 have g:xs.getD 0 0=x:=by rw[List.getD_eq_getElem?_getD,hx];rfl
 have HV:=fun(w':World) (hy:Ext w w')=>gZ aA aB _ xs.length cap xs w' (hS.ext hy)
 rw[f]at HV;have HC:=fun(w':World) (hy:Ext w w')=>fG aA aB _ xs.length cap xs w' (by omega) (hS.ext hy)
 have HI:=fun(w:World)=>mB 0 0 ((xs.length:Int)-1) w (by omega) (by omega)
 unfold cP;rw[g];by_cases e0:x=0
 ·have e1:(x !=0)=false:=by simp[e0]
  by_cases hi:1≤id
  ·have d:=fun(w':World) q c (h:Sl w' q xs.length c 1 (ivs (xs.set 0 id)))=>gZ aA aB q xs.length c (xs.set 0 id) w' h
   cases h2:aN aA aB (xs.set 0 id)with
   |true=>rw[h2]at d;rw[if_pos ⟨e0,hi,rfl⟩];exact aDr aA aB id b a cap x xs w g5 g6 hx hb e e1 hi HI d HV HC
   |false=>rw[h2]at d;rw[if_neg (by simp)];exact aDs aA aB id b a cap x xs w g5 g6 hx hb e e1 hi HI d HV HC
  rw[if_neg (fun h=>hi h.2.1)];exact aGq aA aB id b a cap x xs w g5 g6 hx hb e e1 (by omega) HI HV HC
 rw[if_neg (fun h=>e0 h.1)];exact aBg aA aB id b a cap x xs w g5 g6 hx hb e (by simpa using e0) HI HV HC
theorem aAr (aA aB:Int)(p:OA)(n cap:Nat)(xs:List Int)(w:World)(hS:Sl w p n cap 1 (ivs xs))(a:aN aA aB xs=true):
  Calls Tryz.prog 136 #[aH aA aB p n cap,()] w (cM aA aB (xs.set 0 0) (xs.getD 0 0) w):=by
 have hl:=hS.ilen;subst hl;obtain⟨g1,g2,g3,g4,g5,g6,g7,g8,g9⟩:=bQ a;obtain⟨b,c,x,rfl,hx,hb,hc⟩:=hS.int_at (k:=0) (by omega);have d:w.cell? ⟨b,c,none⟩=some (.int .i64 x):=by simpa using hc
 have e:xs.getD 0 0=x:=by rw[List.getD_eq_getElem?_getD,hx];rfl
 have HV:=fun(w':World) (hy:Ext w w')=>gZ aA aB _ xs.length cap xs w' (hS.ext hy)
 rw[a]at HV;rw[e];exact aIw aA aB b c cap x xs w g5 g6 hx hb d (fun w=>mB 0 0 ((xs.length:Int)-1) w (by omega) (by omega)) HV (fun(w':World) (hy:Ext w w')=>fG aA aB _ xs.length cap xs w' (by omega) (hS.ext hy))
abbrev Sl2:=Int×Int
def aK (s:Sl2):List Value:= [.int .i64 s.1,.int .i64 s.2]
def gO (l:List Sl2)(w:World)(e:Ending)(w':World):Prop:=
 ∃p cap,e= .returned (.slice p l.length cap)∧w'.ownsRow w.heap.size TSL 2 (.slice p l.length cap) l.length (l.flatMap aK)∧Ext w w'
theorem qY:ElT Tryz.prog 164 TSL 2:=
 ⟨Tryz.underlying164,by
  obtain⟨i,hi,h0,h1,h2⟩:=info_parts (show(Tryz.prog.info? TSL).map (fun i=>(i.zero,i.size,i.bytes))=some (some (.agg #[(),()]),2,16) by kernel_rfl)
  exact⟨i,_,hi,h0,h1,by omega,rfl⟩,by omega⟩
theorem aFh (w:World)(a b:Value)(t:TypeId): ∀j u,([a,b]:List Value)[j]? =some u→(w.alloc (.cells #[a,b] t)).cell? ⟨w.heap.size,0+j,none⟩=some u:=by
 intro j u hu;rw[Nat.zero_add]
 match j,hu with
 |0,hu=>simp at hu;subst hu;exact(Blk.new w t #[a,b]).cell 0
 |1,hu=>simp at hu;subst hu;exact(Blk.new w t #[a,b]).cell 1
def nL (m:Nat→Bool)(f:Nat):Nat→List Sl2
 |0=> []
 |k+1=>nL m f k++(if m k then [((f:Int),(k:Int))]else [])
def fU (m:Nat→Nat→Bool)(n:Nat):Nat→List Sl2
 |0=> []
 |k+1=>fU m n k++nL (m k) k n
theorem aJg (m:Nat→Bool)(f k:Nat):(nL m f k).length≤k:=by
 induction k with
 |zero=>exact Nat.le_refl _
 |succ k ih=>unfold nL;rw[List.length_append];split<;>simp<;>omega
theorem aH1 (m:Nat→Nat→Bool)(n k:Nat):(fU m n k).length≤k*n:=by
 induction k with
 |zero=>simp[fU]
 |succ k ih=>unfold fU;rw[List.length_append,Nat.succ_mul];have:=aJg (m k) k n;omega
def kM (aA aB:Int)(xs:List Int):List Sl2:=fU (fun f t=>aZ aA aB xs f t) xs.length xs.length
theorem aIq (aA aB:Int)(p:OA)(n cap:Nat)(m:Nat→Nat→Bool)(w:World)(hn:n≤12)
  (HM:Hid (∀(f t:Nat),f<n→t<n→ ∀w',Ext w w'→Calls Tryz.prog 139 #[aH aA aB p n cap,dQ (f:Int) (t:Int)] w' fun e w''=>e= .returned (.bool (m f t))∧Ext w' w'')):
  Calls Tryz.prog 129 #[aH aA aB p n cap] w (gO (fU m n n) w):=by
 go_enter Tryz.func129,Tryz.ntmps129;go_wp2;go_loopw [3,4] (fun v i wr=> ∃(k:Nat) (q:OA) (l c:Nat),k≤n∧i= .int .i64 k∧v= .slice q l c∧l≤k*n∧wr.ownsRow (w.heap.size+1) TSL 2 (.slice q l c) l ((fU m n k).flatMap aK)∧Ext w wr∧Blk wr w.heap.size TH3 #[aA,aB,.slice p n cap]) (fun _ i _=>n-(intOf i).toNat)
 case atStart=>have ho:((w.alloc (.cells #[aA,aB,.slice p n cap] TH3)).alloc (.cells #[] TSL)).ownsRow (w.heap.size+1) TSL 2 (.slice (some ⟨(w.alloc (.cells #[aA,aB,.slice p n cap] TH3)).heap.size,0,none⟩) 0 0) 0 []:=World.ownsRow_made _ #[] 0 (by simp) (by simp[maxLen]) rfl;exact⟨0,_,0,0,Nat.zero_le _,rfl,rfl,by simp,by simpa[fU]using ho,by exact .alloc (.alloc (.refl _) _) _,(Blk.new w _ _).alloc _⟩
 case round=>
  obtain⟨k,q,l,c,hk,rfl,rfl,r,b,d,hB⟩:=hrel;have HO:=xQ b;have HB:=xQ hB;have x:w.heap.size<wr.heap.size:=hB.lt;have s:Hid (l=(fU m n k).length):=by have:=b.1;rw[cX aK 2 (fun _=>rfl)]at this;show _=_;omega
  clear b hB;obtain⟨b0,b1,b2⟩:=HB.out.cells3;by_cases hlt:k<n
  ·have af:k*n≤132:=by have:=Nat.mul_le_mul (show k≤11 by omega) hn;omega
   go_wp2;obtain⟨wo,rfl⟩: ∃wo:World,wo=wr:=⟨_,rfl⟩
   clear b0 b1 b2;go_loopw [3,5] (fun v i wr=> ∃(j:Nat) (q:OA) (l c:Nat),j≤n∧i= .int .i64 j∧v= .slice q l c∧l≤k*n+j∧wr.ownsRow (w.heap.size+1) TSL 2 (.slice q l c) l ((fU m n k++nL (m k) k j).flatMap aK)∧Ext w wr∧Blk wr w.heap.size TH3 #[aA,aB,.slice p n cap]) (fun _ i _=>n-(intOf i).toNat)
   case atStart=>exact⟨0,q,l,c,Nat.zero_le _,rfl,rfl,by omega,by simpa[nL]using HO.out,d,HB.out⟩
   case round=>
    clear HO HB x d s r;obtain⟨j,q,l,c,hj,rfl,rfl,r,b,d,hB⟩:=hrel;have HO:=xQ b;have HB:=xQ hB;have x:w.heap.size<wr.heap.size:=hB.lt;clear b hB;obtain⟨b0,b1,b2⟩:=HB.out.cells3;by_cases hlt2:j<n
    ·go_wp2_with fail;refine(HM k j hlt hlt2 _ d).mono ?_;rintro e w1 ⟨rfl,h1⟩;have g:=xQ (bD HO h1);have o:=xQ (HB.out.ext h1);have h:=xQ (d.trans h1);have ae:w.heap.size<w1.heap.size:=o.out.lt;clear h1 b0 b1 b2 HO HB d;cases hm:m k j with
     |true=>
      have a:Hid (fU m n k++nL (m k) k (j+1)=(fU m n k++nL (m k) k j)++ [((k:Int),(j:Int))]):=by show _=_;rw[nL,if_pos hm,List.append_assoc]
      clear hm;go_wp2_with (at_builtin;refine lW qY (f:=aK) (fun _=>rfl) (fun _ u hu=>by simp[aK]at hu;rcases hu with rfl|rfl<;>rfl) rfl _ _ rfl (w.heap.size+1) _ _ _ rfl (g.out.alloc _) _ _ ((k:Int),(j:Int)) _ rfl (aFh _ _ _ _) (by omega) (by first|(simp;done)|(simp;omega)) ?_;intro p' cap' w2 hown1 hg1;have z:=xQ hown1;have aa:Ext w w2:=Ext.own (h.out.alloc _) (g.out.alloc _) hg1 (by omega);have y:=xQ (rE g hg1 o.out);clear hown1 hg1);go_roundw
      case rel=>exact⟨j+1,p',l+1,cap',by omega,by go_num,rfl,by omega,by rw[a.out];exact z.out,aa,y.out⟩
      case measure=>simp[intOf];omega
     |false=>
      have a:Hid (fU m n k++nL (m k) k (j+1)=fU m n k++nL (m k) k j):=by show _=_;rw[nL,if_neg (by rw[hm];simp),List.append_nil]
      clear hm;go_wp2;go_roundw
      case rel=>exact⟨j+1,q,l,c,by omega,by go_num,rfl,by omega,by rw[a.out];exact g.out,h.out,o.out⟩
      case measure=>simp[intOf];omega
    have a:Hid (fU m n k++nL (m k) k j=fU m n (k+1)):=by show _=_;rw[fU,show j=n by omega]
    have ab:k*n+n=(k+1)*n:=(Nat.succ_mul k n).symm;go_wp2;go_roundw
    case rel=>exact⟨k+1,q,l,c,by omega,by go_num,rfl,by rw[←ab];omega,by rw[←a.out];exact HO.out,d,HB.out⟩
    case measure=>simp[intOf];omega
  have a:Hid (fU m n k=fU m n n):=by show _=_;rw[show k=n by omega]
  go_wp2;go_ret;have ad:(fU m n n).length=l:=by rw[←a.out];exact s.out.symm
  subst ad;exact⟨q,c,rfl,by rw[a.out]at HO;exact bK HO (Nat.le_succ _),d⟩
theorem wM (aA aB:Int)(p:OA)(n cap:Nat)(xs:List Int)(w:World)(hS:Sl w p n cap 1 (ivs xs))(a:aN aA aB xs=true):
  Calls Tryz.prog 129 #[aH aA aB p n cap] w (gO (kM aA aB xs) w):=by
 have hl:=hS.ilen;subst hl;obtain⟨g1,g2,g3,g4,g5,g6,g7,g8,g9⟩:=bQ a;exact aIq aA aB p xs.length cap _ w g6 (fun f t _ _ w' hx=>aIp aA aB f t p xs.length cap xs w' (hS.ext hx))
end Go.Proofs.YtpelpnfhbepokaaGreatDoor
namespace Go.Proofs.YtpelpnfhbepokaaGreatDoor
open Go.RowKit
set_option linter.unusedVariables false
set_option linter.unusedSimpArgs false
theorem aJb {xs:List Int}{i j:Nat}{a b:Int}(hi:xs[i]? =some a) (hj:xs[j]? =some b) (d:i≠j):List.Perm ((xs.set j a).set i b) xs:=by
 induction xs generalizing i j with
 |nil=>simp at hi
 |cons x xs ih=>
  cases i with
  |zero=>
   cases j with
   |zero=>exact absurd rfl d
   |succ j=>
    simp only[List.getElem?_cons_zero,Option.some.injEq,List.getElem?_cons_succ]at hi hj;subst hi;simp only[List.set_cons_succ,List.set_cons_zero];obtain⟨c,rfl⟩:=List.getElem?_eq_some_iff.1 hj;clear ih d hj;induction xs generalizing j with
    |nil=>simp at c
    |cons y ys ih2=>
     cases j with
     |zero=>simpa using List.Perm.swap x y ys
     |succ j=>simp only[List.length_cons,Nat.add_lt_add_iff_right]at c;simp only[List.set_cons_succ,List.getElem_cons_succ];exact(List.Perm.swap y _ _).trans ((List.Perm.cons y (ih2 j c)).trans (List.Perm.swap x y ys))
  |succ i=>
   cases j with
   |zero=>
    simp only[List.getElem?_cons_zero,Option.some.injEq,List.getElem?_cons_succ]at hi hj;subst hj;simp only[List.set_cons_succ,List.set_cons_zero];obtain⟨c,rfl⟩:=List.getElem?_eq_some_iff.1 hi;clear ih d hi;induction xs generalizing i with
    |nil=>simp at c
    |cons y ys ih2=>
     cases i with
     |zero=>simpa using List.Perm.swap x y ys
     |succ i=>simp only[List.length_cons,Nat.add_lt_add_iff_right]at c;simp only[List.set_cons_succ,List.getElem_cons_succ];exact(List.Perm.swap y _ _).trans ((List.Perm.cons y (ih2 i c)).trans (List.Perm.swap x y ys))
   |succ j=>simp only[List.getElem?_cons_succ]at hi hj;simp only[List.set_cons_succ];exact List.Perm.cons x (ih hi hj (by omega))
theorem tB {aA aB:Int}{xs ys:List Int}(h:aN aA aB xs=true)(hp:List.Perm ys xs):aN aA aB ys=true:=by unfold aN at*;rw[Bool.and_eq_true]at*;refine⟨by rw[hp.length_eq];exact h.1,?_⟩;obtain⟨h1,h2,h3⟩:=(gC _ _).1 h.2;exact(gC _ _).2 ⟨fun x hx=>h1 x (hp.mem_iff.1 hx),fun x hx=>h2 x (hp.mem_iff.1 hx),(hp.filter _).nodup_iff.2 h3⟩
theorem mM {aA aB:Int}{xs:List Int}(f t:Int):List.Perm (bC aA aB xs f t) xs:=by
 unfold bC;cases h:aZ aA aB xs f t with
 |false=>exact List.Perm.refl _
 |true=>
  rw[if_pos rfl];obtain⟨k1,k2,k3,k4,k5,k6,k7,k8,k9⟩:=kW h;refine aJb ?_ ?_ (by omega)
  ·rw[List.getD_eq_getElem?_getD,List.getElem?_eq_getElem (by omega)];rfl
  rw[List.getElem?_eq_getElem (by omega)];rw[List.getD_eq_getElem?_getD,List.getElem?_eq_getElem (by omega)]at k8;simpa using k8
theorem iH {aA aB:Int}{xs:List Int}(f t:Int)(h:aN aA aB xs=true):aN aA aB (bC aA aB xs f t)=true:=tB h (mM f t)
def aY (aA aB:Int):List Int→List Sl2→List Int×Nat
 |xs,[]=>(xs,0)
 |xs,s::l=>if aZ aA aB xs s.1 s.2 then((aY aA aB (bC aA aB xs s.1 s.2) l).1,(aY aA aB (bC aA aB xs s.1 s.2) l).2+1)else(xs,0)
theorem dX {aA aB:Int}{xs:List Int}{s:Sl2}{l:List Sl2}(h:aZ aA aB xs s.1 s.2=true):aY aA aB xs (s::l)=((aY aA aB (bC aA aB xs s.1 s.2) l).1,(aY aA aB (bC aA aB xs s.1 s.2) l).2+1):=by rw[aY,if_pos h]
theorem jU {aA aB:Int}{xs:List Int}{s:Sl2}{l:List Sl2}(h:aZ aA aB xs s.1 s.2=false):aY aA aB xs (s::l)=(xs,0):=by rw[aY,if_neg (by rw[h];simp)]
theorem oZ {aA aB:Int}: ∀(l:List Sl2) (xs:List Int) (s:Sl2),(aY aA aB xs l).2=l.length→aY aA aB xs (l++ [s])=(if aZ aA aB (aY aA aB xs l).1 s.1 s.2 then(bC aA aB (aY aA aB xs l).1 s.1 s.2,l.length+1)else((aY aA aB xs l).1,l.length)):=by
 intro l;induction l with
 |nil=>
  intro xs s _;cases h:aZ aA aB xs s.1 s.2 with
  |true=>rw[List.nil_append,dX h];simp[aY,h]
  |false=>rw[List.nil_append,jU h];simp[aY,h]
 |cons a l ih=>
  intro xs s h;cases ha:aZ aA aB xs a.1 a.2 with
  |false=>rw[jU ha]at h;simp at h
  |true=>
   rw[dX ha]at h;have h':(aY aA aB (bC aA aB xs a.1 a.2) l).2=l.length:=by simpa using h
   rw[List.cons_append,dX ha,dX ha,ih _ s h'];dsimp only;split<;>simp
theorem wN {aA aB:Int}: ∀(l r:List Sl2) (xs:List Int),(aY aA aB xs l).2<l.length→aY aA aB xs (l++r)=aY aA aB xs l:=by
 intro l;induction l with
 |nil=>intro r xs h;simp at h
 |cons a l ih=>
  intro r xs h;cases ha:aZ aA aB xs a.1 a.2 with
  |false=>rw[List.cons_append,jU ha,jU ha]
  |true=>
   rw[dX ha]at h;have h':(aY aA aB (bC aA aB xs a.1 a.2) l).2<l.length:=by simpa using h
   rw[List.cons_append,dX ha,dX ha,ih r _ h']
theorem nJ {aA aB:Int}: ∀(l:List Sl2) (xs:List Int),aN aA aB xs=true→aN aA aB (aY aA aB xs l).1=true∧(aY aA aB xs l).1.length=xs.length∧List.Perm (aY aA aB xs l).1 xs:=by
 intro l;induction l with
 |nil=>intro xs h;exact⟨h,rfl,List.Perm.refl _⟩
 |cons a l ih=>
  intro xs h;unfold aY;split
  ·obtain⟨a1,a2,a3⟩:=ih _ (iH a.1 a.2 h);exact⟨a1,a2.trans (cS _ _ _ _ _),a3.trans (mM _ _)⟩
  exact⟨h,rfl,List.Perm.refl _⟩
end Go.Proofs.YtpelpnfhbepokaaGreatDoor
