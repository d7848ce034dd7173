/-
  Texts of this proof, packed (@packed).
-/
import Derived.Test.YtpelpnfhbepokaaGreatDoorV9
namespace Go.Proofs.YtpelpnfhbepokaaGreatDoor
open Go.RowKit
set_option linter.unusedVariables false
set_option linter.unusedSimpArgs false
set_option maxHeartbeats 8000000
set_option maxRecDepth 100000
def cR (aA aB:Int)(xs:List Int)(id:Int):List Int×Bool:=if xs.getD 0 0=0∧1≤id∧aM aA aB (xs.set 0 id)=true then(xs.set 0 id,true)else(xs,false)
def cN (aA aB:Int)(xs:List Int)(i:Int)(w:World)(e:Ending)(w':World):Prop:=
 ∃p cap,e= .returned (.tuple #[aH aA aB p xs.length cap,i])∧w'.ownsRow w.heap.size TI 1 (.slice p xs.length cap) xs.length (ivs xs)∧Ext w w'
theorem eH {aA aB:Int}{p:OA}{n a:Nat}{xs:List Int}{i:Int}{w w':World}(hn:xs.length=n)(ho:w'.ownsRow w.heap.size TI 1 (.slice p n a) n (ivs xs))(hx:Ext w w'):cN aA aB xs i w (.returned (.tuple #[aH aA aB p n a,i])) w':=by subst hn;exact⟨p,a,rfl,ho,hx⟩
theorem zS (aA aB id:Int)(b a c:Nat)(x:Int)(xs:List Int)(w:World)(aq:4≤xs.length)(hn:xs.length≤12)(an:Hid (xs[0]? =some x)) (hb:b<w.heap.size) (ae:Hid (w.cell? ⟨b,a,none⟩=some (.int .i64 x))) (ar:(x !=0)=true)
  (HI:Hid (∀w,Calls Tryz.prog 43 #[(),(),((xs.length:Int)-1:Int)] w fun e w'=>e= .returned (.bool true)∧w=w'))
  (HV:xB 41 #[aH aA aB (some ⟨b,a,none⟩) xs.length c] w true)
  (HC:Hid (∀w',Ext w w'→Calls Tryz.prog 81 #[aH aA aB (some ⟨b,a,none⟩) xs.length c] w' (cY aA aB xs w'))):
  Calls Tryz.prog 133 #[aH aA aB (some ⟨b,a,none⟩) xs.length c,(),id] w (cO aA aB xs false w):=by
 go_enter Tryz.func133,Tryz.ntmps133;have aa:=xQ (Ext.refl w);go_wp2_with fail;refine(HV _ (by exact .alloc (.alloc (.refl _) _) _)).mono ?_;rintro e w1 ⟨rfl,i⟩;have ad:Ext w w1:=(((Ext.refl _).alloc _).alloc _).trans i;have z1:w.heap.size+2≤w1.heap.size:=by have:=i.sz;(try simp at this);omega
 have n:=xQ (aa.out.trans ad);clear aa;have j:=xQ (show Blk w1 (w.heap.size) TH3 #[aA,aB,.slice (some ⟨b,a,none⟩) xs.length c] by have:=((Blk.new w TH3 #[aA,aB,.slice (some ⟨b,a,none⟩) xs.length c]).alloc _).ext i;simpa using this);have o:=xQ (show Blk w1 (w.heap.size+1) TH3 #[(),(),((),())] by have:=(Blk.new (w.alloc (.cells #[aA,aB,.slice (some ⟨b,a,none⟩) xs.length c] TH3)) TH3 #[(),(),((),())]).ext i;simpa using this);clear ad;have t:w.heap.size<w1.heap.size:=j.out.lt;have y:w.heap.size+1<w1.heap.size:=o.out.lt;clear i;obtain⟨c0,c1,c2⟩:=j.out.tri;go_wp2_with fail;clear c0 c1 c2;refine(HC _ n.out).mono ?_;rintro e w2 ⟨q,cq,rfl,ho,s⟩;have l:Ext w1 w2:=by exact s
 have z2:w1.heap.size+0≤w2.heap.size:=by have:=s.sz;(try simp at this);omega
 have k:=xQ (n.out.trans l);have d:=xQ (j.out.ext l);have f:=xQ (o.out.ext l);clear n j o l t;have u:w.heap.size<w2.heap.size:=d.out.lt;clear y;have z:w.heap.size+1<w2.heap.size:=f.out.lt;obtain⟨g,rfl,ao,ap⟩:=eM ho (by omega);have m:=xQ (ho);clear s ho;have cx:w2.cell? ⟨b,a,none⟩=some (.int .i64 x):=(Ext.cells k.out).1 _ _ hb |>.trans ae.out;have lb:b<w2.heap.size:=Nat.lt_of_lt_of_le hb k.out.sz;have au:w.heap.size<w2.heap.size:=by omega
 obtain⟨c0,c1,c2⟩:=d.out.tri;obtain⟨z0,ak,z1,al,z2,am⟩:=f.out.trif;go_wp2_with ((go_at_call 43;(with_reducible refine(HI _).mono ?_);rintro e w9 ⟨rfl,rfl⟩));clear cx c0 c1 c2 z0 ak z1 al z2 am;have y3:=((f.out.set 0 (.int .i64 aA)).set 1 (.int .i64 aB)).set 2 (.slice (some ⟨g,0,none⟩) xs.length cq);simp only[List.setIfInBounds_toArray,List.set_cons_zero,List.set_cons_succ]at y3;generalize r:World.setCell _ _ _=w3;rw[r]at y3;have h:ExtR (w.heap.size+1) w2 w3:=by rw[←r];exact(((ExtR.refl (w.heap.size+1) w2).setCell (p:=⟨w.heap.size+1,0,none⟩) (.inl rfl) (.int .i64 aA)).setCell (p:=⟨w.heap.size+1,1,none⟩) (.inl rfl) (.int .i64 aB)).setCell (p:=⟨w.heap.size+1,2,none⟩) (.inl rfl) (.slice (some ⟨g,0,none⟩) xs.length cq)
 clear r;have z3:w2.heap.size≤w3.heap.size:=h.sz;have ah:=xQ (ExtR.new k h (by omega));have af:=xQ (show Blk w3 (w.heap.size) _ _ from(h.block _ d.out.lt (by first|(simp;done)|(simp;omega))).trans d.out);have ab:=xQ (y3);have ag:=xQ (m.out.kept h (.inr (dF m f.out (by decide))));clear k d f m h y3 u;have ai:w.heap.size<w3.heap.size:=af.out.lt;clear z;have aj:w.heap.size+1<w3.heap.size:=ab.out.lt;obtain⟨y0,y1,y2⟩:=ab.out.tri;exact bodyPost_ret (v:= .tuple #[.agg #[aA,aB,.slice (some ⟨g,0,none⟩) xs.length cq],.bool false]) (by simp[results,Tryz.results133,go_sem, *]) rfl (dZ (by simp) (bE (ag.out.alloc _) (by omega)) (ah.out.alloc _))
theorem aF3 (aA aB id:Int)(b a c:Nat)(x:Int)(xs:List Int)(w:World)(ar:4≤xs.length)(hn:xs.length≤12)(an:Hid (xs[0]? =some x)) (hb:b<w.heap.size) (ae:Hid (w.cell? ⟨b,a,none⟩=some (.int .i64 x))) (au:(x !=0)=false) (aq:id<1)
  (HI:Hid (∀w,Calls Tryz.prog 43 #[(),(),((xs.length:Int)-1:Int)] w fun e w'=>e= .returned (.bool true)∧w=w'))
  (HV:xB 41 #[aH aA aB (some ⟨b,a,none⟩) xs.length c] w true)
  (HC:Hid (∀w',Ext w w'→Calls Tryz.prog 81 #[aH aA aB (some ⟨b,a,none⟩) xs.length c] w' (cY aA aB xs w'))):
  Calls Tryz.prog 133 #[aH aA aB (some ⟨b,a,none⟩) xs.length c,(),id] w (cO aA aB xs false w):=by
 go_enter Tryz.func133,Tryz.ntmps133;have aa:=xQ (Ext.refl w);go_wp2_with fail;refine(HV _ (by exact .alloc (.alloc (.refl _) _) _)).mono ?_;rintro e w1 ⟨rfl,i⟩;have ad:Ext w w1:=(((Ext.refl _).alloc _).alloc _).trans i;have z1:w.heap.size+2≤w1.heap.size:=by have:=i.sz;(try simp at this);omega
 have n:=xQ (aa.out.trans ad);clear aa;have j:=xQ (show Blk w1 (w.heap.size) TH3 #[aA,aB,.slice (some ⟨b,a,none⟩) xs.length c] by have:=((Blk.new w TH3 #[aA,aB,.slice (some ⟨b,a,none⟩) xs.length c]).alloc _).ext i;simpa using this);have o:=xQ (show Blk w1 (w.heap.size+1) TH3 #[(),(),((),())] by have:=(Blk.new (w.alloc (.cells #[aA,aB,.slice (some ⟨b,a,none⟩) xs.length c] TH3)) TH3 #[(),(),((),())]).ext i;simpa using this);clear ad;have t:w.heap.size<w1.heap.size:=j.out.lt;have y:w.heap.size+1<w1.heap.size:=o.out.lt;clear i;obtain⟨c0,c1,c2⟩:=j.out.tri;go_wp2_with fail;clear c0 c1 c2;refine(HC _ n.out).mono ?_;rintro e w2 ⟨q,cq,rfl,ho,s⟩;have l:Ext w1 w2:=by exact s
 have z2:w1.heap.size+0≤w2.heap.size:=by have:=s.sz;(try simp at this);omega
 have k:=xQ (n.out.trans l);have d:=xQ (j.out.ext l);have f:=xQ (o.out.ext l);clear n j o l t;have u:w.heap.size<w2.heap.size:=d.out.lt;clear y;have z:w.heap.size+1<w2.heap.size:=f.out.lt;obtain⟨g,rfl,ao,ap⟩:=eM ho (by omega);have m:=xQ (ho);clear s ho;have cx:w2.cell? ⟨b,a,none⟩=some (.int .i64 x):=(Ext.cells k.out).1 _ _ hb |>.trans ae.out;have lb:b<w2.heap.size:=Nat.lt_of_lt_of_le hb k.out.sz;have av:w.heap.size<w2.heap.size:=by omega
 obtain⟨c0,c1,c2⟩:=d.out.tri;obtain⟨z0,ak,z1,al,z2,am⟩:=f.out.trif;go_wp2_with ((go_at_call 43;(with_reducible refine(HI _).mono ?_);rintro e w9 ⟨rfl,rfl⟩));clear cx c0 c1 c2 z0 ak z1 al z2 am;have y3:=((f.out.set 0 (.int .i64 aA)).set 1 (.int .i64 aB)).set 2 (.slice (some ⟨g,0,none⟩) xs.length cq);simp only[List.setIfInBounds_toArray,List.set_cons_zero,List.set_cons_succ]at y3;generalize r:World.setCell _ _ _=w3;rw[r]at y3;have h:ExtR (w.heap.size+1) w2 w3:=by rw[←r];exact(((ExtR.refl (w.heap.size+1) w2).setCell (p:=⟨w.heap.size+1,0,none⟩) (.inl rfl) (.int .i64 aA)).setCell (p:=⟨w.heap.size+1,1,none⟩) (.inl rfl) (.int .i64 aB)).setCell (p:=⟨w.heap.size+1,2,none⟩) (.inl rfl) (.slice (some ⟨g,0,none⟩) xs.length cq)
 clear r;have z3:w2.heap.size≤w3.heap.size:=h.sz;have ah:=xQ (ExtR.new k h (by omega));have af:=xQ (show Blk w3 (w.heap.size) _ _ from(h.block _ d.out.lt (by first|(simp;done)|(simp;omega))).trans d.out);have ab:=xQ (y3);have ag:=xQ (m.out.kept h (.inr (dF m f.out (by decide))));clear k d f m h y3 u;have ai:w.heap.size<w3.heap.size:=af.out.lt;clear z;have aj:w.heap.size+1<w3.heap.size:=ab.out.lt;obtain⟨y0,y1,y2⟩:=ab.out.tri;exact bodyPost_ret (v:= .tuple #[.agg #[aA,aB,.slice (some ⟨g,0,none⟩) xs.length cq],.bool false]) (by simp[results,Tryz.results133,go_sem, *]) rfl (dZ (by simp) (bE (ag.out.alloc _) (by omega)) (ah.out.alloc _))
theorem aBv (aA aB id:Int)(b a d:Nat)(x:Int)(xs:List Int)(w:World)(bk:4≤xs.length)(hn:xs.length≤12)(a1:Hid (xs[0]? =some x)) (hb:b<w.heap.size) (az:Hid (w.cell? ⟨b,a,none⟩=some (.int .i64 x))) (bl:(x !=0)=false) (bj:1≤id)
  (HI:Hid (∀w,Calls Tryz.prog 43 #[(),(),((xs.length:Int)-1:Int)] w fun e w'=>e= .returned (.bool true)∧w=w'))
  (a0:Hid (∀w' q c,Sl w' q xs.length c 1 (ivs (xs.set 0 id))→Calls Tryz.prog 41 #[aH aA aB q xs.length c] w' fun e w''=>e= .returned (.bool true)∧Ext w' w''))
  (HV:xB 41 #[aH aA aB (some ⟨b,a,none⟩) xs.length d] w true)
  (HC:Hid (∀w',Ext w w'→Calls Tryz.prog 81 #[aH aA aB (some ⟨b,a,none⟩) xs.length d] w' (cY aA aB xs w'))):
  Calls Tryz.prog 133 #[aH aA aB (some ⟨b,a,none⟩) xs.length d,(),id] w (cO aA aB (xs.set 0 id) true w):=by
 have bf:decide (id<1)=false:=by simp;omega
 go_enter Tryz.func133,Tryz.ntmps133;have au:=xQ (Ext.refl w);go_wp2_with fail;refine(HV _ (by exact .alloc (.alloc (.refl _) _) _)).mono ?_;rintro e w1 ⟨rfl,l⟩;have ay:Ext w w1:=(((Ext.refl _).alloc _).alloc _).trans l;have z1:w.heap.size+2≤w1.heap.size:=by have:=l.sz;(try simp at this);omega
 have ae:=xQ (au.out.trans ay);clear au;have n:=xQ (show Blk w1 (w.heap.size) TH3 #[aA,aB,.slice (some ⟨b,a,none⟩) xs.length d] by have:=((Blk.new w TH3 #[aA,aB,.slice (some ⟨b,a,none⟩) xs.length d]).alloc _).ext l;simpa using this);have af:=xQ (show Blk w1 (w.heap.size+1) TH3 #[(),(),((),())] by have:=(Blk.new (w.alloc (.cells #[aA,aB,.slice (some ⟨b,a,none⟩) xs.length d] TH3)) TH3 #[(),(),((),())]).ext l;simpa using this);clear ay;have aj:w.heap.size<w1.heap.size:=n.out.lt;have ao:w.heap.size+1<w1.heap.size:=af.out.lt;clear l;obtain⟨c0,c1,c2⟩:=n.out.tri;go_wp2_with fail;clear c0 c1 c2;refine(HC _ ae.out).mono ?_;rintro e w2 ⟨q,cq,rfl,ho,ai⟩;have y:Ext w1 w2:=by exact ai
 have z2:w1.heap.size+0≤w2.heap.size:=by have:=ai.sz;(try simp at this);omega
 have r:=xQ (ae.out.trans y);have h:=xQ (n.out.ext y);have s:=xQ (af.out.ext y);clear ae n af y aj;have ak:w.heap.size<w2.heap.size:=h.out.lt;clear ao;have ap:w.heap.size+1<w2.heap.size:=s.out.lt;obtain⟨g,rfl,bh,bi⟩:=eM ho (by omega);have i:=xQ (ho);clear ai ho;have cx:w2.cell? ⟨b,a,none⟩=some (.int .i64 x):=(Ext.cells r.out).1 _ _ hb |>.trans az.out;have lb:b<w2.heap.size:=Nat.lt_of_lt_of_le hb r.out.sz;have bm:w.heap.size<w2.heap.size:=by omega
 obtain⟨c0,c1,c2⟩:=h.out.tri;have ba:w2.cell? ⟨g,0,none⟩=some (.int .i64 x):=by have:=i.out.cellAt 0 (by omega);rw[this];simpa[ivs]using a1.out
 have bb:w2.frozen? ⟨g,0,none⟩=false:=i.out.frozenAt 0;have bg:g≠w2.heap.size:=by omega
 go_upto_region 7 with((go_at_call 43;(with_reducible refine(HI _).mono ?_);rintro e w9 ⟨rfl,rfl⟩));clear cx ba bb c0 c1 c2;have y3:=(i.out.stored (0) (.int .i64 id)).1;have t:ExtR (g) w2 _:=(i.out.stored (0) (.int .i64 id)).2;have z:(World.setCell w2 ⟨g,0,none⟩ (.int .i64 id)).heap.size=w2.heap.size:=by simp
 generalize a6:World.setCell _ _ _=w3 at*;rw[←z];clear a6;have z3:w2.heap.size≤w3.heap.size:=Nat.le_of_eq z.symm;have bn:w3.heap.size≤w2.heap.size:=Nat.le_of_eq z;clear z;have av:=xQ (ExtR.new r t (by omega));have aa:=xQ (show Blk w3 (w.heap.size) _ _ from(t.block _ h.out.lt (by first|(simp;done)|(simp;omega))).trans h.out);have ag:=xQ (show Blk w3 (w.heap.size+1) _ _ from(t.block _ s.out.lt (by first|(simp;done)|(simp;omega))).trans s.out);have ab:=xQ (y3);clear r h s i t y3 ak;have al:w.heap.size<w3.heap.size:=aa.out.lt;clear ap;have aq:w.heap.size+1<w3.heap.size:=ag.out.lt;go_wp2_with fail;refine(a0 (w3.alloc (.cells #[aA,aB,.slice (some ⟨g,0,none⟩) xs.length cq] TH3)) _ _ (by rw[←dR];exact Sl.own (ab.out.alloc _))).mono ?_;rintro e w4 ⟨rfl,u⟩;have m:Ext w3 w4:=((Ext.refl _).alloc _).trans u;have z4:w3.heap.size+1≤w4.heap.size:=by have:=u.sz;(try simp at this);omega
 have aw:=xQ (av.out.trans m);have o:=xQ (aa.out.ext m);have k:=xQ (ag.out.ext m);have ad:=xQ (bG ab m);clear av aa ag ab;have j:=xQ (show Blk w4 (w3.heap.size) TH3 #[aA,aB,.slice (some ⟨g,0,none⟩) xs.length cq] by have:=(Blk.new w3 TH3 #[aA,aB,.slice (some ⟨g,0,none⟩) xs.length cq]).ext u;simpa using this);clear m al;have am:w.heap.size<w4.heap.size:=o.out.lt;clear aq;have ar:w.heap.size+1<w4.heap.size:=k.out.lt;have an:w3.heap.size<w4.heap.size:=j.out.lt;clear u;obtain⟨v0,v1,v2⟩:=j.out.tri;obtain⟨z0,bc,z1,bd,z2,be⟩:=k.out.trif;go_wp2;have y5:=((k.out.set 0 (.int .i64 aA)).set 1 (.int .i64 aB)).set 2 (.slice (some ⟨g,0,none⟩) xs.length cq);simp only[List.setIfInBounds_toArray,List.set_cons_zero,List.set_cons_succ]at y5;generalize ah:World.setCell _ _ _=w5;rw[ah]at y5;have f:ExtR (w.heap.size+1) w4 w5:=by rw[←ah];exact(((ExtR.refl (w.heap.size+1) w4).setCell (p:=⟨w.heap.size+1,0,none⟩) (.inl rfl) (.int .i64 aA)).setCell (p:=⟨w.heap.size+1,1,none⟩) (.inl rfl) (.int .i64 aB)).setCell (p:=⟨w.heap.size+1,2,none⟩) (.inl rfl) (.slice (some ⟨g,0,none⟩) xs.length cq)
 clear ah;have z5:w4.heap.size≤w5.heap.size:=f.sz;have a5:=xQ (ExtR.new aw f (by omega));have a2:=xQ (show Blk w5 (w.heap.size) _ _ from(f.block _ o.out.lt (by first|(simp;done)|(simp;omega))).trans o.out);have ax:=xQ (y5);have a3:=xQ (ad.out.kept f (.inr (dF ad k.out (by decide))));have a4:=xQ (show Blk w5 (w3.heap.size) _ _ from(f.block _ j.out.lt (by first|(simp;done)|(simp;omega))).trans j.out);clear aw o k ad j f y5 am;have a7:w.heap.size<w5.heap.size:=a2.out.lt;clear ar;have a9:w.heap.size+1<w5.heap.size:=ax.out.lt;clear an;have a8:w3.heap.size<w5.heap.size:=a4.out.lt;clear v0 v1 v2 z0 bc z1 bd z2 be;obtain⟨y0,y1,y2⟩:=ax.out.tri;exact bodyPost_ret (v:= .tuple #[.agg #[aA,aB,.slice (some ⟨g,0,none⟩) xs.length cq],.bool true]) (by simp[results,Tryz.results133,go_sem, *]) rfl (dZ (by simp) (bE (by rw[←dR];exact a3.out) (by omega)) a5.out)
theorem aBw (aA aB id:Int)(b a d:Nat)(x:Int)(xs:List Int)(w:World)(bv:4≤xs.length)(hn:xs.length≤12)(bc:Hid (xs[0]? =some x)) (hb:b<w.heap.size) (ba:Hid (w.cell? ⟨b,a,none⟩=some (.int .i64 x))) (bw:(x !=0)=false) (bu:1≤id)
  (HI:Hid (∀w,Calls Tryz.prog 43 #[(),(),((xs.length:Int)-1:Int)] w fun e w'=>e= .returned (.bool true)∧w=w'))
  (bb:Hid (∀w' q c,Sl w' q xs.length c 1 (ivs (xs.set 0 id))→Calls Tryz.prog 41 #[aH aA aB q xs.length c] w' fun e w''=>e= .returned (.bool false)∧Ext w' w''))
  (HV:xB 41 #[aH aA aB (some ⟨b,a,none⟩) xs.length d] w true)
  (HC:Hid (∀w',Ext w w'→Calls Tryz.prog 81 #[aH aA aB (some ⟨b,a,none⟩) xs.length d] w' (cY aA aB xs w'))):
  Calls Tryz.prog 133 #[aH aA aB (some ⟨b,a,none⟩) xs.length d,(),id] w (cO aA aB xs false w):=by
 have bq:decide (id<1)=false:=by simp;omega
 go_enter Tryz.func133,Tryz.ntmps133;have a5:=xQ (Ext.refl w);go_wp2_with fail;refine(HV _ (by exact .alloc (.alloc (.refl _) _) _)).mono ?_;rintro e w1 ⟨rfl,m⟩;have a9:Ext w w1:=(((Ext.refl _).alloc _).alloc _).trans m;have z1:w.heap.size+2≤w1.heap.size:=by have:=m.sz;(try simp at this);omega
 have ah:=xQ (a5.out.trans a9);clear a5;have o:=xQ (show Blk w1 (w.heap.size) TH3 #[aA,aB,.slice (some ⟨b,a,none⟩) xs.length d] by have:=((Blk.new w TH3 #[aA,aB,.slice (some ⟨b,a,none⟩) xs.length d]).alloc _).ext m;simpa using this);have aj:=xQ (show Blk w1 (w.heap.size+1) TH3 #[(),(),((),())] by have:=(Blk.new (w.alloc (.cells #[aA,aB,.slice (some ⟨b,a,none⟩) xs.length d] TH3)) TH3 #[(),(),((),())]).ext m;simpa using this);clear a9;have ap:w.heap.size<w1.heap.size:=o.out.lt;have ay:w.heap.size+1<w1.heap.size:=aj.out.lt;clear m;obtain⟨c0,c1,c2⟩:=o.out.tri;go_wp2_with fail;clear c0 c1 c2;refine(HC _ ah.out).mono ?_;rintro e w2 ⟨q,cq,rfl,ho,an⟩;have ab:Ext w1 w2:=by exact an
 have z2:w1.heap.size+0≤w2.heap.size:=by have:=an.sz;(try simp at this);omega
 have u:=xQ (ah.out.trans ab);have i:=xQ (o.out.ext ab);have y:=xQ (aj.out.ext ab);clear ah o aj ab ap;have aq:w.heap.size<w2.heap.size:=i.out.lt;clear ay;have az:w.heap.size+1<w2.heap.size:=y.out.lt;obtain⟨g,rfl,bs,bt⟩:=eM ho (by omega);have k:=xQ (ho);clear an ho;have cx:w2.cell? ⟨b,a,none⟩=some (.int .i64 x):=(Ext.cells u.out).1 _ _ hb |>.trans ba.out;have lb:b<w2.heap.size:=Nat.lt_of_lt_of_le hb u.out.sz;have bx:w.heap.size<w2.heap.size:=by omega
 obtain⟨c0,c1,c2⟩:=i.out.tri;have bl:w2.cell? ⟨g,0,none⟩=some (.int .i64 x):=by have:=k.out.cellAt 0 (by omega);rw[this];simpa[ivs]using bc.out
 have bm:w2.frozen? ⟨g,0,none⟩=false:=k.out.frozenAt 0;have br:g≠w2.heap.size:=by omega
 go_upto_region 7 with((go_at_call 43;(with_reducible refine(HI _).mono ?_);rintro e w9 ⟨rfl,rfl⟩));clear cx bl bm c0 c1 c2;have y3:=(k.out.stored (0) (.int .i64 id)).1;have z:ExtR (g) w2 _:=(k.out.stored (0) (.int .i64 id)).2;have ad:(World.setCell w2 ⟨g,0,none⟩ (.int .i64 id)).heap.size=w2.heap.size:=by simp
 generalize bh:World.setCell _ _ _=w3 at*;rw[←ad];clear bh;have z3:w2.heap.size≤w3.heap.size:=Nat.le_of_eq ad.symm;have bz:w3.heap.size≤w2.heap.size:=Nat.le_of_eq ad;clear ad;have a6:=xQ (ExtR.new u z (by omega));have ae:=xQ (show Blk w3 (w.heap.size) _ _ from(z.block _ i.out.lt (by first|(simp;done)|(simp;omega))).trans i.out);have ak:=xQ (show Blk w3 (w.heap.size+1) _ _ from(z.block _ y.out.lt (by first|(simp;done)|(simp;omega))).trans y.out);have af:=xQ (y3);clear u i y k z y3 aq;have ar:w.heap.size<w3.heap.size:=ae.out.lt;clear az;have a0:w.heap.size+1<w3.heap.size:=ak.out.lt;go_wp2_with fail;refine(bb (w3.alloc (.cells #[aA,aB,.slice (some ⟨g,0,none⟩) xs.length cq] TH3)) _ _ (by rw[←dR];exact Sl.own (af.out.alloc _))).mono ?_;rintro e w4 ⟨rfl,aa⟩;have n:Ext w3 w4:=((Ext.refl _).alloc _).trans aa;have z4:w3.heap.size+1≤w4.heap.size:=by have:=aa.sz;(try simp at this);omega
 have ai:=xQ (a6.out.trans n);have r:=xQ (ae.out.ext n);have al:=xQ (ak.out.ext n);have a4:=xQ (bG af n);clear a6 ae ak af;have ag:=xQ (show Blk w4 (w3.heap.size) TH3 #[aA,aB,.slice (some ⟨g,0,none⟩) xs.length cq] by have:=(Blk.new w3 TH3 #[aA,aB,.slice (some ⟨g,0,none⟩) xs.length cq]).ext aa;simpa using this);clear n ar;have au:w.heap.size<w4.heap.size:=r.out.lt;clear a0;have a1:w.heap.size+1<w4.heap.size:=al.out.lt;have aw:w3.heap.size<w4.heap.size:=ag.out.lt;clear aa;obtain⟨h0,h1,h2⟩:=r.out.tri;go_wp2_with fail;clear h0 h1 h2;refine(HC _ ai.out).mono ?_;rintro e w5 ⟨q5,c5,rfl,o5,ao⟩;have h:Ext w4 w5:=by exact ao
 have z5:w4.heap.size+0≤w5.heap.size:=by have:=ao.sz;(try simp at this);omega
 have a7:=xQ (ai.out.trans h);have s:=xQ (r.out.ext h);have l:=xQ (al.out.ext h);have be:=xQ (bG a4 h);have t:=xQ (ag.out.ext h);clear ai r al a4 ag h au;have av:w.heap.size<w5.heap.size:=s.out.lt;clear a1;have a2:w.heap.size+1<w5.heap.size:=l.out.lt;clear aw;have ax:w3.heap.size<w5.heap.size:=t.out.lt;have j:=xQ (o5);clear ao o5 be;obtain⟨z0,bn,z1,bo,z2,bp⟩:=l.out.trif;go_wp2;have y6:=((l.out.set 0 (.int .i64 aA)).set 1 (.int .i64 aB)).set 2 (.slice q5 xs.length c5);simp only[List.setIfInBounds_toArray,List.set_cons_zero,List.set_cons_succ]at y6;generalize am:World.setCell _ _ _=w6;rw[am]at y6;have f:ExtR (w.heap.size+1) w5 w6:=by rw[←am];exact(((ExtR.refl (w.heap.size+1) w5).setCell (p:=⟨w.heap.size+1,0,none⟩) (.inl rfl) (.int .i64 aA)).setCell (p:=⟨w.heap.size+1,1,none⟩) (.inl rfl) (.int .i64 aB)).setCell (p:=⟨w.heap.size+1,2,none⟩) (.inl rfl) (.slice q5 xs.length c5)
 clear am;have z6:w5.heap.size≤w6.heap.size:=f.sz;have bg:=xQ (ExtR.new a7 f (by omega));have bd:=xQ (show Blk w6 (w.heap.size) _ _ from(f.block _ s.out.lt (by first|(simp;done)|(simp;omega))).trans s.out);have a8:=xQ (y6);have bf:=xQ (show Blk w6 (w3.heap.size) _ _ from(f.block _ t.out.lt (by first|(simp;done)|(simp;omega))).trans t.out);have a3:=xQ (j.out.kept f (.inr (dF j l.out (by decide))));clear a7 s l t j f y6 av;have bi:w.heap.size<w6.heap.size:=bd.out.lt;clear a2;have bk:w.heap.size+1<w6.heap.size:=a8.out.lt;clear ax;have bj:w3.heap.size<w6.heap.size:=bf.out.lt;clear z0 bn z1 bo z2 bp;obtain⟨y0,y1,y2⟩:=a8.out.tri;exact bodyPost_ret (v:= .tuple #[.agg #[aA,aB,.slice q5 xs.length c5],.bool false]) (by simp[results,Tryz.results133,go_sem, *]) rfl (dZ (by simp) (bE (by exact a3.out) (by omega)) bg.out)
theorem aHa (aA aB:Int)(b a c:Nat)(x:Int)(xs:List Int)(w:World)(bh:4≤xs.length)(hn:xs.length≤12)(ay:Hid (xs[0]? =some x)) (hb:b<w.heap.size) (ap:Hid (w.cell? ⟨b,a,none⟩=some (.int .i64 x)))
  (HI:Hid (∀w,Calls Tryz.prog 43 #[(),(),((xs.length:Int)-1:Int)] w fun e w'=>e= .returned (.bool true)∧w=w'))
  (HV:xB 41 #[aH aA aB (some ⟨b,a,none⟩) xs.length c] w true)
  (HC:Hid (∀w',Ext w w'→Calls Tryz.prog 81 #[aH aA aB (some ⟨b,a,none⟩) xs.length c] w' (cY aA aB xs w'))):
  Calls Tryz.prog 136 #[aH aA aB (some ⟨b,a,none⟩) xs.length c,()] w (cN aA aB (xs.set 0 0) x w):=by
 go_enter Tryz.func136,Tryz.ntmps136;have ar:=xQ (Ext.refl w);go_wp2_with fail;refine(HV _ (by exact .alloc (.alloc (.refl _) _) _)).mono ?_;rintro e w1 ⟨rfl,l⟩;have ax:Ext w w1:=(((Ext.refl _).alloc _).alloc _).trans l;have z1:w.heap.size+2≤w1.heap.size:=by have:=l.sz;(try simp at this);omega
 have z:=xQ (ar.out.trans ax);clear ar;have m:=xQ (show Blk w1 (w.heap.size) TH3 #[aA,aB,.slice (some ⟨b,a,none⟩) xs.length c] by have:=((Blk.new w TH3 #[aA,aB,.slice (some ⟨b,a,none⟩) xs.length c]).alloc _).ext l;simpa using this);have ab:=xQ (show Blk w1 (w.heap.size+1) TH3 #[(),(),((),())] by have:=(Blk.new (w.alloc (.cells #[aA,aB,.slice (some ⟨b,a,none⟩) xs.length c] TH3)) TH3 #[(),(),((),())]).ext l;simpa using this);clear ax;have ag:w.heap.size<w1.heap.size:=m.out.lt;have al:w.heap.size+1<w1.heap.size:=ab.out.lt;clear l;obtain⟨c0,c1,c2⟩:=m.out.tri;go_wp2_with fail;clear c0 c1 c2;refine(HC _ z.out).mono ?_;rintro e w2 ⟨q,cq,rfl,ho,af⟩;have s:Ext w1 w2:=by exact af
 have z2:w1.heap.size+0≤w2.heap.size:=by have:=af.sz;(try simp at this);omega
 have n:=xQ (z.out.trans s);have f:=xQ (m.out.ext s);have o:=xQ (ab.out.ext s);clear z m ab s ag;have ah:w.heap.size<w2.heap.size:=f.out.lt;clear al;have am:w.heap.size+1<w2.heap.size:=o.out.lt;obtain⟨g,rfl,bf,bg⟩:=eM ho (by omega);have i:=xQ (ho);clear af ho;have cx:w2.cell? ⟨b,a,none⟩=some (.int .i64 x):=(Ext.cells n.out).1 _ _ hb |>.trans ap.out;have lb:b<w2.heap.size:=Nat.lt_of_lt_of_le hb n.out.sz;have bi:w.heap.size<w2.heap.size:=by omega
 obtain⟨c0,c1,c2⟩:=f.out.tri;have a8:w2.cell? ⟨g,0,none⟩=some (.int .i64 x):=by have:=i.out.cellAt 0 (by omega);rw[this];simpa[ivs]using ay.out
 have a9:w2.frozen? ⟨g,0,none⟩=false:=i.out.frozenAt 0;have be:g≠w2.heap.size:=by omega
 go_upto_region 7 with((go_at_call 43;(with_reducible refine(HI _).mono ?_);rintro e w9 ⟨rfl,rfl⟩));clear cx a8 a9 c0 c1 c2;have y3:=(i.out.stored (0) (.int .i64 0)).1;have r:ExtR (g) w2 _:=(i.out.stored (0) (.int .i64 0)).2;have t:(World.setCell w2 ⟨g,0,none⟩ (.int .i64 0)).heap.size=w2.heap.size:=by simp
 generalize a4:World.setCell _ _ _=w3 at*;rw[←t];clear a4;have z3:w2.heap.size≤w3.heap.size:=Nat.le_of_eq t.symm;have bj:w3.heap.size≤w2.heap.size:=Nat.le_of_eq t;clear t;have au:=xQ (ExtR.new n r (by omega));have u:=xQ (show Blk w3 (w.heap.size) _ _ from(r.block _ f.out.lt (by first|(simp;done)|(simp;omega))).trans f.out);have ad:=xQ (show Blk w3 (w.heap.size+1) _ _ from(r.block _ o.out.lt (by first|(simp;done)|(simp;omega))).trans o.out);have aq:=xQ (y3);clear n f o i r y3 ah;have ai:w.heap.size<w3.heap.size:=u.out.lt;clear am;have an:w.heap.size+1<w3.heap.size:=ad.out.lt;have hV:Blk (w3.alloc (.cells #[aA,aB,.slice (some ⟨g,0,none⟩) xs.length cq] TH3)) w3.heap.size TH3 #[aA,aB,.slice (some ⟨g,0,none⟩) xs.length cq]:=Blk.new _ _ _;generalize aw:w3.alloc (.cells #[aA,aB,.slice (some ⟨g,0,none⟩) xs.length cq] TH3)=w4 at*;have e4:Ext w3 w4:=by rw[←aw];exact(Ext.refl _).alloc _
 clear aw;have aa:=xQ (au.out.trans e4);clear au;have h:=xQ (u.out.ext e4);clear u;have k:=xQ (ad.out.ext e4);clear ad;have y:=xQ (bG aq e4);clear aq;have j:=xQ hV;clear hV e4 ai;have aj:w.heap.size<w4.heap.size:=h.out.lt;clear an;have ao:w.heap.size+1<w4.heap.size:=k.out.lt;have ak:w3.heap.size<w4.heap.size:=j.out.lt;have cx:w4.cell? ⟨b,a,none⟩=some (.int .i64 x):=(Ext.cells aa.out).1 _ _ hb |>.trans ap.out;have bd:0<xs.length:=by omega
 have a3:(0:Int)<(xs.length:Int):=by omega
 have n1: ¬(w3.heap.size=w.heap.size+1):=by omega
 have n2: ¬(w.heap.size+1=w3.heap.size):=by omega
 have n3: ¬(b=w.heap.size+1):=by omega
 have n4: ¬(w.heap.size+1=b):=by omega
 obtain⟨v0,v1,v2⟩:=j.out.tri;have c2:=h.out.cl 2;obtain⟨z0,ba,z1,bb,z2,bc⟩:=k.out.trif;go_region_held3 (fun w'=>w'.cell? ⟨w3.heap.size,0,none⟩=some (.int .i64 aA)∧w'.cell? ⟨w3.heap.size,1,none⟩=some (.int .i64 aB)∧w'.cell? ⟨w3.heap.size,2,none⟩=some (.slice (some ⟨g,0,none⟩) xs.length cq)∧w'.cell? ⟨w.heap.size,2,none⟩=some (.slice (some ⟨b,a,none⟩) xs.length c)∧w'.cell? ⟨b,a,none⟩=some (.int .i64 x)) (first|(refine⟨?_,?_,?_,?_,?_⟩<;>assumption)|go_keep) (fail);go_wp2;have y5:=((k.out.set 0 (.int .i64 aA)).set 1 (.int .i64 aB)).set 2 (.slice (some ⟨g,0,none⟩) xs.length cq);simp only[List.setIfInBounds_toArray,List.set_cons_zero,List.set_cons_succ]at y5;generalize ae:World.setCell _ _ _=w5;rw[ae]at y5;have d:ExtR (w.heap.size+1) w4 w5:=by rw[←ae];exact(((ExtR.refl (w.heap.size+1) w4).setCell (p:=⟨w.heap.size+1,0,none⟩) (.inl rfl) (.int .i64 aA)).setCell (p:=⟨w.heap.size+1,1,none⟩) (.inl rfl) (.int .i64 aB)).setCell (p:=⟨w.heap.size+1,2,none⟩) (.inl rfl) (.slice (some ⟨g,0,none⟩) xs.length cq)
 clear ae;have z5:w4.heap.size≤w5.heap.size:=d.sz;have a2:=xQ (ExtR.new aa d (by omega));have az:=xQ (show Blk w5 (w.heap.size) _ _ from(d.block _ h.out.lt (by first|(simp;done)|(simp;omega))).trans h.out);have av:=xQ (y5);have a0:=xQ (y.out.kept d (.inr (dF y k.out (by decide))));have a1:=xQ (show Blk w5 (w3.heap.size) _ _ from(d.block _ j.out.lt (by first|(simp;done)|(simp;omega))).trans j.out);clear aa h k y j d y5 aj;have a5:w.heap.size<w5.heap.size:=az.out.lt;clear ao;have a7:w.heap.size+1<w5.heap.size:=av.out.lt;clear ak;have a6:w3.heap.size<w5.heap.size:=a1.out.lt;clear cx v0 v1 v2 c2 z0 ba z1 bb z2 bc;obtain⟨y0,y1,y2⟩:=av.out.tri;exact bodyPost_ret (v:= .tuple #[.agg #[aA,aB,.slice (some ⟨g,0,none⟩) xs.length cq],x]) (by simp[results,Tryz.results136,go_sem, *]) rfl (eH (by simp) (bE (by rw[←dR];exact bG a0 (Ext.refl _).drew) (by omega)) a2.out.drew)
theorem aB0 (aA aB id:Int)(p:OA)(n a:Nat)(xs:List Int)(w:World)(hS:Sl w p n a 1 (ivs xs))(g:aM aA aB xs=true):
  Calls Tryz.prog 133 #[aH aA aB p n a,(),id] w (cO aA aB (cR aA aB xs id).1 (cR aA aB xs id).2 w):=by
 have hl:=hS.ilen;subst hl;obtain⟨g1,g2,g3,g4,g5,g6,g7,g8,g9⟩:=bM g;obtain⟨b,d,x,rfl,hx,hb,hc⟩:=hS.int_at (k:=0) (by omega);have f:w.cell? ⟨b,d,none⟩=some (.int .i64 x):=by simpa using hc
 have i:xs.getD 0 0=x:=by rw[List.getD_eq_getElem?_getD,hx];rfl
 have HV:=fun(w':World) (hy:Ext w w')=>fV aA aB _ xs.length a xs w' (hS.ext hy)
 rw[g]at HV;have HC:=fun(w':World) (hy:Ext w w')=>fG aA aB _ xs.length a xs w' (by omega) (hS.ext hy)
 have HI:=fun(w:World)=>lW 0 0 ((xs.length:Int)-1) w (by omega) (by omega)
 unfold cR;rw[i];by_cases e0:x=0
 ·have e1:(x !=0)=false:=by simp[e0]
  by_cases hi:1≤id
  ·have e:=fun(w':World) q c (h:Sl w' q xs.length c 1 (ivs (xs.set 0 id)))=>fV aA aB q xs.length c (xs.set 0 id) w' h
   cases h2:aM aA aB (xs.set 0 id)with
   |true=>rw[h2]at e;rw[if_pos ⟨e0,hi,rfl⟩];exact aBv aA aB id b d a x xs w g5 g6 hx hb f e1 hi HI e HV HC
   |false=>rw[h2]at e;rw[if_neg (by simp)];exact aBw aA aB id b d a x xs w g5 g6 hx hb f e1 hi HI e HV HC
  rw[if_neg (fun h=>hi h.2.1)];exact aF3 aA aB id b d a x xs w g5 g6 hx hb f e1 (by omega) HI HV HC
 rw[if_neg (fun h=>e0 h.1)];exact zS aA aB id b d a x xs w g5 g6 hx hb f (by simpa using e0) HI HV HC
theorem yQ (aA aB:Int)(p:OA)(n a:Nat)(xs:List Int)(w:World)(hS:Sl w p n a 1 (ivs xs))(c:aM aA aB xs=true):
  Calls Tryz.prog 136 #[aH aA aB p n a,()] w (cN aA aB (xs.set 0 0) (xs.getD 0 0) w):=by
 have hl:=hS.ilen;subst hl;obtain⟨g1,g2,g3,g4,g5,g6,g7,g8,g9⟩:=bM c;obtain⟨b,d,x,rfl,hx,hb,hc⟩:=hS.int_at (k:=0) (by omega);have e:w.cell? ⟨b,d,none⟩=some (.int .i64 x):=by simpa using hc
 have f:xs.getD 0 0=x:=by rw[List.getD_eq_getElem?_getD,hx];rfl
 have HV:=fun(w':World) (hy:Ext w w')=>fV aA aB _ xs.length a xs w' (hS.ext hy)
 rw[c]at HV;rw[f];exact aHa aA aB b d a x xs w g5 g6 hx hb e (fun w=>lW 0 0 ((xs.length:Int)-1) w (by omega) (by omega)) HV (fun(w':World) (hy:Ext w w')=>fG aA aB _ xs.length a xs w' (by omega) (hS.ext hy))
abbrev Sl2:=Int×Int
def aK (s:Sl2):List Value:= [.int .i64 s.1,.int .i64 s.2]
def eY (l:List Sl2)(w:World)(e:Ending)(w':World):Prop:=
 ∃p cap,e= .returned (.slice p l.length cap)∧w'.ownsRow w.heap.size TSL 2 (.slice p l.length cap) l.length (l.flatMap aK)∧Ext w w'
theorem oD:ElT Tryz.prog 164 TSL 2:=
 ⟨Tryz.underlying164,by
  obtain⟨i,hi,h0,h1,h2⟩:=info_parts (show(Tryz.prog.info? TSL).map (fun i=>(i.zero,i.size,i.bytes))=some (some (.agg #[(),()]),2,16) by kernel_rfl)
  exact⟨i,_,hi,h0,h1,by omega,rfl⟩,by omega⟩
theorem uW (w:World)(a b:Value)(t:TypeId): ∀j u,([a,b]:List Value)[j]? =some u→(w.alloc (.cells #[a,b] t)).cell? ⟨w.heap.size,0+j,none⟩=some u:=by
 intro j u hu;rw[Nat.zero_add]
 match j,hu with
 |0,hu=>simp at hu;subst hu;exact(Blk.new w t #[a,b]).cell 0
 |1,hu=>simp at hu;subst hu;exact(Blk.new w t #[a,b]).cell 1
def jK (m:Nat→Bool)(f:Nat):Nat→List Sl2
 |0=> []
 |k+1=>jK m f k++(if m k then [((f:Int),(k:Int))]else [])
def dL (m:Nat→Nat→Bool)(n:Nat):Nat→List Sl2
 |0=> []
 |k+1=>dL m n k++jK (m k) k n
theorem aHt (m:Nat→Bool)(f k:Nat):(jK m f k).length≤k:=by
 induction k with
 |zero=>exact Nat.le_refl _
 |succ k ih=>unfold jK;rw[List.length_append];split<;>simp<;>omega
theorem wE (m:Nat→Nat→Bool)(n k:Nat):(dL m n k).length≤k*n:=by
 induction k with
 |zero=>simp[dL]
 |succ k ih=>unfold dL;rw[List.length_append,Nat.succ_mul];have:=aHt (m k) k n;omega
def gC (aA aB:Int)(xs:List Int):List Sl2:=dL (fun f t=>bB aA aB xs f t) xs.length xs.length
theorem aH4 (aA aB:Int)(p:OA)(n g:Nat)(m:Nat→Nat→Bool)(w:World)(hn:n≤12)
  (HM:Hid (∀(f t:Nat),f<n→t<n→ ∀w',Ext w w'→Calls Tryz.prog 139 #[aH aA aB p n g,dQ (f:Int) (t:Int)] w' fun e w''=>e= .returned (.bool (m f t))∧Ext w' w'')):
  Calls Tryz.prog 129 #[aH aA aB p n g] w (eY (dL m n n) w):=by
 go_enter Tryz.func129,Tryz.ntmps129;go_wp2;go_loopw [3,4] (fun v i wr=> ∃(k:Nat) (q:OA) (l c:Nat),k≤n∧i= .int .i64 k∧v= .slice q l c∧l≤k*n∧wr.ownsRow (w.heap.size+1) TSL 2 (.slice q l c) l ((dL m n k).flatMap aK)∧Ext w wr∧Blk wr w.heap.size TH3 #[aA,aB,.slice p n g]) (fun _ i _=>n-(intOf i).toNat)
 case atStart=>have ho:((w.alloc (.cells #[aA,aB,.slice p n g] TH3)).alloc (.cells #[] TSL)).ownsRow (w.heap.size+1) TSL 2 (.slice (some ⟨(w.alloc (.cells #[aA,aB,.slice p n g] TH3)).heap.size,0,none⟩) 0 0) 0 []:=World.ownsRow_made _ #[] 0 (by simp) (by simp[maxLen]) rfl;exact⟨0,_,0,0,Nat.zero_le _,rfl,rfl,by simp,by simpa[dL]using ho,by exact .alloc (.alloc (.refl _) _) _,(Blk.new w _ _).alloc _⟩
 case round=>
  obtain⟨k,q,l,c,hk,rfl,rfl,s,b,d,hB⟩:=hrel;have HO:=xQ b;have HB:=xQ hB;have y:w.heap.size<wr.heap.size:=hB.lt;have x:Hid (l=(dL m n k).length):=by have:=b.1;rw[dC aK 2 (fun _=>rfl)]at this;show _=_;omega
  clear b hB;obtain⟨b0,b1,b2⟩:=HB.out.cells3;by_cases hlt:k<n
  ·have ag:k*n≤132:=by have:=Nat.mul_le_mul (show k≤11 by omega) hn;omega
   go_wp2;obtain⟨wo,rfl⟩: ∃wo:World,wo=wr:=⟨_,rfl⟩
   clear b0 b1 b2;go_loopw [3,5] (fun v i wr=> ∃(j:Nat) (q:OA) (l c:Nat),j≤n∧i= .int .i64 j∧v= .slice q l c∧l≤k*n+j∧wr.ownsRow (w.heap.size+1) TSL 2 (.slice q l c) l ((dL m n k++jK (m k) k j).flatMap aK)∧Ext w wr∧Blk wr w.heap.size TH3 #[aA,aB,.slice p n g]) (fun _ i _=>n-(intOf i).toNat)
   case atStart=>exact⟨0,q,l,c,Nat.zero_le _,rfl,rfl,by omega,by simpa[jK]using HO.out,d,HB.out⟩
   case round=>
    clear HO HB y d x s;obtain⟨j,q,l,c,hj,rfl,rfl,s,b,d,hB⟩:=hrel;have HO:=xQ b;have HB:=xQ hB;have y:w.heap.size<wr.heap.size:=hB.lt;clear b hB;obtain⟨b0,b1,b2⟩:=HB.out.cells3;by_cases hlt2:j<n
    ·go_wp2_with fail;refine(HM k j hlt hlt2 _ d).mono ?_;rintro e w1 ⟨rfl,h1⟩;have h:=xQ (bG HO h1);have r:=xQ (HB.out.ext h1);have o:=xQ (d.trans h1);have af:w.heap.size<w1.heap.size:=r.out.lt;clear h1 b0 b1 b2 HO HB d;cases hm:m k j with
     |true=>
      have a:Hid (dL m n k++jK (m k) k (j+1)=(dL m n k++jK (m k) k j)++ [((k:Int),(j:Int))]):=by show _=_;rw[jK,if_pos hm,List.append_assoc]
      clear hm;go_wp2_with (at_builtin;refine iZ oD (f:=aK) (fun _=>rfl) (fun _ u hu=>by simp[aK]at hu;rcases hu with rfl|rfl<;>rfl) rfl _ _ rfl (w.heap.size+1) _ _ _ rfl (h.out.alloc _) _ _ ((k:Int),(j:Int)) _ rfl (uW _ _ _ _) (by omega) (by first|(simp;done)|(simp;omega)) ?_;intro p' cap' w2 hown1 hg1;have aa:=xQ hown1;have ab:Ext w w2:=Ext.own (o.out.alloc _) (h.out.alloc _) hg1 (by omega);have z:=xQ (oG h hg1 r.out);clear hown1 hg1);go_roundw
      case rel=>exact⟨j+1,p',l+1,cap',by omega,by go_num,rfl,by omega,by rw[a.out];exact aa.out,ab,z.out⟩
      case measure=>simp[intOf];omega
     |false=>
      have a:Hid (dL m n k++jK (m k) k (j+1)=dL m n k++jK (m k) k j):=by show _=_;rw[jK,if_neg (by rw[hm];simp),List.append_nil]
      clear hm;go_wp2;go_roundw
      case rel=>exact⟨j+1,q,l,c,by omega,by go_num,rfl,by omega,by rw[a.out];exact h.out,o.out,r.out⟩
      case measure=>simp[intOf];omega
    have a:Hid (dL m n k++jK (m k) k j=dL m n (k+1)):=by show _=_;rw[dL,show j=n by omega]
    have ad:k*n+n=(k+1)*n:=(Nat.succ_mul k n).symm;go_wp2;go_roundw
    case rel=>exact⟨k+1,q,l,c,by omega,by go_num,rfl,by rw[←ad];omega,by rw[←a.out];exact HO.out,d,HB.out⟩
    case measure=>simp[intOf];omega
  have a:Hid (dL m n k=dL m n n):=by show _=_;rw[show k=n by omega]
  go_wp2;go_ret;have ae:(dL m n n).length=l:=by rw[←a.out];exact x.out.symm
  subst ae;exact⟨q,c,rfl,by rw[a.out]at HO;exact bE HO (Nat.le_succ _),d⟩
theorem vF (aA aB:Int)(p:OA)(n a:Nat)(xs:List Int)(w:World)(hS:Sl w p n a 1 (ivs xs))(b:aM aA aB xs=true):
  Calls Tryz.prog 129 #[aH aA aB p n a] w (eY (gC aA aB xs) w):=by
 have hl:=hS.ilen;subst hl;obtain⟨g1,g2,g3,g4,g5,g6,g7,g8,g9⟩:=bM b;exact aH4 aA aB p xs.length a _ w g6 (fun f t _ _ w' hx=>aBn aA aB f t p xs.length a xs w' (hS.ext hx))
end Go.Proofs.YtpelpnfhbepokaaGreatDoor
namespace Go.Proofs.YtpelpnfhbepokaaGreatDoor
open Go.RowKit
set_option linter.unusedVariables false
set_option linter.unusedSimpArgs false
theorem aHo {xs:List Int}{i j:Nat}{a b:Int}(hi:xs[i]? =some a) (hj:xs[j]? =some b) (d:i≠j):List.Perm ((xs.set j a).set i b) xs:=by
 induction xs generalizing i j with
 |nil=>simp at hi
 |cons x xs ih=>
  cases i with
  |zero=>
   cases j with
   |zero=>exact absurd rfl d
   |succ j=>
    simp only[List.getElem?_cons_zero,Option.some.injEq,List.getElem?_cons_succ]at hi hj;subst hi;simp only[List.set_cons_succ,List.set_cons_zero];obtain⟨c,rfl⟩:=List.getElem?_eq_some_iff.1 hj;clear ih d hj;induction xs generalizing j with
    |nil=>simp at c
    |cons y ys ih2=>
     cases j with
     |zero=>simpa using List.Perm.swap x y ys
     |succ j=>simp only[List.length_cons,Nat.add_lt_add_iff_right]at c;simp only[List.set_cons_succ,List.getElem_cons_succ];exact(List.Perm.swap y _ _).trans ((List.Perm.cons y (ih2 j c)).trans (List.Perm.swap x y ys))
  |succ i=>
   cases j with
   |zero=>
    simp only[List.getElem?_cons_zero,Option.some.injEq,List.getElem?_cons_succ]at hi hj;subst hj;simp only[List.set_cons_succ,List.set_cons_zero];obtain⟨c,rfl⟩:=List.getElem?_eq_some_iff.1 hi;clear ih d hi;induction xs generalizing i with
    |nil=>simp at c
    |cons y ys ih2=>
     cases i with
     |zero=>simpa using List.Perm.swap x y ys
     |succ i=>simp only[List.length_cons,Nat.add_lt_add_iff_right]at c;simp only[List.set_cons_succ,List.getElem_cons_succ];exact(List.Perm.swap y _ _).trans ((List.Perm.cons y (ih2 i c)).trans (List.Perm.swap x y ys))
   |succ j=>simp only[List.getElem?_cons_succ]at hi hj;simp only[List.set_cons_succ];exact List.Perm.cons x (ih hi hj (by omega))
theorem sP {aA aB:Int}{xs ys:List Int}(h:aM aA aB xs=true)(hp:List.Perm ys xs):aM aA aB ys=true:=by unfold aM at*;rw[Bool.and_eq_true]at*;refine⟨by rw[hp.length_eq];exact h.1,?_⟩;obtain⟨h1,h2,h3⟩:=(dO _ _).1 h.2;exact(dO _ _).2 ⟨fun x hx=>h1 x (hp.mem_iff.1 hx),fun x hx=>h2 x (hp.mem_iff.1 hx),(hp.filter _).nodup_iff.2 h3⟩
theorem mH {aA aB:Int}{xs:List Int}(f t:Int):List.Perm (bH aA aB xs f t) xs:=by
 unfold bH;cases h:bB aA aB xs f t with
 |false=>exact List.Perm.refl _
 |true=>
  rw[if_pos rfl];obtain⟨k1,k2,k3,k4,k5,k6,k7,k8,k9⟩:=kK h;refine aHo ?_ ?_ (by omega)
  ·rw[List.getD_eq_getElem?_getD,List.getElem?_eq_getElem (by omega)];rfl
  rw[List.getElem?_eq_getElem (by omega)];rw[List.getD_eq_getElem?_getD,List.getElem?_eq_getElem (by omega)]at k8;simpa using k8
theorem gZ {aA aB:Int}{xs:List Int}(f t:Int)(h:aM aA aB xs=true):aM aA aB (bH aA aB xs f t)=true:=sP h (mH f t)
def aY (aA aB:Int):List Int→List Sl2→List Int×Nat
 |xs,[]=>(xs,0)
 |xs,s::l=>if bB aA aB xs s.1 s.2 then((aY aA aB (bH aA aB xs s.1 s.2) l).1,(aY aA aB (bH aA aB xs s.1 s.2) l).2+1)else(xs,0)
theorem eD {aA aB:Int}{xs:List Int}{s:Sl2}{l:List Sl2}(h:bB aA aB xs s.1 s.2=true):aY aA aB xs (s::l)=((aY aA aB (bH aA aB xs s.1 s.2) l).1,(aY aA aB (bH aA aB xs s.1 s.2) l).2+1):=by rw[aY,if_pos h]
theorem jJ {aA aB:Int}{xs:List Int}{s:Sl2}{l:List Sl2}(h:bB aA aB xs s.1 s.2=false):aY aA aB xs (s::l)=(xs,0):=by rw[aY,if_neg (by rw[h];simp)]
theorem oN {aA aB:Int}: ∀(l:List Sl2) (xs:List Int) (s:Sl2),(aY aA aB xs l).2=l.length→aY aA aB xs (l++ [s])=(if bB aA aB (aY aA aB xs l).1 s.1 s.2 then(bH aA aB (aY aA aB xs l).1 s.1 s.2,l.length+1)else((aY aA aB xs l).1,l.length)):=by
 intro l;induction l with
 |nil=>
  intro xs s _;cases h:bB aA aB xs s.1 s.2 with
  |true=>rw[List.nil_append,eD h];simp[aY,h]
  |false=>rw[List.nil_append,jJ h];simp[aY,h]
 |cons a l ih=>
  intro xs s h;cases ha:bB aA aB xs a.1 a.2 with
  |false=>rw[jJ ha]at h;simp at h
  |true=>
   rw[eD ha]at h;have h':(aY aA aB (bH aA aB xs a.1 a.2) l).2=l.length:=by simpa using h
   rw[List.cons_append,eD ha,eD ha,ih _ s h'];dsimp only;split<;>simp
theorem vG {aA aB:Int}: ∀(l r:List Sl2) (xs:List Int),(aY aA aB xs l).2<l.length→aY aA aB xs (l++r)=aY aA aB xs l:=by
 intro l;induction l with
 |nil=>intro r xs h;simp at h
 |cons a l ih=>
  intro r xs h;cases ha:bB aA aB xs a.1 a.2 with
  |false=>rw[List.cons_append,jJ ha,jJ ha]
  |true=>
   rw[eD ha]at h;have h':(aY aA aB (bH aA aB xs a.1 a.2) l).2<l.length:=by simpa using h
   rw[List.cons_append,eD ha,eD ha,ih r _ h']
theorem nC {aA aB:Int}: ∀(l:List Sl2) (xs:List Int),aM aA aB xs=true→aM aA aB (aY aA aB xs l).1=true∧(aY aA aB xs l).1.length=xs.length∧List.Perm (aY aA aB xs l).1 xs:=by
 intro l;induction l with
 |nil=>intro xs h;exact⟨h,rfl,List.Perm.refl _⟩
 |cons a l ih=>
  intro xs h;unfold aY;split
  ·obtain⟨a1,a2,a3⟩:=ih _ (gZ a.1 a.2 h);exact⟨a1,a2.trans (cT _ _ _ _ _),a3.trans (mH _ _)⟩
  exact⟨h,rfl,List.Perm.refl _⟩
end Go.Proofs.YtpelpnfhbepokaaGreatDoor
