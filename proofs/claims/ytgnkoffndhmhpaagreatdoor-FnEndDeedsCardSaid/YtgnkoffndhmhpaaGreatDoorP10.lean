/-
  Texts of this proof, packed (@packed).
-/
import Derived.Test.YtgnkoffndhmhpaaGreatDoorP9
namespace Go.Proofs.YtgnkoffndhmhpaaGreatDoor
open Go.RowKit
set_option linter.unusedVariables false
set_option linter.unusedSimpArgs false
set_option maxHeartbeats 8000000
set_option maxRecDepth 100000
def cV (aA aB:Int)(xs:List Int)(id:Int):List Int×Bool:=if xs.getD 0 0=0∧1≤id∧aN aA aB (xs.set 0 id)=true then(xs.set 0 id,true)else(xs,false)
def cO (aA aB:Int)(xs:List Int)(i:Int)(w:World)(e:Ending)(w':World):Prop:=
 ∃p cap,e= .returned (.tuple #[aH aA aB p xs.length cap,i])∧w'.ownsRow w.heap.size TI 1 (.slice p xs.length cap) xs.length (ivs xs)∧Ext w w'
theorem eH {aA aB:Int}{p:OA}{n cap:Nat}{xs:List Int}{i:Int}{w w':World}(hn:xs.length=n)(ho:w'.ownsRow w.heap.size TI 1 (.slice p n cap) n (ivs xs))(hx:Ext w w'):cO aA aB xs i w (.returned (.tuple #[aH aA aB p n cap,i])) w':=by
 subst hn;exact⟨p,cap,rfl,ho,hx⟩
theorem zZ (aA aB id:Int)(b off cap:Nat)(x:Int)(xs:List Int)(w:World)(hn0:4≤xs.length)(hn:xs.length≤12)(HX0:Hid (xs[0]? =some x)) (hb:b<w.heap.size) (HCX:Hid (w.cell? ⟨b,off,none⟩=some (.int .i64 x))) (hx0:(x !=0)=true)
  (HI:Hid (∀w,Calls Tryz.prog 77 #[(),(),((xs.length:Int)-1:Int)] w fun e w'=>e= .returned (.bool true)∧w=w'))
  (HV:xB 90 #[aH aA aB (some ⟨b,off,none⟩) xs.length cap] w true)
  (HC:Hid (∀w',Ext w w'→Calls Tryz.prog 104 #[aH aA aB (some ⟨b,off,none⟩) xs.length cap] w' (cZ aA aB xs w'))):
  Calls Tryz.prog 121 #[aH aA aB (some ⟨b,off,none⟩) xs.length cap,(),id] w (cQ aA aB xs false w):=by
 go_enter Tryz.func121,Tryz.ntmps121
 have z:=xQ (Ext.refl w)
 go_wp2_with fail
 refine(HV _ (by exact .alloc (.alloc (.refl _) _) _)).mono ?_
 rintro e w1 ⟨rfl,a⟩
 have aa:Ext w w1:=(((Ext.refl _).alloc _).alloc _).trans a
 have z1:w.heap.size+2≤w1.heap.size:=by have:=a.sz;(try simp at this);omega
 have n:=xQ (z.out.trans aa)
 clear z
 have i:=xQ (show Blk w1 (w.heap.size) TH3 #[aA,aB,.slice (some ⟨b,off,none⟩) xs.length cap] by have:=((Blk.new w TH3 #[aA,aB,.slice (some ⟨b,off,none⟩) xs.length cap]).alloc _).ext a;simpa using this)
 have t:=xQ (show Blk w1 (w.heap.size+1) TH3 #[(),(),((),())] by have:=(Blk.new (w.alloc (.cells #[aA,aB,.slice (some ⟨b,off,none⟩) xs.length cap] TH3)) TH3 #[(),(),((),())]).ext a;simpa using this)
 clear aa
 have k:w.heap.size<w1.heap.size:=i.out.lt
 have o:w.heap.size+1<w1.heap.size:=t.out.lt
 clear a
 obtain⟨c0,c1,c2⟩:=i.out.tri
 go_wp2_with fail
 clear c0 c1 c2
 refine(HC _ n.out).mono ?_
 rintro e w2 ⟨q,cq,rfl,ho,m⟩
 have h:Ext w1 w2:=by exact m
 have z2:w1.heap.size+0≤w2.heap.size:=by have:=m.sz;(try simp at this);omega
 have j:=xQ (n.out.trans h)
 have d:=xQ (i.out.ext h)
 have f:=xQ (t.out.ext h)
 clear n i t h k
 have r:w.heap.size<w2.heap.size:=d.out.lt
 clear o
 have s:w.heap.size+1<w2.heap.size:=f.out.lt
 obtain⟨g,rfl,al,am⟩:=eL ho (by omega)
 have u:=xQ (ho)
 clear m ho
 have cx:w2.cell? ⟨b,off,none⟩=some (.int .i64 x):=(Ext.cells j.out).1 _ _ hb |>.trans HCX.out
 have lb:b<w2.heap.size:=Nat.lt_of_lt_of_le hb j.out.sz
 have ak:w.heap.size<w2.heap.size:=by omega
 obtain⟨c0,c1,c2⟩:=d.out.tri
 obtain⟨z0,ai,z1,ad,z2,aj⟩:=f.out.trif
 go_wp2_with ((go_at_call 77;(with_reducible refine(HI _).mono ?_);rintro e w9 ⟨rfl,rfl⟩))
 clear cx c0 c1 c2 z0 ai z1 ad z2 aj
 have y3:=((f.out.set 0 (.int .i64 aA)).set 1 (.int .i64 aB)).set 2 (.slice (some ⟨g,0,none⟩) xs.length cq)
 simp only[List.setIfInBounds_toArray,List.set_cons_zero,List.set_cons_succ]at y3
 generalize l:World.setCell _ _ _=w3
 rw[l]at y3
 have c:ExtR (w.heap.size+1) w2 w3:=by rw[←l];exact(((ExtR.refl (w.heap.size+1) w2).setCell (p:=⟨w.heap.size+1,0,none⟩) (.inl rfl) (.int .i64 aA)).setCell (p:=⟨w.heap.size+1,1,none⟩) (.inl rfl) (.int .i64 aB)).setCell (p:=⟨w.heap.size+1,2,none⟩) (.inl rfl) (.slice (some ⟨g,0,none⟩) xs.length cq)
 clear l
 have z3:w2.heap.size≤w3.heap.size:=c.sz
 have af:=xQ (ExtR.new j c (by omega))
 have ag:=xQ (show Blk w3 (w.heap.size) _ _ from(c.block _ d.out.lt (by first|(simp;done)|(simp;omega))).trans d.out)
 have y:=xQ (y3)
 have ab:=xQ (u.out.kept c (.inr (dG u f.out (by decide))))
 clear j d f u c y3 r
 have ah:w.heap.size<w3.heap.size:=ag.out.lt
 clear s
 have ae:w.heap.size+1<w3.heap.size:=y.out.lt
 obtain⟨y0,y1,y2⟩:=y.out.tri
 exact bodyPost_ret (v:= .tuple #[.agg #[aA,aB,.slice (some ⟨g,0,none⟩) xs.length cq],.bool false]) (by simp[results,Tryz.results121,go_sem, *]) rfl (eB (by simp) (bH (ab.out.alloc _) (by omega)) (af.out.alloc _))
theorem aFf (aA aB id:Int)(b off cap:Nat)(x:Int)(xs:List Int)(w:World)(hn0:4≤xs.length)(hn:xs.length≤12)(HX0:Hid (xs[0]? =some x)) (hb:b<w.heap.size) (HCX:Hid (w.cell? ⟨b,off,none⟩=some (.int .i64 x))) (hx0:(x !=0)=false) (hid:id<1)
  (HI:Hid (∀w,Calls Tryz.prog 77 #[(),(),((xs.length:Int)-1:Int)] w fun e w'=>e= .returned (.bool true)∧w=w'))
  (HV:xB 90 #[aH aA aB (some ⟨b,off,none⟩) xs.length cap] w true)
  (HC:Hid (∀w',Ext w w'→Calls Tryz.prog 104 #[aH aA aB (some ⟨b,off,none⟩) xs.length cap] w' (cZ aA aB xs w'))):
  Calls Tryz.prog 121 #[aH aA aB (some ⟨b,off,none⟩) xs.length cap,(),id] w (cQ aA aB xs false w):=by
 go_enter Tryz.func121,Tryz.ntmps121
 have z:=xQ (Ext.refl w)
 go_wp2_with fail
 refine(HV _ (by exact .alloc (.alloc (.refl _) _) _)).mono ?_
 rintro e w1 ⟨rfl,a⟩
 have aa:Ext w w1:=(((Ext.refl _).alloc _).alloc _).trans a
 have z1:w.heap.size+2≤w1.heap.size:=by have:=a.sz;(try simp at this);omega
 have n:=xQ (z.out.trans aa)
 clear z
 have i:=xQ (show Blk w1 (w.heap.size) TH3 #[aA,aB,.slice (some ⟨b,off,none⟩) xs.length cap] by have:=((Blk.new w TH3 #[aA,aB,.slice (some ⟨b,off,none⟩) xs.length cap]).alloc _).ext a;simpa using this)
 have t:=xQ (show Blk w1 (w.heap.size+1) TH3 #[(),(),((),())] by have:=(Blk.new (w.alloc (.cells #[aA,aB,.slice (some ⟨b,off,none⟩) xs.length cap] TH3)) TH3 #[(),(),((),())]).ext a;simpa using this)
 clear aa
 have k:w.heap.size<w1.heap.size:=i.out.lt
 have o:w.heap.size+1<w1.heap.size:=t.out.lt
 clear a
 obtain⟨c0,c1,c2⟩:=i.out.tri
 go_wp2_with fail
 clear c0 c1 c2
 refine(HC _ n.out).mono ?_
 rintro e w2 ⟨q,cq,rfl,ho,m⟩
 have h:Ext w1 w2:=by exact m
 have z2:w1.heap.size+0≤w2.heap.size:=by have:=m.sz;(try simp at this);omega
 have j:=xQ (n.out.trans h)
 have d:=xQ (i.out.ext h)
 have f:=xQ (t.out.ext h)
 clear n i t h k
 have r:w.heap.size<w2.heap.size:=d.out.lt
 clear o
 have s:w.heap.size+1<w2.heap.size:=f.out.lt
 obtain⟨g,rfl,al,am⟩:=eL ho (by omega)
 have u:=xQ (ho)
 clear m ho
 have cx:w2.cell? ⟨b,off,none⟩=some (.int .i64 x):=(Ext.cells j.out).1 _ _ hb |>.trans HCX.out
 have lb:b<w2.heap.size:=Nat.lt_of_lt_of_le hb j.out.sz
 have ak:w.heap.size<w2.heap.size:=by omega
 obtain⟨c0,c1,c2⟩:=d.out.tri
 obtain⟨z0,ai,z1,ad,z2,aj⟩:=f.out.trif
 go_wp2_with ((go_at_call 77;(with_reducible refine(HI _).mono ?_);rintro e w9 ⟨rfl,rfl⟩))
 clear cx c0 c1 c2 z0 ai z1 ad z2 aj
 have y3:=((f.out.set 0 (.int .i64 aA)).set 1 (.int .i64 aB)).set 2 (.slice (some ⟨g,0,none⟩) xs.length cq)
 simp only[List.setIfInBounds_toArray,List.set_cons_zero,List.set_cons_succ]at y3
 generalize l:World.setCell _ _ _=w3
 rw[l]at y3
 have c:ExtR (w.heap.size+1) w2 w3:=by rw[←l];exact(((ExtR.refl (w.heap.size+1) w2).setCell (p:=⟨w.heap.size+1,0,none⟩) (.inl rfl) (.int .i64 aA)).setCell (p:=⟨w.heap.size+1,1,none⟩) (.inl rfl) (.int .i64 aB)).setCell (p:=⟨w.heap.size+1,2,none⟩) (.inl rfl) (.slice (some ⟨g,0,none⟩) xs.length cq)
 clear l
 have z3:w2.heap.size≤w3.heap.size:=c.sz
 have af:=xQ (ExtR.new j c (by omega))
 have ag:=xQ (show Blk w3 (w.heap.size) _ _ from(c.block _ d.out.lt (by first|(simp;done)|(simp;omega))).trans d.out)
 have y:=xQ (y3)
 have ab:=xQ (u.out.kept c (.inr (dG u f.out (by decide))))
 clear j d f u c y3 r
 have ah:w.heap.size<w3.heap.size:=ag.out.lt
 clear s
 have ae:w.heap.size+1<w3.heap.size:=y.out.lt
 obtain⟨y0,y1,y2⟩:=y.out.tri
 exact bodyPost_ret (v:= .tuple #[.agg #[aA,aB,.slice (some ⟨g,0,none⟩) xs.length cq],.bool false]) (by simp[results,Tryz.results121,go_sem, *]) rfl (eB (by simp) (bH (ab.out.alloc _) (by omega)) (af.out.alloc _))
theorem aCb (aA aB id:Int)(b off cap:Nat)(x:Int)(xs:List Int)(w:World)(hn0:4≤xs.length)(hn:xs.length≤12)(HX0:Hid (xs[0]? =some x)) (hb:b<w.heap.size) (HCX:Hid (w.cell? ⟨b,off,none⟩=some (.int .i64 x))) (hx0:(x !=0)=false) (hid:1≤id)
  (HI:Hid (∀w,Calls Tryz.prog 77 #[(),(),((xs.length:Int)-1:Int)] w fun e w'=>e= .returned (.bool true)∧w=w'))
  (HV2:Hid (∀w' q c,Sl w' q xs.length c 1 (ivs (xs.set 0 id))→Calls Tryz.prog 90 #[aH aA aB q xs.length c] w' fun e w''=>e= .returned (.bool true)∧Ext w' w''))
  (HV:xB 90 #[aH aA aB (some ⟨b,off,none⟩) xs.length cap] w true)
  (HC:Hid (∀w',Ext w w'→Calls Tryz.prog 104 #[aH aA aB (some ⟨b,off,none⟩) xs.length cap] w' (cZ aA aB xs w'))):
  Calls Tryz.prog 121 #[aH aA aB (some ⟨b,off,none⟩) xs.length cap,(),id] w (cQ aA aB (xs.set 0 id) true w):=by
 have ba:decide (id<1)=false:=by simp;omega
 go_enter Tryz.func121,Tryz.ntmps121
 have ar:=xQ (Ext.refl w)
 go_wp2_with fail
 refine(HV _ (by exact .alloc (.alloc (.refl _) _) _)).mono ?_
 rintro e w1 ⟨rfl,f⟩
 have av:Ext w w1:=(((Ext.refl _).alloc _).alloc _).trans f
 have z1:w.heap.size+2≤w1.heap.size:=by have:=f.sz;(try simp at this);omega
 have ao:=xQ (ar.out.trans av)
 clear ar
 have m:=xQ (show Blk w1 (w.heap.size) TH3 #[aA,aB,.slice (some ⟨b,off,none⟩) xs.length cap] by have:=((Blk.new w TH3 #[aA,aB,.slice (some ⟨b,off,none⟩) xs.length cap]).alloc _).ext f;simpa using this)
 have ad:=xQ (show Blk w1 (w.heap.size+1) TH3 #[(),(),((),())] by have:=(Blk.new (w.alloc (.cells #[aA,aB,.slice (some ⟨b,off,none⟩) xs.length cap] TH3)) TH3 #[(),(),((),())]).ext f;simpa using this)
 clear av
 have al:w.heap.size<w1.heap.size:=m.out.lt
 have ab:w.heap.size+1<w1.heap.size:=ad.out.lt
 clear f
 obtain⟨c0,c1,c2⟩:=m.out.tri
 go_wp2_with fail
 clear c0 c1 c2
 refine(HC _ ao.out).mono ?_
 rintro e w2 ⟨q,cq,rfl,ho,y⟩
 have l:Ext w1 w2:=by exact y
 have z2:w1.heap.size+0≤w2.heap.size:=by have:=y.sz;(try simp at this);omega
 have n:=xQ (ao.out.trans l)
 have j:=xQ (m.out.ext l)
 have u:=xQ (ad.out.ext l)
 clear ao m ad l al
 have ah:w.heap.size<w2.heap.size:=j.out.lt
 clear ab
 have aj:w.heap.size+1<w2.heap.size:=u.out.lt
 obtain⟨g,rfl,bf,bc⟩:=eL ho (by omega)
 have d:=xQ (ho)
 clear y ho
 have cx:w2.cell? ⟨b,off,none⟩=some (.int .i64 x):=(Ext.cells n.out).1 _ _ hb |>.trans HCX.out
 have lb:b<w2.heap.size:=Nat.lt_of_lt_of_le hb n.out.sz
 have be:w.heap.size<w2.heap.size:=by omega
 obtain⟨c0,c1,c2⟩:=j.out.tri
 have a6:w2.cell? ⟨g,0,none⟩=some (.int .i64 x):=by have:=d.out.cellAt 0 (by omega);rw[this];simpa[ivs]using HX0.out
 have a2:w2.frozen? ⟨g,0,none⟩=false:=d.out.frozenAt 0
 have bd:g≠w2.heap.size:=by omega
 go_upto_region 7 with((go_at_call 77;(with_reducible refine(HI _).mono ?_);rintro e w9 ⟨rfl,rfl⟩))
 clear cx a6 a2 c0 c1 c2
 have y3:=(d.out.stored (0) (.int .i64 id)).1
 have s:ExtR (g) w2 _:=(d.out.stored (0) (.int .i64 id)).2
 have o:(World.setCell w2 ⟨g,0,none⟩ (.int .i64 id)).heap.size=w2.heap.size:=by simp
 generalize a1:World.setCell _ _ _=w3 at*
 rw[←o]
 clear a1
 have z3:w2.heap.size≤w3.heap.size:=Nat.le_of_eq o.symm
 have bb:w3.heap.size≤w2.heap.size:=Nat.le_of_eq o
 clear o
 have aw:=xQ (ExtR.new n s (by omega))
 have aa:=xQ (show Blk w3 (w.heap.size) _ _ from(s.block _ j.out.lt (by first|(simp;done)|(simp;omega))).trans j.out)
 have ae:=xQ (show Blk w3 (w.heap.size+1) _ _ from(s.block _ u.out.lt (by first|(simp;done)|(simp;omega))).trans u.out)
 have an:=xQ (y3)
 clear n j u d s y3 ah
 have ai:w.heap.size<w3.heap.size:=aa.out.lt
 clear aj
 have z:w.heap.size+1<w3.heap.size:=ae.out.lt
 go_wp2_with fail
 refine(HV2 (w3.alloc (.cells #[aA,aB,.slice (some ⟨g,0,none⟩) xs.length cq] TH3)) _ _ (by rw[←dV];exact Sl.own (an.out.alloc _))).mono ?_
 rintro e w4 ⟨rfl,r⟩
 have i:Ext w3 w4:=((Ext.refl _).alloc _).trans r
 have z4:w3.heap.size+1≤w4.heap.size:=by have:=r.sz;(try simp at this);omega
 have au:=xQ (aw.out.trans i)
 have t:=xQ (aa.out.ext i)
 have h:=xQ (ae.out.ext i)
 have ak:=xQ (bC an i)
 clear aw aa ae an
 have k:=xQ (show Blk w4 (w3.heap.size) TH3 #[aA,aB,.slice (some ⟨g,0,none⟩) xs.length cq] by have:=(Blk.new w3 TH3 #[aA,aB,.slice (some ⟨g,0,none⟩) xs.length cq]).ext r;simpa using this)
 clear i ai
 have ap:w.heap.size<w4.heap.size:=t.out.lt
 clear z
 have am:w.heap.size+1<w4.heap.size:=h.out.lt
 have af:w3.heap.size<w4.heap.size:=k.out.lt
 clear r
 obtain⟨v0,v1,v2⟩:=k.out.tri
 obtain⟨z0,a9,z1,ay,z2,a5⟩:=h.out.trif
 go_wp2
 have y5:=((h.out.set 0 (.int .i64 aA)).set 1 (.int .i64 aB)).set 2 (.slice (some ⟨g,0,none⟩) xs.length cq)
 simp only[List.setIfInBounds_toArray,List.set_cons_zero,List.set_cons_succ]at y5
 generalize ag:World.setCell _ _ _=w5
 rw[ag]at y5
 have a:ExtR (w.heap.size+1) w4 w5:=by rw[←ag];exact(((ExtR.refl (w.heap.size+1) w4).setCell (p:=⟨w.heap.size+1,0,none⟩) (.inl rfl) (.int .i64 aA)).setCell (p:=⟨w.heap.size+1,1,none⟩) (.inl rfl) (.int .i64 aB)).setCell (p:=⟨w.heap.size+1,2,none⟩) (.inl rfl) (.slice (some ⟨g,0,none⟩) xs.length cq)
 clear ag
 have z5:w4.heap.size≤w5.heap.size:=a.sz
 have ax:=xQ (ExtR.new au a (by omega))
 have a8:=xQ (show Blk w5 (w.heap.size) _ _ from(a.block _ t.out.lt (by first|(simp;done)|(simp;omega))).trans t.out)
 have aq:=xQ (y5)
 have a0:=xQ (ak.out.kept a (.inr (dG ak h.out (by decide))))
 have a3:=xQ (show Blk w5 (w3.heap.size) _ _ from(a.block _ k.out.lt (by first|(simp;done)|(simp;omega))).trans k.out)
 clear au t h ak k a y5 ap
 have a7:w.heap.size<w5.heap.size:=a8.out.lt
 clear am
 have az:w.heap.size+1<w5.heap.size:=aq.out.lt
 clear af
 have a4:w3.heap.size<w5.heap.size:=a3.out.lt
 clear v0 v1 v2 z0 a9 z1 ay z2 a5
 obtain⟨y0,y1,y2⟩:=aq.out.tri
 exact bodyPost_ret (v:= .tuple #[.agg #[aA,aB,.slice (some ⟨g,0,none⟩) xs.length cq],.bool true]) (by simp[results,Tryz.results121,go_sem, *]) rfl (eB (by simp) (bH (by rw[←dV];exact a0.out) (by omega)) ax.out)
theorem aCc (aA aB id:Int)(b off cap:Nat)(x:Int)(xs:List Int)(w:World)(hn0:4≤xs.length)(hn:xs.length≤12)(HX0:Hid (xs[0]? =some x)) (hb:b<w.heap.size) (HCX:Hid (w.cell? ⟨b,off,none⟩=some (.int .i64 x))) (hx0:(x !=0)=false) (hid:1≤id)
  (HI:Hid (∀w,Calls Tryz.prog 77 #[(),(),((xs.length:Int)-1:Int)] w fun e w'=>e= .returned (.bool true)∧w=w'))
  (HV2:Hid (∀w' q c,Sl w' q xs.length c 1 (ivs (xs.set 0 id))→Calls Tryz.prog 90 #[aH aA aB q xs.length c] w' fun e w''=>e= .returned (.bool false)∧Ext w' w''))
  (HV:xB 90 #[aH aA aB (some ⟨b,off,none⟩) xs.length cap] w true)
  (HC:Hid (∀w',Ext w w'→Calls Tryz.prog 104 #[aH aA aB (some ⟨b,off,none⟩) xs.length cap] w' (cZ aA aB xs w'))):
  Calls Tryz.prog 121 #[aH aA aB (some ⟨b,off,none⟩) xs.length cap,(),id] w (cQ aA aB xs false w):=by
 have bl:decide (id<1)=false:=by simp;omega
 go_enter Tryz.func121,Tryz.ntmps121
 have a2:=xQ (Ext.refl w)
 go_wp2_with fail
 refine(HV _ (by exact .alloc (.alloc (.refl _) _) _)).mono ?_
 rintro e w1 ⟨rfl,i⟩
 have a4:Ext w w1:=(((Ext.refl _).alloc _).alloc _).trans i
 have z1:w.heap.size+2≤w1.heap.size:=by have:=i.sz;(try simp at this);omega
 have ax:=xQ (a2.out.trans a4)
 clear a2
 have n:=xQ (show Blk w1 (w.heap.size) TH3 #[aA,aB,.slice (some ⟨b,off,none⟩) xs.length cap] by have:=((Blk.new w TH3 #[aA,aB,.slice (some ⟨b,off,none⟩) xs.length cap]).alloc _).ext i;simpa using this)
 have ah:=xQ (show Blk w1 (w.heap.size+1) TH3 #[(),(),((),())] by have:=(Blk.new (w.alloc (.cells #[aA,aB,.slice (some ⟨b,off,none⟩) xs.length cap] TH3)) TH3 #[(),(),((),())]).ext i;simpa using this)
 clear a4
 have ar:w.heap.size<w1.heap.size:=n.out.lt
 have af:w.heap.size+1<w1.heap.size:=ah.out.lt
 clear i
 obtain⟨c0,c1,c2⟩:=n.out.tri
 go_wp2_with fail
 clear c0 c1 c2
 refine(HC _ ax.out).mono ?_
 rintro e w2 ⟨q,cq,rfl,ho,ab⟩
 have m:Ext w1 w2:=by exact ab
 have z2:w1.heap.size+0≤w2.heap.size:=by have:=ab.sz;(try simp at this);omega
 have o:=xQ (ax.out.trans m)
 have l:=xQ (n.out.ext m)
 have aa:=xQ (ah.out.ext m)
 clear ax n ah m ar
 have am:w.heap.size<w2.heap.size:=l.out.lt
 clear af
 have aq:w.heap.size+1<w2.heap.size:=aa.out.lt
 obtain⟨g,rfl,bq,bn⟩:=eL ho (by omega)
 have h:=xQ (ho)
 clear ab ho
 have cx:w2.cell? ⟨b,off,none⟩=some (.int .i64 x):=(Ext.cells o.out).1 _ _ hb |>.trans HCX.out
 have lb:b<w2.heap.size:=Nat.lt_of_lt_of_le hb o.out.sz
 have bp:w.heap.size<w2.heap.size:=by omega
 obtain⟨c0,c1,c2⟩:=l.out.tri
 have bi:w2.cell? ⟨g,0,none⟩=some (.int .i64 x):=by have:=h.out.cellAt 0 (by omega);rw[this];simpa[ivs]using HX0.out
 have bf:w2.frozen? ⟨g,0,none⟩=false:=h.out.frozenAt 0
 have bo:g≠w2.heap.size:=by omega
 go_upto_region 7 with((go_at_call 77;(with_reducible refine(HI _).mono ?_);rintro e w9 ⟨rfl,rfl⟩))
 clear cx bi bf c0 c1 c2
 have y3:=(h.out.stored (0) (.int .i64 id)).1
 have t:ExtR (g) w2 _:=(h.out.stored (0) (.int .i64 id)).2
 have r:(World.setCell w2 ⟨g,0,none⟩ (.int .i64 id)).heap.size=w2.heap.size:=by simp
 generalize be:World.setCell _ _ _=w3 at*
 rw[←r]
 clear be
 have z3:w2.heap.size≤w3.heap.size:=Nat.le_of_eq r.symm
 have bm:w3.heap.size≤w2.heap.size:=Nat.le_of_eq r
 clear r
 have a6:=xQ (ExtR.new o t (by omega))
 have ae:=xQ (show Blk w3 (w.heap.size) _ _ from(t.block _ l.out.lt (by first|(simp;done)|(simp;omega))).trans l.out)
 have ai:=xQ (show Blk w3 (w.heap.size+1) _ _ from(t.block _ aa.out.lt (by first|(simp;done)|(simp;omega))).trans aa.out)
 have aw:=xQ (y3)
 clear o l aa h t y3 am
 have an:w.heap.size<w3.heap.size:=ae.out.lt
 clear aq
 have ad:w.heap.size+1<w3.heap.size:=ai.out.lt
 go_wp2_with fail
 refine(HV2 (w3.alloc (.cells #[aA,aB,.slice (some ⟨g,0,none⟩) xs.length cq] TH3)) _ _ (by rw[←dV];exact Sl.own (aw.out.alloc _))).mono ?_
 rintro e w4 ⟨rfl,s⟩
 have k:Ext w3 w4:=((Ext.refl _).alloc _).trans s
 have z4:w3.heap.size+1≤w4.heap.size:=by have:=s.sz;(try simp at this);omega
 have ap:=xQ (a6.out.trans k)
 have y:=xQ (ae.out.ext k)
 have au:=xQ (ai.out.ext k)
 have a5:=xQ (bC aw k)
 clear a6 ae ai aw
 have a0:=xQ (show Blk w4 (w3.heap.size) TH3 #[aA,aB,.slice (some ⟨g,0,none⟩) xs.length cq] by have:=(Blk.new w3 TH3 #[aA,aB,.slice (some ⟨g,0,none⟩) xs.length cq]).ext s;simpa using this)
 clear k an
 have ay:w.heap.size<w4.heap.size:=y.out.lt
 clear ad
 have av:w.heap.size+1<w4.heap.size:=au.out.lt
 have aj:w3.heap.size<w4.heap.size:=a0.out.lt
 clear s
 obtain⟨h0,h1,h2⟩:=y.out.tri
 go_wp2_with fail
 clear h0 h1 h2
 refine(HC _ ap.out).mono ?_
 rintro e w5 ⟨q5,c5,rfl,o5,ag⟩
 have a:Ext w4 w5:=by exact ag
 have z5:w4.heap.size+0≤w5.heap.size:=by have:=ag.sz;(try simp at this);omega
 have a1:=xQ (ap.out.trans a)
 have z:=xQ (y.out.ext a)
 have f:=xQ (au.out.ext a)
 have bd:=xQ (bC a5 a)
 have u:=xQ (a0.out.ext a)
 clear ap y au a5 a0 a ay
 have az:w.heap.size<w5.heap.size:=z.out.lt
 clear av
 have ak:w.heap.size+1<w5.heap.size:=f.out.lt
 clear aj
 have ao:w3.heap.size<w5.heap.size:=u.out.lt
 have j:=xQ (o5)
 clear ag o5 bd
 obtain⟨z0,bk,z1,bb,z2,bh⟩:=f.out.trif
 go_wp2
 have y6:=((f.out.set 0 (.int .i64 aA)).set 1 (.int .i64 aB)).set 2 (.slice q5 xs.length c5)
 simp only[List.setIfInBounds_toArray,List.set_cons_zero,List.set_cons_succ]at y6
 generalize al:World.setCell _ _ _=w6
 rw[al]at y6
 have d:ExtR (w.heap.size+1) w5 w6:=by rw[←al];exact(((ExtR.refl (w.heap.size+1) w5).setCell (p:=⟨w.heap.size+1,0,none⟩) (.inl rfl) (.int .i64 aA)).setCell (p:=⟨w.heap.size+1,1,none⟩) (.inl rfl) (.int .i64 aB)).setCell (p:=⟨w.heap.size+1,2,none⟩) (.inl rfl) (.slice q5 xs.length c5)
 clear al
 have z6:w5.heap.size≤w6.heap.size:=d.sz
 have bc:=xQ (ExtR.new a1 d (by omega))
 have a8:=xQ (show Blk w6 (w.heap.size) _ _ from(d.block _ z.out.lt (by first|(simp;done)|(simp;omega))).trans z.out)
 have a7:=xQ (y6)
 have bg:=xQ (show Blk w6 (w3.heap.size) _ _ from(d.block _ u.out.lt (by first|(simp;done)|(simp;omega))).trans u.out)
 have a3:=xQ (j.out.kept d (.inr (dG j f.out (by decide))))
 clear a1 z f u j d y6 az
 have ba:w.heap.size<w6.heap.size:=a8.out.lt
 clear ak
 have bj:w.heap.size+1<w6.heap.size:=a7.out.lt
 clear ao
 have a9:w3.heap.size<w6.heap.size:=bg.out.lt
 clear z0 bk z1 bb z2 bh
 obtain⟨y0,y1,y2⟩:=a7.out.tri
 exact bodyPost_ret (v:= .tuple #[.agg #[aA,aB,.slice q5 xs.length c5],.bool false]) (by simp[results,Tryz.results121,go_sem, *]) rfl (eB (by simp) (bH (by exact a3.out) (by omega)) bc.out)
theorem aHk (aA aB:Int)(b off cap:Nat)(x:Int)(xs:List Int)(w:World)(hn0:4≤xs.length)(hn:xs.length≤12)(HX0:Hid (xs[0]? =some x)) (hb:b<w.heap.size) (HCX:Hid (w.cell? ⟨b,off,none⟩=some (.int .i64 x)))
  (HI:Hid (∀w,Calls Tryz.prog 77 #[(),(),((xs.length:Int)-1:Int)] w fun e w'=>e= .returned (.bool true)∧w=w'))
  (HV:xB 90 #[aH aA aB (some ⟨b,off,none⟩) xs.length cap] w true)
  (HC:Hid (∀w',Ext w w'→Calls Tryz.prog 104 #[aH aA aB (some ⟨b,off,none⟩) xs.length cap] w' (cZ aA aB xs w'))):
  Calls Tryz.prog 124 #[aH aA aB (some ⟨b,off,none⟩) xs.length cap,()] w (cO aA aB (xs.set 0 0) x w):=by
 go_enter Tryz.func124,Tryz.ntmps124
 have ao:=xQ (Ext.refl w)
 go_wp2_with fail
 refine(HV _ (by exact .alloc (.alloc (.refl _) _) _)).mono ?_
 rintro e w1 ⟨rfl,d⟩
 have aq:Ext w w1:=(((Ext.refl _).alloc _).alloc _).trans d
 have z1:w.heap.size+2≤w1.heap.size:=by have:=d.sz;(try simp at this);omega
 have al:=xQ (ao.out.trans aq)
 clear ao
 have l:=xQ (show Blk w1 (w.heap.size) TH3 #[aA,aB,.slice (some ⟨b,off,none⟩) xs.length cap] by have:=((Blk.new w TH3 #[aA,aB,.slice (some ⟨b,off,none⟩) xs.length cap]).alloc _).ext d;simpa using this)
 have z:=xQ (show Blk w1 (w.heap.size+1) TH3 #[(),(),((),())] by have:=(Blk.new (w.alloc (.cells #[aA,aB,.slice (some ⟨b,off,none⟩) xs.length cap] TH3)) TH3 #[(),(),((),())]).ext d;simpa using this)
 clear aq
 have aj:w.heap.size<w1.heap.size:=l.out.lt
 have y:w.heap.size+1<w1.heap.size:=z.out.lt
 clear d
 obtain⟨c0,c1,c2⟩:=l.out.tri
 go_wp2_with fail
 clear c0 c1 c2
 refine(HC _ al.out).mono ?_
 rintro e w2 ⟨q,cq,rfl,ho,s⟩
 have k:Ext w1 w2:=by exact s
 have z2:w1.heap.size+0≤w2.heap.size:=by have:=s.sz;(try simp at this);omega
 have m:=xQ (al.out.trans k)
 have i:=xQ (l.out.ext k)
 have r:=xQ (z.out.ext k)
 clear al l z k aj
 have ae:w.heap.size<w2.heap.size:=i.out.lt
 clear y
 have ah:w.heap.size+1<w2.heap.size:=r.out.lt
 obtain⟨g,rfl,be,bb⟩:=eL ho (by omega)
 have c:=xQ (ho)
 clear s ho
 have cx:w2.cell? ⟨b,off,none⟩=some (.int .i64 x):=(Ext.cells m.out).1 _ _ hb |>.trans HCX.out
 have lb:b<w2.heap.size:=Nat.lt_of_lt_of_le hb m.out.sz
 have bd:w.heap.size<w2.heap.size:=by omega
 obtain⟨c0,c1,c2⟩:=i.out.tri
 have a5:w2.cell? ⟨g,0,none⟩=some (.int .i64 x):=by have:=c.out.cellAt 0 (by omega);rw[this];simpa[ivs]using HX0.out
 have a0:w2.frozen? ⟨g,0,none⟩=false:=c.out.frozenAt 0
 have bc:g≠w2.heap.size:=by omega
 go_upto_region 7 with((go_at_call 77;(with_reducible refine(HI _).mono ?_);rintro e w9 ⟨rfl,rfl⟩))
 clear cx a5 a0 c0 c1 c2
 have y3:=(c.out.stored (0) (.int .i64 0)).1
 have o:ExtR (g) w2 _:=(c.out.stored (0) (.int .i64 0)).2
 have n:(World.setCell w2 ⟨g,0,none⟩ (.int .i64 0)).heap.size=w2.heap.size:=by simp
 generalize az:World.setCell _ _ _=w3 at*
 rw[←n]
 clear az
 have z3:w2.heap.size≤w3.heap.size:=Nat.le_of_eq n.symm
 have a9:w3.heap.size≤w2.heap.size:=Nat.le_of_eq n
 clear n
 have au:=xQ (ExtR.new m o (by omega))
 have u:=xQ (show Blk w3 (w.heap.size) _ _ from(o.block _ i.out.lt (by first|(simp;done)|(simp;omega))).trans i.out)
 have aa:=xQ (show Blk w3 (w.heap.size+1) _ _ from(o.block _ r.out.lt (by first|(simp;done)|(simp;omega))).trans r.out)
 have ar:=xQ (y3)
 clear m i r c o y3 ae
 have af:w.heap.size<w3.heap.size:=u.out.lt
 clear ah
 have t:w.heap.size+1<w3.heap.size:=aa.out.lt
 have hV:Blk (w3.alloc (.cells #[aA,aB,.slice (some ⟨g,0,none⟩) xs.length cq] TH3)) w3.heap.size TH3 #[aA,aB,.slice (some ⟨g,0,none⟩) xs.length cq]:=Blk.new _ _ _
 generalize ap:w3.alloc (.cells #[aA,aB,.slice (some ⟨g,0,none⟩) xs.length cq] TH3)=w4 at*
 have e4:Ext w3 w4:=by rw[←ap];exact(Ext.refl _).alloc _
 clear ap
 have ag:=xQ (au.out.trans e4)
 clear au
 have f:=xQ (u.out.ext e4)
 clear u
 have h:=xQ (aa.out.ext e4)
 clear aa
 have ai:=xQ (bC ar e4)
 clear ar
 have j:=xQ hV
 clear hV e4 af
 have am:w.heap.size<w4.heap.size:=f.out.lt
 clear t
 have ak:w.heap.size+1<w4.heap.size:=h.out.lt
 have ab:w3.heap.size<w4.heap.size:=j.out.lt
 have cx:w4.cell? ⟨b,off,none⟩=some (.int .i64 x):=(Ext.cells ag.out).1 _ _ hb |>.trans HCX.out
 have ba:0<xs.length:=by omega
 have a3:(0:Int)<(xs.length:Int):=by omega
 have n1: ¬(w3.heap.size=w.heap.size+1):=by omega
 have n2: ¬(w.heap.size+1=w3.heap.size):=by omega
 have n3: ¬(b=w.heap.size+1):=by omega
 have n4: ¬(w.heap.size+1=b):=by omega
 obtain⟨v0,v1,v2⟩:=j.out.tri
 have c2:=f.out.cl 2
 obtain⟨z0,a8,z1,aw,z2,a4⟩:=h.out.trif
 go_region_held3 (fun w'=>w'.cell? ⟨w3.heap.size,0,none⟩=some (.int .i64 aA)∧w'.cell? ⟨w3.heap.size,1,none⟩=some (.int .i64 aB)∧w'.cell? ⟨w3.heap.size,2,none⟩=some (.slice (some ⟨g,0,none⟩) xs.length cq)∧w'.cell? ⟨w.heap.size,2,none⟩=some (.slice (some ⟨b,off,none⟩) xs.length cap)∧w'.cell? ⟨b,off,none⟩=some (.int .i64 x)) (first|(refine⟨?_,?_,?_,?_,?_⟩<;>assumption)|go_keep) (fail)
 go_wp2
 have y5:=((h.out.set 0 (.int .i64 aA)).set 1 (.int .i64 aB)).set 2 (.slice (some ⟨g,0,none⟩) xs.length cq)
 simp only[List.setIfInBounds_toArray,List.set_cons_zero,List.set_cons_succ]at y5
 generalize ad:World.setCell _ _ _=w5
 rw[ad]at y5
 have a:ExtR (w.heap.size+1) w4 w5:=by rw[←ad];exact(((ExtR.refl (w.heap.size+1) w4).setCell (p:=⟨w.heap.size+1,0,none⟩) (.inl rfl) (.int .i64 aA)).setCell (p:=⟨w.heap.size+1,1,none⟩) (.inl rfl) (.int .i64 aB)).setCell (p:=⟨w.heap.size+1,2,none⟩) (.inl rfl) (.slice (some ⟨g,0,none⟩) xs.length cq)
 clear ad
 have z5:w4.heap.size≤w5.heap.size:=a.sz
 have av:=xQ (ExtR.new ag a (by omega))
 have a7:=xQ (show Blk w5 (w.heap.size) _ _ from(a.block _ f.out.lt (by first|(simp;done)|(simp;omega))).trans f.out)
 have an:=xQ (y5)
 have ay:=xQ (ai.out.kept a (.inr (dG ai h.out (by decide))))
 have a1:=xQ (show Blk w5 (w3.heap.size) _ _ from(a.block _ j.out.lt (by first|(simp;done)|(simp;omega))).trans j.out)
 clear ag f h ai j a y5 am
 have a6:w.heap.size<w5.heap.size:=a7.out.lt
 clear ak
 have ax:w.heap.size+1<w5.heap.size:=an.out.lt
 clear ab
 have a2:w3.heap.size<w5.heap.size:=a1.out.lt
 clear cx v0 v1 v2 c2 z0 a8 z1 aw z2 a4
 obtain⟨y0,y1,y2⟩:=an.out.tri
 exact bodyPost_ret (v:= .tuple #[.agg #[aA,aB,.slice (some ⟨g,0,none⟩) xs.length cq],x]) (by simp[results,Tryz.results124,go_sem, *]) rfl (eH (by simp) (bH (by rw[←dV];exact bC ay (Ext.refl _).drew) (by omega)) av.out.drew)
theorem aBf (aA aB id:Int)(p:OA)(n cap:Nat)(xs:List Int)(w:World)(hS:Sl w p n cap 1 (ivs xs))(hok:aN aA aB xs=true):
  Calls Tryz.prog 121 #[aH aA aB p n cap,(),id] w (cQ aA aB (cV aA aB xs id).1 (cV aA aB xs id).2 w):=by
 have hl:=hS.ilen
 subst hl
 obtain⟨g1,g2,g3,g4,g5,g6,g7,g8,g9⟩:=bM hok
 obtain⟨b,a,x,rfl,hx,hb,hc⟩:=hS.int_at (k:=0) (by omega)
 have e:w.cell? ⟨b,a,none⟩=some (.int .i64 x):=by simpa using hc
 have f:xs.getD 0 0=x:=by rw[List.getD_eq_getElem?_getD,hx];rfl
 have HV:=fun(w':World) (hy:Ext w w')=>fX aA aB _ xs.length cap xs w' (hS.ext hy)
 rw[hok]at HV
 have HC:=fun(w':World) (hy:Ext w w')=>fG aA aB _ xs.length cap xs w' (by omega) (hS.ext hy)
 have HI:=fun(w:World)=>lZ 0 0 ((xs.length:Int)-1) w (by omega) (by omega)
 unfold cV
 rw[f]
 by_cases e0:x=0
 ·have e1:(x !=0)=false:=by simp[e0]
  by_cases hi:1≤id
  ·have d:=fun(w':World) q c (h:Sl w' q xs.length c 1 (ivs (xs.set 0 id)))=>fX aA aB q xs.length c (xs.set 0 id) w' h
   cases h2:aN aA aB (xs.set 0 id)with
   |true=>rw[h2]at d;rw[if_pos ⟨e0,hi,rfl⟩];exact aCb aA aB id b a cap x xs w g5 g6 hx hb e e1 hi HI d HV HC
   |false=>rw[h2]at d;rw[if_neg (by simp)];exact aCc aA aB id b a cap x xs w g5 g6 hx hb e e1 hi HI d HV HC
  ·rw[if_neg (fun h=>hi h.2.1)];exact aFf aA aB id b a cap x xs w g5 g6 hx hb e e1 (by omega) HI HV HC
 ·rw[if_neg (fun h=>e0 h.1)];exact zZ aA aB id b a cap x xs w g5 g6 hx hb e (by simpa using e0) HI HV HC
theorem yV (aA aB:Int)(p:OA)(n cap:Nat)(xs:List Int)(w:World)(hS:Sl w p n cap 1 (ivs xs))(hok:aN aA aB xs=true):
  Calls Tryz.prog 124 #[aH aA aB p n cap,()] w (cO aA aB (xs.set 0 0) (xs.getD 0 0) w):=by
 have hl:=hS.ilen
 subst hl
 obtain⟨g1,g2,g3,g4,g5,g6,g7,g8,g9⟩:=bM hok
 obtain⟨b,a,x,rfl,hx,hb,hc⟩:=hS.int_at (k:=0) (by omega)
 have c:w.cell? ⟨b,a,none⟩=some (.int .i64 x):=by simpa using hc
 have d:xs.getD 0 0=x:=by rw[List.getD_eq_getElem?_getD,hx];rfl
 have HV:=fun(w':World) (hy:Ext w w')=>fX aA aB _ xs.length cap xs w' (hS.ext hy)
 rw[hok]at HV
 rw[d]
 exact aHk aA aB b a cap x xs w g5 g6 hx hb c (fun w=>lZ 0 0 ((xs.length:Int)-1) w (by omega) (by omega)) HV (fun(w':World) (hy:Ext w w')=>fG aA aB _ xs.length cap xs w' (by omega) (hS.ext hy))
abbrev Sl2:=Int×Int
def aK (s:Sl2):List Value:= [.int .i64 s.1,.int .i64 s.2]
def eY (l:List Sl2)(w:World)(e:Ending)(w':World):Prop:=
 ∃p cap,e= .returned (.slice p l.length cap)∧w'.ownsRow w.heap.size TSL 2 (.slice p l.length cap) l.length (l.flatMap aK)∧Ext w w'
theorem oO:ElT Tryz.prog 132 TSL 2:=
 ⟨Tryz.underlying132,by
  obtain⟨i,hi,h0,h1,h2⟩:=info_parts (show(Tryz.prog.info? TSL).map (fun i=>(i.zero,i.size,i.bytes))=some (some (.agg #[(),()]),2,16) by kernel_rfl)
  exact⟨i,_,hi,h0,h1,by omega,rfl⟩,by omega⟩
theorem uW (w:World)(a b:Value)(t:TypeId): ∀j u,([a,b]:List Value)[j]? =some u→(w.alloc (.cells #[a,b] t)).cell? ⟨w.heap.size,0+j,none⟩=some u:=by
 intro j u hu
 rw[Nat.zero_add]
 match j,hu with
 |0,hu=>simp at hu;subst hu;exact(Blk.new w t #[a,b]).cell 0
 |1,hu=>simp at hu;subst hu;exact(Blk.new w t #[a,b]).cell 1
def jO (m:Nat→Bool)(f:Nat):Nat→List Sl2
 |0=> []
 |k+1=>jO m f k++(if m k then [((f:Int),(k:Int))]else [])
def dO (m:Nat→Nat→Bool)(n:Nat):Nat→List Sl2
 |0=> []
 |k+1=>dO m n k++jO (m k) k n
theorem aI2 (m:Nat→Bool)(f k:Nat):(jO m f k).length≤k:=by
 induction k with
 |zero=>exact Nat.le_refl _
 |succ k ih=>unfold jO;rw[List.length_append];split<;>simp<;>omega
theorem wJ (m:Nat→Nat→Bool)(n k:Nat):(dO m n k).length≤k*n:=by
 induction k with
 |zero=>simp[dO]
 |succ k ih=>unfold dO;rw[List.length_append,Nat.succ_mul];have:=aI2 (m k) k n;omega
def gJ (aA aB:Int)(xs:List Int):List Sl2:=dO (fun f t=>bA aA aB xs f t) xs.length xs.length
theorem aHe (aA aB:Int)(p:OA)(n cap:Nat)(m:Nat→Nat→Bool)(w:World)(hn:n≤12)
  (HM:Hid (∀(f t:Nat),f<n→t<n→ ∀w',Ext w w'→Calls Tryz.prog 127 #[aH aA aB p n cap,dS (f:Int) (t:Int)] w' fun e w''=>e= .returned (.bool (m f t))∧Ext w' w'')):
  Calls Tryz.prog 111 #[aH aA aB p n cap] w (eY (dO m n n) w):=by
 go_enter Tryz.func111,Tryz.ntmps111
 go_wp2
 go_loopw [3,4] (fun v i wr=> ∃(k:Nat) (q:OA) (l c:Nat),k≤n∧i= .int .i64 k∧v= .slice q l c∧l≤k*n∧wr.ownsRow (w.heap.size+1) TSL 2 (.slice q l c) l ((dO m n k).flatMap aK)∧Ext w wr∧Blk wr w.heap.size TH3 #[aA,aB,.slice p n cap]) (fun _ i _=>n-(intOf i).toNat)
 case atStart=>
  have ho:((w.alloc (.cells #[aA,aB,.slice p n cap] TH3)).alloc (.cells #[] TSL)).ownsRow (w.heap.size+1) TSL 2 (.slice (some ⟨(w.alloc (.cells #[aA,aB,.slice p n cap] TH3)).heap.size,0,none⟩) 0 0) 0 []:=World.ownsRow_made _ #[] 0 (by simp) (by simp[maxLen]) rfl
  exact⟨0,_,0,0,Nat.zero_le _,rfl,rfl,by simp,by simpa[dO]using ho,by exact .alloc (.alloc (.refl _) _) _,(Blk.new w _ _).alloc _⟩
 case round=>
  obtain⟨k,q,l,c,hk,rfl,rfl,r,b,d,hB⟩:=hrel
  have HO:=xQ b
  have HB:=xQ hB
  have x:w.heap.size<wr.heap.size:=hB.lt
  have s:Hid (l=(dO m n k).length):=by have:=b.1;rw[dD aK 2 (fun _=>rfl)]at this;show _=_;omega
  clear b hB
  obtain⟨b0,b1,b2⟩:=HB.out.cells3
  by_cases hlt:k<n
  ·have af:k*n≤132:=by have:=Nat.mul_le_mul (show k≤11 by omega) hn;omega
   go_wp2
   obtain⟨wo,rfl⟩: ∃wo:World,wo=wr:=⟨_,rfl⟩
   clear b0 b1 b2
   go_loopw [3,5] (fun v i wr=> ∃(j:Nat) (q:OA) (l c:Nat),j≤n∧i= .int .i64 j∧v= .slice q l c∧l≤k*n+j∧wr.ownsRow (w.heap.size+1) TSL 2 (.slice q l c) l ((dO m n k++jO (m k) k j).flatMap aK)∧Ext w wr∧Blk wr w.heap.size TH3 #[aA,aB,.slice p n cap]) (fun _ i _=>n-(intOf i).toNat)
   case atStart=>exact⟨0,q,l,c,Nat.zero_le _,rfl,rfl,by omega,by simpa[jO]using HO.out,d,HB.out⟩
   case round=>
    clear HO HB x d s r
    obtain⟨j,q,l,c,hj,rfl,rfl,r,b,d,hB⟩:=hrel
    have HO:=xQ b
    have HB:=xQ hB
    have x:w.heap.size<wr.heap.size:=hB.lt
    clear b hB
    obtain⟨b0,b1,b2⟩:=HB.out.cells3
    by_cases hlt2:j<n
    ·go_wp2_with fail
     refine(HM k j hlt hlt2 _ d).mono ?_
     rintro e w1 ⟨rfl,h1⟩
     have g:=xQ (bC HO h1)
     have o:=xQ (HB.out.ext h1)
     have h:=xQ (d.trans h1)
     have ae:w.heap.size<w1.heap.size:=o.out.lt
     clear h1 b0 b1 b2 HO HB d
     cases hm:m k j with
     |true=>
      have a:Hid (dO m n k++jO (m k) k (j+1)=(dO m n k++jO (m k) k j)++ [((k:Int),(j:Int))]):=by
       show _=_;rw[jO,if_pos hm,List.append_assoc]
      clear hm
      go_wp2_with (at_builtin;refine jD oO (f:=aK) (fun _=>rfl) (fun _ u hu=>by simp[aK]at hu;rcases hu with rfl|rfl<;>rfl) rfl _ _ rfl (w.heap.size+1) _ _ _ rfl (g.out.alloc _) _ _ ((k:Int),(j:Int)) _ rfl (uW _ _ _ _) (by omega) (by first|(simp;done)|(simp;omega)) ?_;intro p' cap' w2 hown1 hg1;have ad:=xQ hown1;have y:Ext w w2:=Ext.own (h.out.alloc _) (g.out.alloc _) hg1 (by omega);have ab:=xQ (oR g hg1 o.out);clear hown1 hg1)
      go_roundw
      case rel=>exact⟨j+1,p',l+1,cap',by omega,by go_num,rfl,by omega,by rw[a.out];exact ad.out,y,ab.out⟩
      case measure=>simp[intOf];omega
     |false=>
      have a:Hid (dO m n k++jO (m k) k (j+1)=dO m n k++jO (m k) k j):=by
       show _=_;rw[jO,if_neg (by rw[hm];simp),List.append_nil]
      clear hm
      go_wp2
      go_roundw
      case rel=>exact⟨j+1,q,l,c,by omega,by go_num,rfl,by omega,by rw[a.out];exact g.out,h.out,o.out⟩
      case measure=>simp[intOf];omega
    ·have a:Hid (dO m n k++jO (m k) k j=dO m n (k+1)):=by
      show _=_;rw[dO,show j=n by omega]
     have z:k*n+n=(k+1)*n:=(Nat.succ_mul k n).symm
     go_wp2
     go_roundw
     case rel=>exact⟨k+1,q,l,c,by omega,by go_num,rfl,by rw[←z];omega,by rw[←a.out];exact HO.out,d,HB.out⟩
     case measure=>simp[intOf];omega
  ·have a:Hid (dO m n k=dO m n n):=by
    show _=_;rw[show k=n by omega]
   go_wp2
   go_ret
   have aa:(dO m n n).length=l:=by rw[←a.out];exact s.out.symm
   subst aa
   exact⟨q,c,rfl,by rw[a.out]at HO;exact bH HO (Nat.le_succ _),d⟩
theorem vH (aA aB:Int)(p:OA)(n cap:Nat)(xs:List Int)(w:World)(hS:Sl w p n cap 1 (ivs xs))(hok:aN aA aB xs=true):
  Calls Tryz.prog 111 #[aH aA aB p n cap] w (eY (gJ aA aB xs) w):=by
 have hl:=hS.ilen
 subst hl
 obtain⟨g1,g2,g3,g4,g5,g6,g7,g8,g9⟩:=bM hok
 exact aHe aA aB p xs.length cap _ w g6 (fun f t _ _ w' hx=>aC2 aA aB f t p xs.length cap xs w' (hS.ext hx))
end Go.Proofs.YtgnkoffndhmhpaaGreatDoor
namespace Go.Proofs.YtgnkoffndhmhpaaGreatDoor
open Go.RowKit
set_option linter.unusedVariables false
set_option linter.unusedSimpArgs false
theorem aHx {xs:List Int}{i j:Nat}{a b:Int}(hi:xs[i]? =some a) (hj:xs[j]? =some b) (hij:i≠j):List.Perm ((xs.set j a).set i b) xs:=by
 induction xs generalizing i j with
 |nil=>simp at hi
 |cons x xs ih=>
  cases i with
  |zero=>
   cases j with
   |zero=>exact absurd rfl hij
   |succ j=>
    simp only[List.getElem?_cons_zero,Option.some.injEq,List.getElem?_cons_succ]at hi hj
    subst hi
    simp only[List.set_cons_succ,List.set_cons_zero]
    obtain⟨c,rfl⟩:=List.getElem?_eq_some_iff.1 hj
    clear ih hij hj
    induction xs generalizing j with
    |nil=>simp at c
    |cons y ys ih2=>
     cases j with
     |zero=>simpa using List.Perm.swap x y ys
     |succ j=>
      simp only[List.length_cons,Nat.add_lt_add_iff_right]at c
      simp only[List.set_cons_succ,List.getElem_cons_succ]
      exact(List.Perm.swap y _ _).trans ((List.Perm.cons y (ih2 j c)).trans (List.Perm.swap x y ys))
  |succ i=>
   cases j with
   |zero=>
    simp only[List.getElem?_cons_zero,Option.some.injEq,List.getElem?_cons_succ]at hi hj
    subst hj
    simp only[List.set_cons_succ,List.set_cons_zero]
    obtain⟨c,rfl⟩:=List.getElem?_eq_some_iff.1 hi
    clear ih hij hi
    induction xs generalizing i with
    |nil=>simp at c
    |cons y ys ih2=>
     cases i with
     |zero=>simpa using List.Perm.swap x y ys
     |succ i=>
      simp only[List.length_cons,Nat.add_lt_add_iff_right]at c
      simp only[List.set_cons_succ,List.getElem_cons_succ]
      exact(List.Perm.swap y _ _).trans ((List.Perm.cons y (ih2 i c)).trans (List.Perm.swap x y ys))
   |succ j=>
    simp only[List.getElem?_cons_succ]at hi hj
    simp only[List.set_cons_succ]
    exact List.Perm.cons x (ih hi hj (by omega))
theorem sP {aA aB:Int}{xs ys:List Int}(h:aN aA aB xs=true)(hp:List.Perm ys xs):aN aA aB ys=true:=by
 unfold aN at*
 rw[Bool.and_eq_true]at*
 refine⟨by rw[hp.length_eq];exact h.1,?_⟩
 obtain⟨h1,h2,h3⟩:=(dQ _ _).1 h.2
 exact(dQ _ _).2 ⟨fun x hx=>h1 x (hp.mem_iff.1 hx),fun x hx=>h2 x (hp.mem_iff.1 hx),(hp.filter _).nodup_iff.2 h3⟩
theorem mK {aA aB:Int}{xs:List Int}(f t:Int):List.Perm (bG aA aB xs f t) xs:=by
 unfold bG
 cases h:bA aA aB xs f t with
 |false=>exact List.Perm.refl _
 |true=>
  rw[if_pos rfl]
  obtain⟨k1,k2,k3,k4,k5,k6,k7,k8,k9⟩:=iU h
  refine aHx ?_ ?_ (by omega)
  ·rw[List.getD_eq_getElem?_getD,List.getElem?_eq_getElem (by omega)];rfl
  ·rw[List.getElem?_eq_getElem (by omega)];rw[List.getD_eq_getElem?_getD,List.getElem?_eq_getElem (by omega)]at k8;simpa using k8
theorem iB {aA aB:Int}{xs:List Int}(f t:Int)(h:aN aA aB xs=true):aN aA aB (bG aA aB xs f t)=true:=sP h (mK f t)
def aZ (aA aB:Int):List Int→List Sl2→List Int×Nat
 |xs,[]=>(xs,0)
 |xs,s::l=>if bA aA aB xs s.1 s.2 then((aZ aA aB (bG aA aB xs s.1 s.2) l).1,(aZ aA aB (bG aA aB xs s.1 s.2) l).2+1)else(xs,0)
theorem eD {aA aB:Int}{xs:List Int}{s:Sl2}{l:List Sl2}(h:bA aA aB xs s.1 s.2=true):aZ aA aB xs (s::l)=((aZ aA aB (bG aA aB xs s.1 s.2) l).1,(aZ aA aB (bG aA aB xs s.1 s.2) l).2+1):=by
 rw[aZ,if_pos h]
theorem jN {aA aB:Int}{xs:List Int}{s:Sl2}{l:List Sl2}(h:bA aA aB xs s.1 s.2=false):aZ aA aB xs (s::l)=(xs,0):=by
 rw[aZ,if_neg (by rw[h];simp)]
theorem oX {aA aB:Int}: ∀(l:List Sl2) (xs:List Int) (s:Sl2),(aZ aA aB xs l).2=l.length→aZ aA aB xs (l++ [s])=(if bA aA aB (aZ aA aB xs l).1 s.1 s.2 then(bG aA aB (aZ aA aB xs l).1 s.1 s.2,l.length+1)else((aZ aA aB xs l).1,l.length)):=by
 intro l
 induction l with
 |nil=>
  intro xs s _
  cases h:bA aA aB xs s.1 s.2 with
  |true=>rw[List.nil_append,eD h];simp[aZ,h]
  |false=>rw[List.nil_append,jN h];simp[aZ,h]
 |cons a l ih=>
  intro xs s h
  cases ha:bA aA aB xs a.1 a.2 with
  |false=>rw[jN ha]at h;simp at h
  |true=>
   rw[eD ha]at h
   have h':(aZ aA aB (bG aA aB xs a.1 a.2) l).2=l.length:=by simpa using h
   rw[List.cons_append,eD ha,eD ha,ih _ s h']
   dsimp only
   split<;>simp
theorem vI {aA aB:Int}: ∀(l r:List Sl2) (xs:List Int),(aZ aA aB xs l).2<l.length→aZ aA aB xs (l++r)=aZ aA aB xs l:=by
 intro l
 induction l with
 |nil=>intro r xs h;simp at h
 |cons a l ih=>
  intro r xs h
  cases ha:bA aA aB xs a.1 a.2 with
  |false=>rw[List.cons_append,jN ha,jN ha]
  |true=>
   rw[eD ha]at h
   have h':(aZ aA aB (bG aA aB xs a.1 a.2) l).2<l.length:=by simpa using h
   rw[List.cons_append,eD ha,eD ha,ih r _ h']
theorem nH {aA aB:Int}: ∀(l:List Sl2) (xs:List Int),aN aA aB xs=true→aN aA aB (aZ aA aB xs l).1=true∧(aZ aA aB xs l).1.length=xs.length∧List.Perm (aZ aA aB xs l).1 xs:=by
 intro l
 induction l with
 |nil=>intro xs h;exact⟨h,rfl,List.Perm.refl _⟩
 |cons a l ih=>
  intro xs h
  unfold aZ
  split
  ·obtain⟨a1,a2,a3⟩:=ih _ (iB a.1 a.2 h)
   exact⟨a1,a2.trans (cW _ _ _ _ _),a3.trans (mK _ _)⟩
  ·exact⟨h,rfl,List.Perm.refl _⟩
end Go.Proofs.YtgnkoffndhmhpaaGreatDoor
