/-
  Texts of this proof, packed (@packed).
-/
import Derived.Test.YthfmmibomhhmpaaGreatDoorY9
namespace Go.Proofs.YthfmmibomhhmpaaGreatDoor
open Go.RowKit Go.Proofs.Tryz
set_option linter.unusedSimpArgs false
set_option linter.unusedVariables false
set_option maxHeartbeats 8000000
set_option maxRecDepth 100000
def dB (aA aB:Int)(xs:List Int)(b:Bool)(w:World)(e:Ending)(w':World):Prop:=
 ∃p cap,e= .returned (.tuple #[aH aA aB p xs.length cap,.bool b])∧w'.ownsRow w.heap.size TI 1 (.slice p xs.length cap) xs.length (ivs xs)∧Ext w w'
theorem eU {aA aB:Int}{p:OA}{n a:Nat}{xs:List Int}{b:Bool}{w w':World}(hn:xs.length=n)(ho:w'.ownsRow w TI 1 (.slice p n a) n (ivs xs))(hx:Ext w w'):dB aA aB xs b w (.returned (.tuple #[aH aA aB p n a,.bool b])) w':=by subst hn;exact⟨p,a,rfl,ho,hx⟩
theorem fK {w:World}{B n sz:Nat}{e:TypeId}{q:OA}{a:Nat}{xs:List Value}(ho:w.ownsRow B e sz (.slice q n a) n xs)(h:0<n): ∃g,q=some ⟨g,0,none⟩∧B≤g∧g<w.heap.size:=by
 rcases ho.2 with⟨h1,h2⟩|⟨g',cap',cur,h1,hb',hg,r⟩
 ·omega
 injection h1 with e1;exact⟨g',e1,hb',(aUg.1 hg).1⟩
theorem eL (xs:List Int)(k:Nat)(x:Int):(ivs xs).set k (iv x)=ivs (xs.set k x):=by simp[ivs,List.map_set]
theorem aKr (aA aB:Int)(p:OA)(a:Nat)(i j:Int)(xs:List Int)(w:World)(aq:4≤xs.length)(hn:xs.length≤12)
  (HV:xB 25 #[aH aA aB p xs.length a] w true)
  (HC:Hid (∀w',Ext w w'→U 48 #[aH aA aB p xs.length a] w' (dN aA aB xs w')))
  (HM:xB 119 #[aH aA aB p xs.length a,eK i j] w false):
  U 80 #[aH aA aB p xs.length a,eK i j] w (dB aA aB xs false w):=by
 go_enter func80,ntmps80;have ad:=xQ (Ext.refl w);go_wp2_with fail;refine Z (HV _ (by exact .alloc (.alloc (.alloc (.refl _) _) _) _)) fun w1 b=>?_
 have ah:Ext w w1:=((((Ext.refl _).alloc _).alloc _).alloc _).trans b;have z1:w.heap.size+3≤w1.heap.size:=by have:=b.sz;(try simp at this);omega
 have n:=xQ (ad.out.trans ah);clear ad;have k:=xQ (show Blk w1 w TH3 #[aA,aB,.slice p xs a] by have:=(((Blk.new w TH3 #[aA,aB,.slice p xs a]).alloc _).alloc _).ext b;simpa using this);have aa:=xQ (show Blk w1 (w.heap.size+1) TSL #[i,j] by have:=((Blk.new (w.alloc (.cells #[aA,aB,.slice p xs a] TH3)) TSL #[i,j]).alloc _).ext b;simpa using this);have af:=xQ (show Blk w1 (w.heap.size+1+1) TH3 #[(),(),((),())] by have:=(Blk.new ((w.alloc (.cells #[aA,aB,.slice p xs a] TH3)).alloc (.cells #[i,j] TSL)) TH3 #[(),(),((),())]).ext b;simpa using this);clear ah b;obtain⟨c0,c1,c2⟩:=k.out.tri;go_wp2_with fail;clear c0 c1 c2;refine(HC _ n.out).mono ?_;rintro e w2 ⟨q,c2,rfl,ho,t⟩;have c:Ext w1 w2:=by exact t
 have z2:w1.heap.size+0≤w2.heap.size:=by have:=t.sz;(try simp at this);omega
 have o:=xQ (n.out.trans c);have l:=xQ (k.out.ext c);have d:=xQ (aa.out.ext c);have ag:=xQ (af.out.ext c);clear n k aa af c;have x:(w:Nat)<w2:=l.out.lt;have y:w.heap.size+1<w2.heap.size:=d.out.lt;obtain⟨g,rfl,ao,ap⟩:=fK ho (by omega);have z:=xQ (ho);clear t ho;obtain⟨c0,c1,c2⟩:=l.out.tri;have s0:=d.out.cl 0;have s1:=d.out.cl 1;go_wp2_with fail;clear c0 c1 c2 s0 s1;refine Z (HM _ (o.out.alloc _)) fun w3 u=>?_
 have h:Ext w2 w3:=((Ext.refl _).alloc _).trans u;have ae:=xQ (o.out.trans h);have f:=xQ (ag.out.ext h);have m:=xQ (aW z h);clear o l d ag z;have ab:=xQ (show Blk w3 w2 TH3 #[aA,aB,.slice (some ⟨g,0,none⟩) xs c2] by have:=(Blk.new w2 TH3 #[aA,aB,.slice (some ⟨g,0,none⟩) xs c2]).ext u;simpa using this);clear h x y u;have v_:=ab.out.tri;obtain⟨z0,al,z1,am,z2,an⟩:=f.out.trif;go_wp2;have y4:=((f.out.set 0 (I aA)).set 1 (I aB)).set 2 (.slice (some ⟨g,0,none⟩) xs c2);simp only[aTm,aTk,aTj]at y4;generalize s:World.setCell _ _ _=w4;rw[s]at y4;have r:ExtR (w.heap.size+1+1) w3 w4:=by rw[←s];exact(((ExtR.refl (w.heap.size+1+1) w3).setCell (p:=⟨w.heap.size+1+1,0,none⟩) (.inl rfl) (I aA)).setCell (p:=⟨w.heap.size+1+1,1,none⟩) (.inl rfl) (I aB)).setCell (p:=⟨w.heap.size+1+1,2,none⟩) (.inl rfl) (.slice (some ⟨g,0,none⟩) xs c2)
 clear s;have aj:=xQ (ExtR.new ae r (by omega));have ak:=xQ (y4);have ai:=xQ (m.out.kept r (.inr (dV m f.out (by decide))));clear ae f m ab r y4 v_ z0 al z1 am z2 an;have y_:=ak.out.tri;exact bodyPost_ret (v:= .tuple #[.agg #[aA,aB,.slice (some ⟨g,0,none⟩) xs c2],.bool false]) (by simp[results,results80,go_sem, *]) rfl (eU (by simp) (bM (by exact ai.out) (by omega)) aj.out)
theorem aGy (aA aB:Int)(c i j b a:Nat)(x yj:Int)(xs:List Int)(w:World)(bq:4≤xs.length)(hn:xs.length≤12)(hi:i<xs.length)(hj:j<xs.length)(bp:i≠j)(HX:Hid (xs[i]? =some x)) (HY:Hid (xs[j]? =some yj))
  (hb:b<w.heap.size) (bd:Hid (w.cell? ⟨b,a+i,none⟩=some (I x)))
  (HV:xB 25 #[aH aA aB (some ⟨b,a,none⟩) xs.length c] w true)
  (HC:Hid (∀w',Ext w w'→U 48 #[aH aA aB (some ⟨b,a,none⟩) xs.length c] w' (dN aA aB xs w')))
  (HM:xB 119 #[aH aA aB (some ⟨b,a,none⟩) xs.length c,eK (i:Int) (j:Int)] w true):
  U 80 #[aH aA aB (some ⟨b,a,none⟩) xs.length c,eK (i:Int) (j:Int)] w (dB aA aB ((xs.set j x).set i 0) true w):=by
 have a1:=aVt i;have a2:=aVt j;have a3:(i:Int)<(xs.length:Int):=by omega
 have a4:(j:Int)<(xs.length:Int):=by omega
 go_enter func80,ntmps80;have a5:=xQ (Ext.refl w);go_wp2_with fail;refine Z (HV _ (by exact .alloc (.alloc (.alloc (.refl _) _) _) _)) fun w1 d=>?_
 have bc:Ext w w1:=((((Ext.refl _).alloc _).alloc _).alloc _).trans d;have z1:w.heap.size+3≤w1.heap.size:=by have:=d.sz;(try simp at this);omega
 have ah:=xQ (a5.out.trans bc);clear a5;have aa:=xQ (show Blk w1 w TH3 #[aA,aB,.slice (some ⟨b,a,none⟩) xs c] by have:=(((Blk.new w TH3 #[aA,aB,.slice (some ⟨b,a,none⟩) xs c]).alloc _).alloc _).ext d;simpa using this);have az:=xQ (show Blk w1 (w.heap.size+1) TSL #[i,j] by have:=((Blk.new (w.alloc (.cells #[aA,aB,.slice (some ⟨b,a,none⟩) xs c] TH3)) TSL #[i,j]).alloc _).ext d;simpa using this);have a9:=xQ (show Blk w1 (w.heap.size+1+1) TH3 #[(),(),((),())] by have:=(Blk.new ((w.alloc (.cells #[aA,aB,.slice (some ⟨b,a,none⟩) xs c] TH3)).alloc (.cells #[i,j] TSL)) TH3 #[(),(),((),())]).ext d;simpa using this);clear bc d;obtain⟨c0,c1,c2⟩:=aa.out.tri;go_wp2_with fail;clear c0 c1 c2;refine(HC _ ah.out).mono ?_;rintro e w2 ⟨q,c2,rfl,ho,an⟩;have o:Ext w1 w2:=by exact an
 have z2:w1.heap.size+0≤w2.heap.size:=by have:=an.sz;(try simp at this);omega
 have ai:=xQ (ah.out.trans o);have r:=xQ (aa.out.ext o);have m:=xQ (az.out.ext o);have ba:=xQ (a9.out.ext o);clear ah aa az a9 o;have ap:(w:Nat)<w2:=r.out.lt;have aq:w.heap.size+1<w2.heap.size:=m.out.lt;obtain⟨g,rfl,bn,bo⟩:=fK ho (by omega);have ax:=xQ (ho);clear an ho;obtain⟨c0,c1,c2⟩:=r.out.tri;have s0:=m.out.cl 0;have s1:=m.out.cl 1;go_wp2_with fail;clear c0 c1 c2 s0 s1;refine Z (HM _ (ai.out.alloc _)) fun w3 ao=>?_
 have f:Ext w2 w3:=((Ext.refl _).alloc _).trans ao;have aj:=xQ (ai.out.trans f);have aw:=xQ (r.out.ext f);have s:=xQ (m.out.ext f);have bb:=xQ (ba.out.ext f);have ay:=xQ (aW ax f);clear ai r m ba ax;have af:=xQ (show Blk w3 w2 TH3 #[aA,aB,.slice (some ⟨g,0,none⟩) xs c2] by have:=(Blk.new w2 TH3 #[aA,aB,.slice (some ⟨g,0,none⟩) xs c2]).ext ao;simpa using this);clear f ap aq ao;go_wp2;refine rL (gl [gEq (.pointer (some ⟨w2,2,none⟩)),gEq (.slice (some ⟨g,0,none⟩) xs c2),gEq (.pointer (some ⟨w.heap.size+1,1,none⟩)),gEq (j:Int),gEq (.pointer (some ⟨w,2,none⟩)),gEq (.slice (some ⟨b,a,none⟩) xs c),gEq (.pointer (some ⟨w.heap.size+1,0,none⟩)),gEq (i:Int),gEq (.pointer (some ⟨b,a+i,none⟩)),gEq x,gEq (.pointer (some ⟨g,j,none⟩))]) 11 12 [(0,some 18),(1,some 19),(2,some 20),(3,some 21),(4,some 22),(5,some 23),(6,some 24),(7,some 25),(8,some 26),(9,some 27),(10,some 28)] ?steps ?fin
 case steps=>
  refine sS0 [] ?_;refine sC [(0,some 18)] rfl (fun wi hx=> ?_) ?_
  ·intro v0 h0 K hK;obtain rfl:=h0;have B:=af.out.ext hx.of_drew;have bh:=B.cl 2;go_simp;exact hK _ _ ⟨.slice (some ⟨g,0,none⟩) xs c2,rfl,rfl,Ext.refl _⟩
  refine sS0 [] ?_;refine sC [(2,some 20)] rfl (fun wi hx=> ?_) ?_
  ·intro v2 h2 K hK;obtain rfl:=h2;have B:=s.out.ext hx.of_drew;have bm:=B.cl 1;go_simp;exact hK _ _ ⟨I j,rfl,rfl,Ext.refl _⟩
  refine sS0 [] ?_;refine sC [(4,some 22)] rfl (fun wi hx=> ?_) ?_
  ·intro v4 h4 K hK;obtain rfl:=h4;have B:=aw.out.ext hx.of_drew;have bh:=B.cl 2;go_simp;exact hK _ _ ⟨.slice (some ⟨b,a,none⟩) xs c,rfl,rfl,Ext.refl _⟩
  refine sS0 [] ?_;refine sC [(6,some 24)] rfl (fun wi hx=> ?_) ?_
  ·intro v6 h6 K hK;obtain rfl:=h6;have B:=s.out.ext hx.of_drew;have bl:=B.cl 0;go_simp;exact hK _ _ ⟨I i,rfl,rfl,Ext.refl _⟩
  refine sS2 [(5,some 23),(7,some 25)] ?_;refine sC [(8,some 26)] rfl (fun wi hx=> ?_) ?_
  ·intro v8 h8 K hK;obtain rfl:=h8;have cx:wi.cell? ⟨b,a+i,none⟩=some (I x):=(Ext.cells (aj.out.trans hx.of_drew)).1 _ _ hb |>.trans bd.out;go_simp;exact hK _ _ ⟨I x,rfl,rfl,Ext.refl _⟩
  exact sS2 [(1,some 19),(3,some 21)] StepsL.nil
 case fin=>
  intro wi hx v0 h0 v1 h1 v2 h2 v3 h3 v4 h4 v5 h5 v6 h6 v7 h7 v8 h8 v9 h9 br bi;subst h0 h1 h2 h3 h4 h5 h6 h7 h8 h9;obtain rfl:=bi;have h:=hx.of_drew;have a6:=xQ (aj.out.trans h);have ad:=xQ (s.out.ext h);have ak:=xQ (bb.out.ext h);have k:=xQ (aW ay h);have ag:=xQ (af.out.ext h);clear aj aw s bb ay af h hx;have gj:wi.cell? ⟨g,j,none⟩=some (I yj):=by have:=k.out.cellAt j (by omega);rw[this];simpa[ivs]using HY.out
  have gf:wi.frozen? ⟨g,j,none⟩=false:=k.out.frozenAt j;refine wpAny_ready (rs:= [11]) (by kernel_rfl) (by simp) ?_;refine AllReady.cons rfl (fun K hK=> ?_) AllReady.nil;go_simp;refine hK _ _ ?_;clear hK K gj gf;have y5:=(k.out.stored (j) (I x)).1;have n:ExtR (g) wi _:=(k.out.stored (j) (I x)).2;generalize bj:World.setCell _ _ _=w5 at*;clear bj;have a7:=xQ (ExtR.new a6 n (by omega));have ae:=xQ (show Blk w5 (w.heap.size+1) _ _ from(n.block _ ad.out.lt (by first|(simp;done)|(simp;omega))).trans ad.out);have u:=xQ (show Blk w5 (w.heap.size+1+1) _ _ from(n.block _ ak.out.lt (by first|(simp;done)|(simp;omega))).trans ak.out);have l:=xQ (y5);have t:=xQ (show Blk w5 w2 _ _ from(n.block _ ag.out.lt (by first|(simp;done)|(simp;omega))).trans ag.out);clear a6 ad ak k ag n y5;refine wpAny_done (by kernel_rfl) ?_ _;obtain⟨v0,v1,v2⟩:=t.out.tri;have s0:=ae.out.cl 0;have s1:=ae.out.cl 1;obtain⟨z0,ar,z1,au,z2,av⟩:=u.out.trif;have gi:w5.cell? ⟨g,i,none⟩=some (I x):=by have:=l.out.cellAt i (by omega);rw[this,aV2 (by omega)];simpa[ivs]using HX.out
  have gf:w5.frozen? ⟨g,i,none⟩=false:=l.out.frozenAt i;go_upto_region 8 with fail;clear gi gf v0 v1 v2 s0 s1 z0 ar z1 au z2 av;have y6:=(l.out.stored (i) (I 0)).1;have z:ExtR (g) w5 _:=(l.out.stored (i) (I 0)).2;generalize bk:World.setCell _ _ _=w6 at*;clear bk;have a8:=xQ (ExtR.new a7 z (by omega));have y:=xQ (show Blk w6 (w.heap.size+1+1) _ _ from(z.block _ u.out.lt (by first|(simp;done)|(simp;omega))).trans u.out);have ab:=xQ (y6);have a0:=xQ (show Blk w6 w2 _ _ from(z.block _ t.out.lt (by first|(simp;done)|(simp;omega))).trans t.out);clear a7 ae u l t z y6;obtain⟨v0,v1,v2⟩:=a0.out.tri;obtain⟨z0,ar,z1,au,z2,av⟩:=y.out.trif;go_wp2;have y7:=((y.out.set 0 (I aA)).set 1 (I aB)).set 2 (.slice (some ⟨g,0,none⟩) xs c2);simp only[aTm,aTk,aTj]at y7;generalize am:World.setCell _ _ _=w7;rw[am]at y7;have al:ExtR (w.heap.size+1+1) w6 w7:=by rw[←am];exact(((ExtR.refl (w.heap.size+1+1) w6).setCell (p:=⟨w.heap.size+1+1,0,none⟩) (.inl rfl) (I aA)).setCell (p:=⟨w.heap.size+1+1,1,none⟩) (.inl rfl) (I aB)).setCell (p:=⟨w.heap.size+1+1,2,none⟩) (.inl rfl) (.slice (some ⟨g,0,none⟩) xs c2)
  clear am;have bf:=xQ (ExtR.new a8 al (by omega));have bg:=xQ (y7);have be:=xQ (ab.out.kept al (.inr (dV ab y.out (by decide))));clear a8 y ab a0 al y7 v0 v1 v2 z0 ar z1 au z2 av;have y_:=bg.out.tri;exact bodyPost_ret (v:= .tuple #[.agg #[aA,aB,.slice (some ⟨g,0,none⟩) xs c2],.bool true]) (by simp[results,results80,go_sem, *]) rfl (eU (by simp) (bM (by rw[←eL,←eL];exact be.out) (by omega)) bf.out)
def bL (aA aB:Int)(xs:List Int)(f t:Int):List Int:=if bH aA aB xs f t then(xs.set t.toNat (xs.getD f.toNat 0)).set f.toNat 0 else xs
theorem dG (aA aB:Int)(xs:List Int)(f t:Int):(bL aA aB xs f t).length=xs.length:=by unfold bL;split<;>simp
theorem kH {aA aB:Int}{xs:List Int}{f t:Int}(h:bH aA aB xs f t=true):aN aA aB xs=true∧0≤f∧f<xs.length∧0≤t∧t<xs.length∧aZ aA f t=1∧0<xs.getD f.toNat 0∧xs.getD t.toNat 0=0∧f≠t:=by unfold bH at h;simp only[aTf,decide_eq_true_eq]at h;obtain⟨⟨h1,h2⟩,h3⟩:=h;obtain⟨k1,k2,k3,k4,k5,k6⟩:=kM h1;exact⟨k1,k2,k3,k4,k5,k6,h2,h3,fun e=>by subst e;omega⟩
theorem nB (aA aB f t:Int)(p:OA)(n a:Nat)(xs:List Int)(w:World)(hS:Sl w p n a 1 (ivs xs))(c:aN aA aB xs=true):
  U 80 #[aH aA aB p n a,eK f t] w (dB aA aB (bL aA aB xs f t) (bH aA aB xs f t) w):=by
 have hl:=hS.ilen;subst hl;obtain⟨g1,g2,g3,g4,g5,g6,g7,g8,g9⟩:=bN c;have HV:=fun(w':World) (hx:Ext w w')=>gM aA aB p xs.length a xs w' (hS.ext hx)
 rw[c]at HV;have HC:=fun(w':World) (hx:Ext w w')=>gQ aA aB p xs.length a xs w' (by omega) (hS.ext hx)
 have HM:=fun(w':World) (hx:Ext w w')=>aGx aA aB f t p xs.length a xs w' (hS.ext hx)
 unfold bL;cases h:bH aA aB xs f t with
 |false=>rw[h]at HM;exact aKr aA aB p a f t xs w g5 g6 HV HC HM
 |true=>
  rw[h]at HM;obtain⟨k1,k2,k3,k4,k5,k6,k7,k8,k9⟩:=kH h;have ef:((f.toNat:Nat):Int)=f:=by omega
  have et:((t.toNat:Nat):Int)=t:=by omega
  have hx:xs[f.toNat]? =some (xs.getD f.toNat 0):=by rw[aTb,aT6 (by omega)];rfl
  have hy:xs[t.toNat]? =some (xs.getD t.toNat 0):=by rw[aTb,aT6 (by omega)];rfl
  obtain⟨b,g,x,rfl,d,hb,hc⟩:=hS.int_at (k:=f.toNat) (by omega);obtain rfl:x=xs.getD f.toNat 0:=by rw[hx]at d;injection d with e;exact e.symm
  have:=aGy aA aB a f.toNat t.toNat b g _ _ xs w g5 g6 (by omega) (by omega) (by omega) hx hy hb hc HV HC (by rw[ef,et];exact HM);rw[ef,et]at this;rw[if_pos rfl];exact this
def dE (aA aB:Int)(xs:List Int)(id:Int):List Int×Bool:=if xs.getD 0 0=0∧1≤id∧aN aA aB (xs.set 0 id)=true then(xs.set 0 id,true)else(xs,false)
def dA (aA aB:Int)(xs:List Int)(i:Int)(w:World)(e:Ending)(w':World):Prop:=
 ∃p cap,e= .returned (.tuple #[aH aA aB p xs.length cap,i])∧w'.ownsRow w.heap.size TI 1 (.slice p xs.length cap) xs.length (ivs xs)∧Ext w w'
theorem fE {aA aB:Int}{p:OA}{n a:Nat}{xs:List Int}{i:Int}{w w':World}(hn:xs.length=n)(ho:w'.ownsRow w TI 1 (.slice p n a) n (ivs xs))(hx:Ext w w'):dA aA aB xs i w (.returned (.tuple #[aH aA aB p n a,i])) w':=by subst hn;exact⟨p,a,rfl,ho,hx⟩
theorem aEk (aA aB id:Int)(b a c:Nat)(x:Int)(xs:List Int)(w:World)(am:4≤xs.length)(hn:xs.length≤12)(aj:Hid (xs[0]? =some x)) (hb:b<w.heap.size) (ab:Hid (w.cell? ⟨b,a,none⟩=some (I x))) (an:(x !=0)=true)
  (HI:Hid (∀w,U 27 #[(),(),((xs.length:Int)-1:Int)] w fun e w'=>e= .returned (.bool true)∧w=w'))
  (HV:xB 25 #[aH aA aB (some ⟨b,a,none⟩) xs.length c] w true)
  (HC:Hid (∀w',Ext w w'→U 48 #[aH aA aB (some ⟨b,a,none⟩) xs.length c] w' (dN aA aB xs w'))):
  U 113 #[aH aA aB (some ⟨b,a,none⟩) xs.length c,(),id] w (dB aA aB xs false w):=by
 go_enter func113,ntmps113;have u:=xQ (Ext.refl w);go_wp2_with fail;refine Z (HV _ (by exact .alloc (.alloc (.refl _) _) _)) fun w1 f=>?_
 have aa:Ext w w1:=(((Ext.refl _).alloc _).alloc _).trans f;have z1:w.heap.size+2≤w1.heap.size:=by have:=f.sz;(try simp at this);omega
 have m:=xQ (u.out.trans aa);clear u;have j:=xQ (show Blk w1 w TH3 #[aA,aB,.slice (some ⟨b,a,none⟩) xs c] by have:=((Blk.new w TH3 #[aA,aB,.slice (some ⟨b,a,none⟩) xs c]).alloc _).ext f;simpa using this);have y:=xQ (show Blk w1 (w.heap.size+1) TH3 #[(),(),((),())] by have:=(Blk.new (w.alloc (.cells #[aA,aB,.slice (some ⟨b,a,none⟩) xs c] TH3)) TH3 #[(),(),((),())]).ext f;simpa using this);clear aa f;have c_:=j.out.tri;go_wp2_with fail;clear c_;refine(HC _ m.out).mono ?_;rintro e w2 ⟨q,cq,rfl,ho,r⟩;have i:Ext w1 w2:=by exact r
 have z2:w1.heap.size+0≤w2.heap.size:=by have:=r.sz;(try simp at this);omega
 have h:=xQ (m.out.trans i);have k:=xQ (j.out.ext i);have d:=xQ (y.out.ext i);clear m j y i;have s:(w:Nat)<w2:=k.out.lt;have t:w.heap.size+1<w2.heap.size:=d.out.lt;obtain⟨g,rfl,ak,al⟩:=fK ho (by omega);have l:=xQ (ho);clear r ho;have cx:w2.cell? ⟨b,a,none⟩=some (I x):=(Ext.cells h.out).1 _ _ hb |>.trans ab.out;have lb:b<w2:=aT4 hb h.out.sz;have c_:=k.out.tri;obtain⟨z0,ag,z1,ah,z2,ai⟩:=d.out.trif;go_wp2_with ((go_at_call 27;(with_reducible refine(HI _).mono ?_);rintro e w9 ⟨rfl,rfl⟩));clear cx c_ z0 ag z1 ah z2 ai;have y3:=((d.out.set 0 (I aA)).set 1 (I aB)).set 2 (.slice (some ⟨g,0,none⟩) xs cq);simp only[aTm,aTk,aTj]at y3;generalize o:World.setCell _ _ _=w3;rw[o]at y3;have n:ExtR (w.heap.size+1) w2 w3:=by rw[←o];exact(((ExtR.refl (w.heap.size+1) w2).setCell (p:=⟨w.heap.size+1,0,none⟩) (.inl rfl) (I aA)).setCell (p:=⟨w.heap.size+1,1,none⟩) (.inl rfl) (I aB)).setCell (p:=⟨w.heap.size+1,2,none⟩) (.inl rfl) (.slice (some ⟨g,0,none⟩) xs cq)
 clear o;have ae:=xQ (ExtR.new h n (by omega));have z:=xQ (y3);have ad:=xQ (l.out.kept n (.inr (dV l d.out (by decide))));clear h k d l n y3 s t;have af:w.heap.size+1<w3.heap.size:=z.out.lt;have y_:=z.out.tri;exact bodyPost_ret (v:= .tuple #[.agg #[aA,aB,.slice (some ⟨g,0,none⟩) xs cq],.bool false]) (by simp[results,results113,go_sem, *]) rfl (eU (by simp) (bM (ad.out.alloc _) (by omega)) (ae.out.alloc _))
theorem aKy (aA aB id:Int)(b a c:Nat)(x:Int)(xs:List Int)(w:World)(an:4≤xs.length)(hn:xs.length≤12)(aj:Hid (xs[0]? =some x)) (hb:b<w.heap.size) (ab:Hid (w.cell? ⟨b,a,none⟩=some (I x))) (ao:(x !=0)=false) (am:id<1)
  (HI:Hid (∀w,U 27 #[(),(),((xs.length:Int)-1:Int)] w fun e w'=>e= .returned (.bool true)∧w=w'))
  (HV:xB 25 #[aH aA aB (some ⟨b,a,none⟩) xs.length c] w true)
  (HC:Hid (∀w',Ext w w'→U 48 #[aH aA aB (some ⟨b,a,none⟩) xs.length c] w' (dN aA aB xs w'))):
  U 113 #[aH aA aB (some ⟨b,a,none⟩) xs.length c,(),id] w (dB aA aB xs false w):=by
 go_enter func113,ntmps113;have u:=xQ (Ext.refl w);go_wp2_with fail;refine Z (HV _ (by exact .alloc (.alloc (.refl _) _) _)) fun w1 f=>?_
 have aa:Ext w w1:=(((Ext.refl _).alloc _).alloc _).trans f;have z1:w.heap.size+2≤w1.heap.size:=by have:=f.sz;(try simp at this);omega
 have m:=xQ (u.out.trans aa);clear u;have j:=xQ (show Blk w1 w TH3 #[aA,aB,.slice (some ⟨b,a,none⟩) xs c] by have:=((Blk.new w TH3 #[aA,aB,.slice (some ⟨b,a,none⟩) xs c]).alloc _).ext f;simpa using this);have y:=xQ (show Blk w1 (w.heap.size+1) TH3 #[(),(),((),())] by have:=(Blk.new (w.alloc (.cells #[aA,aB,.slice (some ⟨b,a,none⟩) xs c] TH3)) TH3 #[(),(),((),())]).ext f;simpa using this);clear aa f;have c_:=j.out.tri;go_wp2_with fail;clear c_;refine(HC _ m.out).mono ?_;rintro e w2 ⟨q,cq,rfl,ho,r⟩;have i:Ext w1 w2:=by exact r
 have z2:w1.heap.size+0≤w2.heap.size:=by have:=r.sz;(try simp at this);omega
 have h:=xQ (m.out.trans i);have k:=xQ (j.out.ext i);have d:=xQ (y.out.ext i);clear m j y i;have s:(w:Nat)<w2:=k.out.lt;have t:w.heap.size+1<w2.heap.size:=d.out.lt;obtain⟨g,rfl,ak,al⟩:=fK ho (by omega);have l:=xQ (ho);clear r ho;have cx:w2.cell? ⟨b,a,none⟩=some (I x):=(Ext.cells h.out).1 _ _ hb |>.trans ab.out;have lb:b<w2:=aT4 hb h.out.sz;have c_:=k.out.tri;obtain⟨z0,ag,z1,ah,z2,ai⟩:=d.out.trif;go_wp2_with ((go_at_call 27;(with_reducible refine(HI _).mono ?_);rintro e w9 ⟨rfl,rfl⟩));clear cx c_ z0 ag z1 ah z2 ai;have y3:=((d.out.set 0 (I aA)).set 1 (I aB)).set 2 (.slice (some ⟨g,0,none⟩) xs cq);simp only[aTm,aTk,aTj]at y3;generalize o:World.setCell _ _ _=w3;rw[o]at y3;have n:ExtR (w.heap.size+1) w2 w3:=by rw[←o];exact(((ExtR.refl (w.heap.size+1) w2).setCell (p:=⟨w.heap.size+1,0,none⟩) (.inl rfl) (I aA)).setCell (p:=⟨w.heap.size+1,1,none⟩) (.inl rfl) (I aB)).setCell (p:=⟨w.heap.size+1,2,none⟩) (.inl rfl) (.slice (some ⟨g,0,none⟩) xs cq)
 clear o;have ae:=xQ (ExtR.new h n (by omega));have z:=xQ (y3);have ad:=xQ (l.out.kept n (.inr (dV l d.out (by decide))));clear h k d l n y3 s t;have af:w.heap.size+1<w3.heap.size:=z.out.lt;have y_:=z.out.tri;exact bodyPost_ret (v:= .tuple #[.agg #[aA,aB,.slice (some ⟨g,0,none⟩) xs cq],.bool false]) (by simp[results,results113,go_sem, *]) rfl (eU (by simp) (bM (ad.out.alloc _) (by omega)) (ae.out.alloc _))
theorem aH6 (aA aB id:Int)(b a d:Nat)(x:Int)(xs:List Int)(w:World)(a4:4≤xs.length)(hn:xs.length≤12)(ao:Hid (xs[0]? =some x)) (hb:b<w.heap.size) (am:Hid (w.cell? ⟨b,a,none⟩=some (I x))) (a5:(x !=0)=false) (a3:1≤id)
  (HI:Hid (∀w,U 27 #[(),(),((xs.length:Int)-1:Int)] w fun e w'=>e= .returned (.bool true)∧w=w'))
  (an:Hid (∀w' q c,Sl w' q xs.length c 1 (ivs (xs.set 0 id))→U 25 #[aH aA aB q xs.length c] w' (O (.bool true) w')))
  (HV:xB 25 #[aH aA aB (some ⟨b,a,none⟩) xs.length d] w true)
  (HC:Hid (∀w',Ext w w'→U 48 #[aH aA aB (some ⟨b,a,none⟩) xs.length d] w' (dN aA aB xs w'))):
  U 113 #[aH aA aB (some ⟨b,a,none⟩) xs.length d,(),id] w (dB aA aB (xs.set 0 id) true w):=by
 have a0:decide (id<1)=false:=by simp;omega
 go_enter func113,ntmps113;have ag:=xQ (Ext.refl w);go_wp2_with fail;refine Z (HV _ (by exact .alloc (.alloc (.refl _) _) _)) fun w1 h=>?_
 have al:Ext w w1:=(((Ext.refl _).alloc _).alloc _).trans h;have z1:w.heap.size+2≤w1.heap.size:=by have:=h.sz;(try simp at this);omega
 have t:=xQ (ag.out.trans al);clear ag;have n:=xQ (show Blk w1 w TH3 #[aA,aB,.slice (some ⟨b,a,none⟩) xs d] by have:=((Blk.new w TH3 #[aA,aB,.slice (some ⟨b,a,none⟩) xs d]).alloc _).ext h;simpa using this);have aj:=xQ (show Blk w1 (w.heap.size+1) TH3 #[(),(),((),())] by have:=(Blk.new (w.alloc (.cells #[aA,aB,.slice (some ⟨b,a,none⟩) xs d] TH3)) TH3 #[(),(),((),())]).ext h;simpa using this);clear al h;have c_:=n.out.tri;go_wp2_with fail;clear c_;refine(HC _ t.out).mono ?_;rintro e w2 ⟨q,cq,rfl,ho,ab⟩;have k:Ext w1 w2:=by exact ab
 have z2:w1.heap.size+0≤w2.heap.size:=by have:=ab.sz;(try simp at this);omega
 have i:=xQ (t.out.trans k);have o:=xQ (n.out.ext k);have u:=xQ (aj.out.ext k);clear t n aj k;have ae:(w:Nat)<w2:=o.out.lt;obtain⟨g,rfl,a1,a2⟩:=fK ho (by omega);have f:=xQ (ho);clear ab ho;have cx:w2.cell? ⟨b,a,none⟩=some (I x):=(Ext.cells i.out).1 _ _ hb |>.trans am.out;have lb:b<w2:=aT4 hb i.out.sz;have c_:=o.out.tri;have av:w2.cell? ⟨g,0,none⟩=some (I x):=by have:=f.out.cellAt 0 (by omega);rw[this];simpa[ivs]using ao.out
 have aw:w2.frozen? ⟨g,0,none⟩=false:=f.out.frozenAt 0;go_upto_region 7 with((go_at_call 27;(with_reducible refine(HI _).mono ?_);rintro e w9 ⟨rfl,rfl⟩));clear cx av aw c_;have y3:=(f.out.stored (0) (I id)).1;have y:ExtR (g) w2 _:=(f.out.stored (0) (I id)).2;have m:(World.setCell w2 ⟨g,0,none⟩ (I id)).heap.size=w2.heap.size:=by simp
 generalize au:World.setCell _ _ _=w3 at*;rw[←m];clear au;have z3:(w2:Nat)≤w3:=aVk m.symm;have a6:(w3:Nat)≤w2:=aVk m;clear m;have ah:=xQ (ExtR.new i y (by omega));have ak:=xQ (show Blk w3 (w.heap.size+1) _ _ from(y.block _ u.out.lt (by first|(simp;done)|(simp;omega))).trans u.out);have r:=xQ (y3);clear i o u f y y3 ae;go_wp2_with fail;refine Z (an (w3.alloc (.cells #[aA,aB,.slice (some ⟨g,0,none⟩) xs cq] TH3)) _ _ (by rw[←eL];exact Sl.own (r.out.alloc _))) fun w4 ad=>?_
 have l:Ext w3 w4:=((Ext.refl _).alloc _).trans ad;have ai:=xQ (ah.out.trans l);have j:=xQ (ak.out.ext l);have s:=xQ (aW r l);clear ah ak r;have af:=xQ (show Blk w4 w3 TH3 #[aA,aB,.slice (some ⟨g,0,none⟩) xs cq] by have:=(Blk.new w3 TH3 #[aA,aB,.slice (some ⟨g,0,none⟩) xs cq]).ext ad;simpa using this);clear l ad;have v_:=af.out.tri;obtain⟨z0,ax,z1,ay,z2,az⟩:=j.out.trif;go_wp2;have y5:=((j.out.set 0 (I aA)).set 1 (I aB)).set 2 (.slice (some ⟨g,0,none⟩) xs cq);simp only[aTm,aTk,aTj]at y5;generalize aa:World.setCell _ _ _=w5;rw[aa]at y5;have z:ExtR (w.heap.size+1) w4 w5:=by rw[←aa];exact(((ExtR.refl (w.heap.size+1) w4).setCell (p:=⟨w.heap.size+1,0,none⟩) (.inl rfl) (I aA)).setCell (p:=⟨w.heap.size+1,1,none⟩) (.inl rfl) (I aB)).setCell (p:=⟨w.heap.size+1,2,none⟩) (.inl rfl) (.slice (some ⟨g,0,none⟩) xs cq)
 clear aa;have aq:=xQ (ExtR.new ai z (by omega));have ar:=xQ (y5);have ap:=xQ (s.out.kept z (.inr (dV s j.out (by decide))));clear ai j s af z y5 v_ z0 ax z1 ay z2 az;have y_:=ar.out.tri;exact bodyPost_ret (v:= .tuple #[.agg #[aA,aB,.slice (some ⟨g,0,none⟩) xs cq],.bool true]) (by simp[results,results113,go_sem, *]) rfl (eU (by simp) (bM (by rw[←eL];exact ap.out) (by omega)) aq.out)
theorem aH7 (aA aB id:Int)(b a d:Nat)(x:Int)(xs:List Int)(w:World)(a9:4≤xs.length)(hn:xs.length≤12)(aw:Hid (xs[0]? =some x)) (hb:b<w.heap.size) (au:Hid (w.cell? ⟨b,a,none⟩=some (I x))) (ba:(x !=0)=false) (a8:1≤id)
  (HI:Hid (∀w,U 27 #[(),(),((xs.length:Int)-1:Int)] w fun e w'=>e= .returned (.bool true)∧w=w'))
  (av:Hid (∀w' q c,Sl w' q xs.length c 1 (ivs (xs.set 0 id))→U 25 #[aH aA aB q xs.length c] w' (O (.bool false) w')))
  (HV:xB 25 #[aH aA aB (some ⟨b,a,none⟩) xs.length d] w true)
  (HC:Hid (∀w',Ext w w'→U 48 #[aH aA aB (some ⟨b,a,none⟩) xs.length d] w' (dN aA aB xs w'))):
  U 113 #[aH aA aB (some ⟨b,a,none⟩) xs.length d,(),id] w (dB aA aB xs false w):=by
 have a5:decide (id<1)=false:=by simp;omega
 go_enter func113,ntmps113;have ak:=xQ (Ext.refl w);go_wp2_with fail;refine Z (HV _ (by exact .alloc (.alloc (.refl _) _) _)) fun w1 j=>?_
 have ar:Ext w w1:=(((Ext.refl _).alloc _).alloc _).trans j;have z1:w.heap.size+2≤w1.heap.size:=by have:=j.sz;(try simp at this);omega
 have t:=xQ (ak.out.trans ar);clear ak;have s:=xQ (show Blk w1 w TH3 #[aA,aB,.slice (some ⟨b,a,none⟩) xs d] by have:=((Blk.new w TH3 #[aA,aB,.slice (some ⟨b,a,none⟩) xs d]).alloc _).ext j;simpa using this);have an:=xQ (show Blk w1 (w.heap.size+1) TH3 #[(),(),((),())] by have:=(Blk.new (w.alloc (.cells #[aA,aB,.slice (some ⟨b,a,none⟩) xs d] TH3)) TH3 #[(),(),((),())]).ext j;simpa using this);clear ar j;have c_:=s.out.tri;go_wp2_with fail;clear c_;refine(HC _ t.out).mono ?_;rintro e w2 ⟨q,cq,rfl,ho,ab⟩;have n:Ext w1 w2:=by exact ab
 have z2:w1.heap.size+0≤w2.heap.size:=by have:=ab.sz;(try simp at this);omega
 have k:=xQ (t.out.trans n);have f:=xQ (s.out.ext n);have y:=xQ (an.out.ext n);clear t s an n;have af:(w:Nat)<w2:=f.out.lt;obtain⟨g,rfl,a6,a7⟩:=fK ho (by omega);have i:=xQ (ho);clear ab ho;have cx:w2.cell? ⟨b,a,none⟩=some (I x):=(Ext.cells k.out).1 _ _ hb |>.trans au.out;have lb:b<w2:=aT4 hb k.out.sz;have c_:=f.out.tri;have a0:w2.cell? ⟨g,0,none⟩=some (I x):=by have:=i.out.cellAt 0 (by omega);rw[this];simpa[ivs]using aw.out
 have a1:w2.frozen? ⟨g,0,none⟩=false:=i.out.frozenAt 0;go_upto_region 7 with((go_at_call 27;(with_reducible refine(HI _).mono ?_);rintro e w9 ⟨rfl,rfl⟩));clear cx a0 a1 c_;have y3:=(i.out.stored (0) (I id)).1;have m:ExtR (g) w2 _:=(i.out.stored (0) (I id)).2;have r:(World.setCell w2 ⟨g,0,none⟩ (I id)).heap.size=w2.heap.size:=by simp
 generalize az:World.setCell _ _ _=w3 at*;rw[←r];clear az;have z3:(w2:Nat)≤w3:=aVk r.symm;have bb:(w3:Nat)≤w2:=aVk r;clear r;have al:=xQ (ExtR.new k m (by omega));have ag:=xQ (show Blk w3 w _ _ from(m.block _ f.out.lt (by first|(simp;done)|(simp;omega))).trans f.out);have ao:=xQ (show Blk w3 (w.heap.size+1) _ _ from(m.block _ y.out.lt (by first|(simp;done)|(simp;omega))).trans y.out);have aj:=xQ (y3);clear k f y i m y3 af;go_wp2_with fail;refine Z (av (w3.alloc (.cells #[aA,aB,.slice (some ⟨g,0,none⟩) xs cq] TH3)) _ _ (by rw[←eL];exact Sl.own (aj.out.alloc _))) fun w4 ad=>?_
 have o:Ext w3 w4:=((Ext.refl _).alloc _).trans ad;have z4:w3.heap.size+1≤w4.heap.size:=by have:=ad.sz;(try simp at this);omega
 have u:=xQ (al.out.trans o);have ah:=xQ (ag.out.ext o);have ap:=xQ (ao.out.ext o);clear al ag ao aj o ad;have h_:=ah.out.tri;go_wp2_with fail;clear h_;refine(HC _ u.out).mono ?_;rintro e w5 ⟨q5,c5,rfl,o5,aq⟩;have ae:Ext w4 w5:=by exact aq
 have am:=xQ (u.out.trans ae);have l:=xQ (ap.out.ext ae);clear u ah ap ae;have h:=xQ (o5);clear aq o5;obtain⟨z0,a2,z1,a3,z2,a4⟩:=l.out.trif;go_wp2;have y6:=((l.out.set 0 (I aA)).set 1 (I aB)).set 2 (.slice q5 xs c5);simp only[aTm,aTk,aTj]at y6;generalize aa:World.setCell _ _ _=w6;rw[aa]at y6;have z:ExtR (w.heap.size+1) w5 w6:=by rw[←aa];exact(((ExtR.refl (w.heap.size+1) w5).setCell (p:=⟨w.heap.size+1,0,none⟩) (.inl rfl) (I aA)).setCell (p:=⟨w.heap.size+1,1,none⟩) (.inl rfl) (I aB)).setCell (p:=⟨w.heap.size+1,2,none⟩) (.inl rfl) (.slice q5 xs c5)
 clear aa;have ax:=xQ (ExtR.new am z (by omega));have ay:=xQ (y6);have ai:=xQ (h.out.kept z (.inr (dV h l.out (by decide))));clear am l h z y6 z0 a2 z1 a3 z2 a4;have y_:=ay.out.tri;exact bodyPost_ret (v:= .tuple #[.agg #[aA,aB,.slice q5 xs c5],.bool false]) (by simp[results,results113,go_sem, *]) rfl (eU (by simp) (bM (by exact ai.out) (by omega)) ax.out)
theorem aNi (aA aB:Int)(b a c:Nat)(x:Int)(xs:List Int)(w:World)(a2:4≤xs.length)(hn:xs.length≤12)(an:Hid (xs[0]? =some x)) (hb:b<w.heap.size) (ab:Hid (w.cell? ⟨b,a,none⟩=some (I x)))
  (HI:Hid (∀w,U 27 #[(),(),((xs.length:Int)-1:Int)] w fun e w'=>e= .returned (.bool true)∧w=w'))
  (HV:xB 25 #[aH aA aB (some ⟨b,a,none⟩) xs.length c] w true)
  (HC:Hid (∀w',Ext w w'→U 48 #[aH aA aB (some ⟨b,a,none⟩) xs.length c] w' (dN aA aB xs w'))):
  U 116 #[aH aA aB (some ⟨b,a,none⟩) xs.length c,()] w (dA aA aB (xs.set 0 0) x w):=by
 go_enter func116,ntmps116;have ah:=xQ (Ext.refl w);go_wp2_with fail;refine Z (HV _ (by exact .alloc (.alloc (.refl _) _) _)) fun w1 h=>?_
 have am:Ext w w1:=(((Ext.refl _).alloc _).alloc _).trans h;have z1:w.heap.size+2≤w1.heap.size:=by have:=h.sz;(try simp at this);omega
 have o:=xQ (ah.out.trans am);clear ah;have m:=xQ (show Blk w1 w TH3 #[aA,aB,.slice (some ⟨b,a,none⟩) xs c] by have:=((Blk.new w TH3 #[aA,aB,.slice (some ⟨b,a,none⟩) xs c]).alloc _).ext h;simpa using this);have aj:=xQ (show Blk w1 (w.heap.size+1) TH3 #[(),(),((),())] by have:=(Blk.new (w.alloc (.cells #[aA,aB,.slice (some ⟨b,a,none⟩) xs c] TH3)) TH3 #[(),(),((),())]).ext h;simpa using this);clear am h;obtain⟨c0,c1,c2⟩:=m.out.tri;go_wp2_with fail;clear c0 c1 c2;refine(HC _ o.out).mono ?_;rintro e w2 ⟨q,cq,rfl,ho,z⟩;have k:Ext w1 w2:=by exact z
 have z2:w1.heap.size+0≤w2.heap.size:=by have:=z.sz;(try simp at this);omega
 have r:=xQ (o.out.trans k);have d:=xQ (m.out.ext k);have t:=xQ (aj.out.ext k);clear o m aj k;have aa:(w:Nat)<w2:=d.out.lt;obtain⟨g,rfl,a0,a1⟩:=fK ho (by omega);have f:=xQ (ho);clear z ho;have cx:w2.cell? ⟨b,a,none⟩=some (I x):=(Ext.cells r.out).1 _ _ hb |>.trans ab.out;obtain⟨c0,c1,c2⟩:=d.out.tri;have au:w2.cell? ⟨g,0,none⟩=some (I x):=by have:=f.out.cellAt 0 (by omega);rw[this];simpa[ivs]using an.out
 have av:w2.frozen? ⟨g,0,none⟩=false:=f.out.frozenAt 0;go_upto_region 7 with((go_at_call 27;(with_reducible refine(HI _).mono ?_);rintro e w9 ⟨rfl,rfl⟩));clear cx au av c0 c1 c2;have y3:=(f.out.stored (0) (I 0)).1;have j:ExtR (g) w2 _:=(f.out.stored (0) (I 0)).2;have l:(World.setCell w2 ⟨g,0,none⟩ (I 0)).heap.size=w2.heap.size:=by simp
 generalize ar:World.setCell _ _ _=w3 at*;rw[←l];clear ar;have z3:(w2:Nat)≤w3:=aVk l.symm;have a3:(w3:Nat)≤w2:=aVk l;clear l;have ai:=xQ (ExtR.new r j (by omega));have ad:=xQ (show Blk w3 w _ _ from(j.block _ d.out.lt (by first|(simp;done)|(simp;omega))).trans d.out);have ak:=xQ (show Blk w3 (w.heap.size+1) _ _ from(j.block _ t.out.lt (by first|(simp;done)|(simp;omega))).trans t.out);have af:=xQ (y3);clear r d t f j y3 aa;have hV:Blk (w3.alloc (.cells #[aA,aB,.slice (some ⟨g,0,none⟩) xs cq] TH3)) w3 TH3 #[aA,aB,.slice (some ⟨g,0,none⟩) xs cq]:=Blk.new _ _ _;generalize al:w3.alloc (.cells #[aA,aB,.slice (some ⟨g,0,none⟩) xs cq] TH3)=w4 at*;have e4:Ext w3 w4:=by rw[←al];exact(Ext.refl _).alloc _
 clear al;have s:=xQ (ai.out.trans e4);clear ai;have ae:=xQ (ad.out.ext e4);clear ad;have i:=xQ (ak.out.ext e4);clear ak;have n:=xQ (aW af e4);clear af;have ag:=xQ hV;clear hV e4;have cx:w4.cell? ⟨b,a,none⟩=some (I x):=(Ext.cells s.out).1 _ _ hb |>.trans ab.out;have az:0<xs.length:=by omega
 have n2: ¬(w.heap.size+1=w3.heap.size):=by omega
 have n4: ¬(w.heap.size+1=b):=by omega
 have v_:=ag.out.tri;have c2:=ae.out.cl 2;obtain⟨z0,aw,z1,ax,z2,ay⟩:=i.out.trif;go_region_held3 (fun w'=>w'.cell? ⟨w3,0,none⟩=some (I aA)∧w'.cell? ⟨w3,1,none⟩=some (I aB)∧w'.cell? ⟨w3,2,none⟩=some (.slice (some ⟨g,0,none⟩) xs cq)∧w'.cell? ⟨w,2,none⟩=some (.slice (some ⟨b,a,none⟩) xs c)∧w'.cell? ⟨b,a,none⟩=some (I x)) (first|(refine⟨?_,?_,?_,?_,?_⟩<;>assumption)|go_keep) (fail);go_wp2;have y5:=((i.out.set 0 (I aA)).set 1 (I aB)).set 2 (.slice (some ⟨g,0,none⟩) xs cq);simp only[aTm,aTk,aTj]at y5;generalize y:World.setCell _ _ _=w5;rw[y]at y5;have u:ExtR (w.heap.size+1) w4 w5:=by rw[←y];exact(((ExtR.refl (w.heap.size+1) w4).setCell (p:=⟨w.heap.size+1,0,none⟩) (.inl rfl) (I aA)).setCell (p:=⟨w.heap.size+1,1,none⟩) (.inl rfl) (I aB)).setCell (p:=⟨w.heap.size+1,2,none⟩) (.inl rfl) (.slice (some ⟨g,0,none⟩) xs cq)
 clear y;have ap:=xQ (ExtR.new s u (by omega));have aq:=xQ (y5);have ao:=xQ (n.out.kept u (.inr (dV n i.out (by decide))));clear s ae i n ag u y5 cx v_ c2 z0 aw z1 ax z2 ay;have y_:=aq.out.tri;exact bodyPost_ret (v:= .tuple #[.agg #[aA,aB,.slice (some ⟨g,0,none⟩) xs cq],x]) (by simp[results,results116,go_sem, *]) rfl (fE (by simp) (bM (by rw[←eL];exact aW ao (Ext.refl _).drew) (by omega)) ap.out.drew)
theorem aG4 (aA aB id:Int)(p:OA)(n a:Nat)(xs:List Int)(w:World)(hS:Sl w p n a 1 (ivs xs))(g:aN aA aB xs=true):
  U 113 #[aH aA aB p n a,(),id] w (dB aA aB (dE aA aB xs id).1 (dE aA aB xs id).2 w):=by
 have hl:=hS.ilen;subst hl;obtain⟨g1,g2,g3,g4,g5,g6,g7,g8,g9⟩:=bN g;obtain⟨b,d,x,rfl,hx,hb,hc⟩:=hS.int_at (k:=0) (by omega);have f:w.cell? ⟨b,d,none⟩=some (I x):=by simpa using hc
 have i:xs.getD 0 0=x:=by rw[aTb,hx];rfl
 have HV:=fun(w':World) (hy:Ext w w')=>gM aA aB _ xs.length a xs w' (hS.ext hy)
 rw[g]at HV;have HC:=fun(w':World) (hy:Ext w w')=>gQ aA aB _ xs.length a xs w' (by omega) (hS.ext hy)
 have HI:=fun(w:World)=>oF 0 0 ((xs.length:Int)-1) w (by omega) (by omega)
 unfold dE;rw[i];by_cases e0:x=0
 ·have e1:(x !=0)=false:=by simp[e0]
  by_cases hi:1≤id
  ·have e:=fun(w':World) q c (h:Sl w' q xs.length c 1 (ivs (xs.set 0 id)))=>gM aA aB q xs.length c (xs.set 0 id) w' h
   cases h2:aN aA aB (xs.set 0 id)with
   |true=>rw[h2]at e;rw[if_pos ⟨e0,hi,rfl⟩];exact aH6 aA aB id b d a x xs w g5 g6 hx hb f e1 hi HI e HV HC
   |false=>rw[h2]at e;rw[if_neg (by simp)];exact aH7 aA aB id b d a x xs w g5 g6 hx hb f e1 hi HI e HV HC
  rw[if_neg (fun h=>hi h.2.1)];exact aKy aA aB id b d a x xs w g5 g6 hx hb f e1 (by omega) HI HV HC
 rw[if_neg (fun h=>e0 h.1)];exact aEk aA aB id b d a x xs w g5 g6 hx hb f (by simpa using e0) HI HV HC
theorem aDp (aA aB:Int)(p:OA)(n a:Nat)(xs:List Int)(w:World)(hS:Sl w p n a 1 (ivs xs))(c:aN aA aB xs=true):
  U 116 #[aH aA aB p n a,()] w (dA aA aB (xs.set 0 0) (xs.getD 0 0) w):=by
 have hl:=hS.ilen;subst hl;obtain⟨g1,g2,g3,g4,g5,g6,g7,g8,g9⟩:=bN c;obtain⟨b,d,x,rfl,hx,hb,hc⟩:=hS.int_at (k:=0) (by omega);have e:w.cell? ⟨b,d,none⟩=some (I x):=by simpa using hc
 have f:xs.getD 0 0=x:=by rw[aTb,hx];rfl
 have HV:=fun(w':World) (hy:Ext w w')=>gM aA aB _ xs.length a xs w' (hS.ext hy)
 rw[c]at HV;rw[f];exact aNi aA aB b d a x xs w g5 g6 hx hb e (fun w=>oF 0 0 ((xs.length:Int)-1) w (by omega) (by omega)) HV (fun(w':World) (hy:Ext w w')=>gQ aA aB _ xs.length a xs w' (by omega) (hS.ext hy))
abbrev Sl2:=Int×Int
def aM (s:Sl2):List Value:= [.int .i64 s.1,.int .i64 s.2]
def gH (l:List Sl2)(w:World)(e:Ending)(w':World):Prop:=
 ∃p cap,e= .returned (.slice p l.length cap)∧w'.ownsRow w.heap.size TSL 2 (.slice p l.length cap) l.length (l.flatMap aM)∧Ext w w'
theorem rS:ElT prog 116 TSL 2:=
 ⟨underlying116,by
  obtain⟨i,hi,h0,h1,h2⟩:=info_parts (show(prog.info? TSL).map (fun i=>(i.zero,i.size,i.bytes))=some (some (.agg #[(),()]),2,16) by kernel_rfl)
  exact⟨i,_,hi,h0,h1,by omega,rfl⟩,by omega⟩
theorem zX (w:World)(a b:Value)(t:TypeId): ∀j u,([a,b]:List Value)[j]? =some u→(w.alloc (.cells #[a,b] t)).cell? ⟨w,0+j,none⟩=some u:=by
 intro j u hu;rw[aUf]
 match j,hu with
 |0,hu=>simp at hu;subst hu;exact(Blk.new w t #[a,b]).cell 0
 |1,hu=>simp at hu;subst hu;exact(Blk.new w t #[a,b]).cell 1
def lK (m:Nat→Bool)(f:Nat):Nat→List Sl2
 |0=> []
 |k+1=>lK m f k++(if m k then [((f:Int),(k:Int))]else [])
def eF (m:Nat→Nat→Bool)(n:Nat):Nat→List Sl2
 |0=> []
 |k+1=>eF m n k++lK (m k) k n
theorem aO2 (m:Nat→Bool)(f k:Nat):(lK m f k).length≤k:=by
 induction k with
 |zero=>exact aT5 _
 |succ k ih=>unfold lK;rw[aTc];split<;>simp<;>omega
theorem aB9 (m:Nat→Nat→Bool)(n k:Nat):(eF m n k).length≤k*n:=by
 induction k with
 |zero=>simp[eF]
 |succ k ih=>unfold eF;rw[aTc,aVc];have:=aO2 (m k) k n;omega
def iV (aA aB:Int)(xs:List Int):List Sl2:=eF (fun f t=>bH aA aB xs f t) xs.length xs.length
theorem aNb (aA aB:Int)(p:OA)(n g:Nat)(m:Nat→Nat→Bool)(w:World)(hn:n≤12)
  (HM:Hid (∀(f t:Nat),f<n→t<n→ ∀w',Ext w w'→U 119 #[aH aA aB p n g,eK (f:Int) (t:Int)] w' (O (.bool (m f t)) w'))):
  U 81 #[aH aA aB p n g] w (gH (eF m n n) w):=by
 go_enter func81,ntmps81;go_wp2;go_loopw [3,4] (fun v i wr=> ∃(k:Nat) (q:OA) (l c:Nat),k≤n∧i=I k∧v= .slice q l c∧l≤k*n∧wr.ownsRow (w.heap.size+1) TSL 2 (.slice q l c) l ((eF m n k).flatMap aM)∧Ext w wr∧Blk wr w TH3 #[aA,aB,.slice p n g]) (fun _ i _=>n-(intOf i).toNat)
 case atStart=>have ho:((w.alloc (.cells #[aA,aB,.slice p n g] TH3)).alloc (.cells #[] TSL)).ownsRow (w.heap.size+1) TSL 2 (.slice (some ⟨(w.alloc (.cells #[aA,aB,.slice p n g] TH3)).heap.size,0,none⟩) 0 0) 0 []:=aU5 _ #[] 0 (by simp) (by simp[maxLen]) rfl;exact⟨0,_,0,0,aTd _,rfl,rfl,by simp,by simpa[eF]using ho,by exact .alloc (.alloc (.refl _) _) _,(Blk.new w _ _).alloc _⟩
 case round=>
  obtain⟨k,q,l,c,hk,rfl,rfl,s,b,d,hB⟩:=hrel;have HO:=xQ b;have HB:=xQ hB;have y:(w:Nat)<wr:=hB.lt;have x:Hid (l=(eF m n k).length):=by have:=b.1;rw[dD aM 2 (fun _=>rfl)]at this;show _=_;omega
  clear b hB;obtain⟨b0,b1,b2⟩:=HB.out.cells3;by_cases hlt:k<n
  ·have ag:k*n≤132:=by have:=Nat.mul_le_mul (show k≤11 by omega) hn;omega
   go_wp2;obtain⟨wo,rfl⟩: ∃wo:World,wo=wr:=⟨_,rfl⟩
   clear b0 b1 b2;go_loopw [3,5] (fun v i wr=> ∃(j:Nat) (q:OA) (l c:Nat),j≤n∧i=I j∧v= .slice q l c∧l≤k*n+j∧wr.ownsRow (w.heap.size+1) TSL 2 (.slice q l c) l ((eF m n k++lK (m k) k j).flatMap aM)∧Ext w wr∧Blk wr w TH3 #[aA,aB,.slice p n g]) (fun _ i _=>n-(intOf i).toNat)
   case atStart=>exact⟨0,q,l,c,aTd _,rfl,rfl,by omega,by simpa[lK]using HO.out,d,HB.out⟩
   case round=>
    clear HO HB y d x s;obtain⟨j,q,l,c,hj,rfl,rfl,s,b,d,hB⟩:=hrel;have HO:=xQ b;have HB:=xQ hB;have y:(w:Nat)<wr:=hB.lt;clear b hB;obtain⟨b0,b1,b2⟩:=HB.out.cells3;by_cases hlt2:j<n
    ·go_wp2_with fail;refine Z (HM k j hlt hlt2 _ d) fun w1 h1=>?_
     have h:=xQ (aW HO h1);have r:=xQ (HB.out.ext h1);have o:=xQ (d.trans h1);have af:(w:Nat)<w1:=r.out.lt;clear h1 b0 b1 b2 HO HB d;cases hm:m k j with
     |true=>
      have a:Hid (eF m n k++lK (m k) k (j+1)=(eF m n k++lK (m k) k j)++ [((k:Int),(j:Int))]):=by show _=_;rw[lK,if_pos hm,aTx]
      clear hm;go_wp2_with (at_builtin;refine iS rS (f:=aM) (fun _=>rfl) (fun _ u hu=>by simp[aM]at hu;rcases hu with rfl|rfl<;>rfl) rfl _ _ rfl (w.heap.size+1) _ _ _ rfl (h.out.alloc _) _ _ ((k:Int),(j:Int)) _ rfl (zX _ _ _ _) (by omega) (by first|(simp;done)|(simp;omega)) ?_;intro p' cap' w2 hown1 hg1;have aa:=xQ hown1;have ab:Ext w w2:=Ext.own (o.out.alloc _) (h.out.alloc _) hg1 (by omega);have z:=xQ (rW h hg1 r.out);clear hown1 hg1);go_roundw
      case rel=>exact⟨j+1,p',l+1,cap',by omega,by go_num,rfl,by omega,by rw[a.out];exact aa.out,ab,z.out⟩
      case measure=>simp[intOf];omega
     |false=>
      have a:Hid (eF m n k++lK (m k) k (j+1)=eF m n k++lK (m k) k j):=by show _=_;rw[lK,if_neg (by rw[hm];simp),aTv]
      clear hm;go_wp2;go_roundw
      case rel=>exact⟨j+1,q,l,c,by omega,by go_num,rfl,by omega,by rw[a.out];exact h.out,o.out,r.out⟩
      case measure=>simp[intOf];omega
    have a:Hid (eF m n k++lK (m k) k j=eF m n (k+1)):=by show _=_;rw[eF,show j=n by omega]
    have ad:k*n+n=(k+1)*n:=(aVc k n).symm;go_wp2;go_roundw
    case rel=>exact⟨k+1,q,l,c,by omega,by go_num,rfl,by rw[←ad];omega,by rw[←a.out];exact HO.out,d,HB.out⟩
    case measure=>simp[intOf];omega
  have a:Hid (eF m n k=eF m n n):=by show _=_;rw[show k=n by omega]
  go_wp2;go_ret;have ae:(eF m n n).length=l:=by rw[←a.out];exact x.out.symm
  subst ae;exact⟨q,c,rfl,by rw[a.out]at HO;exact bM HO (Nat.le_succ _),d⟩
theorem aAd (aA aB:Int)(p:OA)(n a:Nat)(xs:List Int)(w:World)(hS:Sl w p n a 1 (ivs xs))(b:aN aA aB xs=true):
  U 81 #[aH aA aB p n a] w (gH (iV aA aB xs) w):=by
 have hl:=hS.ilen;subst hl;obtain⟨g1,g2,g3,g4,g5,g6,g7,g8,g9⟩:=bN b;exact aNb aA aB p xs.length a _ w g6 (fun f t _ _ w' hx=>aGx aA aB f t p xs.length a xs w' (hS.ext hx))
end Go.Proofs.YthfmmibomhhmpaaGreatDoor
