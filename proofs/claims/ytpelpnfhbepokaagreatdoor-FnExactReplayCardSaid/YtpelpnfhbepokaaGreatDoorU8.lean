/-
  Texts of this proof, packed (@packed).
-/
import Derived.Test.YtpelpnfhbepokaaGreatDoorU7
namespace Go.Proofs.YtpelpnfhbepokaaGreatDoor
open Go.RowKit
set_option linter.unusedVariables false
set_option linter.unusedSimpArgs false
set_option maxHeartbeats 8000000
set_option maxRecDepth 100000
abbrev TSL:TypeId:=89
abbrev dQ (f t:Int):Value:= .agg #[f,t]
def aZ (aA aB:Int)(xs:List Int)(f t:Int):Bool:=decide (dC aA aB xs f t=1)&&decide (0<xs.getD f.toNat 0)&&decide (xs.getD t.toNat 0=0)
theorem jE {aA aB:Int}{xs:List Int}{a b:Int}(h:dC aA aB xs a b=1):aN aA aB xs=true∧0≤a∧a<xs.length∧0≤b∧b<xs.length∧aX aA a b=1:=by
 unfold dC at h;split at h
 ·rename_i hh;exact⟨hh.1,hh.2.1.1,hh.2.1.2,hh.2.2.1,hh.2.2.2,h⟩
 omega
theorem Blk.cells2 {w:World}{g:Nat}{t:TypeId}{a b:Value}(h:Blk w g t #[a,b]):w.cell? ⟨g,0,none⟩=some a∧w.cell? ⟨g,1,none⟩=some b:=⟨h.cell 0,h.cell 1⟩
theorem aGm (aA aB f t:Int)(p:OA)(n cap:Nat)(A:Int)(w:World)(hA:(A==1)=false)
  (HC:xC 183 #[aH aA aB p n cap,f,t] w fun w' e w''=>e= .returned (.int .i64 A)∧Ext w' w''):
  Calls Tryz.prog 139 #[aH aA aB p n cap,dQ f t] w fun e w'=>e= .returned (.bool false)∧Ext w w':=by
 go_enter Tryz.func139,Tryz.ntmps139;go_wp2_with fail;refine(HC _ (by exact .alloc (.alloc (.refl _) _) _)).mono ?_;rintro e w1 ⟨rfl,a⟩;have B1:=xQ (show Blk w1 w.heap.size TH3 #[aA,aB,.slice p n cap]from((Blk.new w TH3 #[aA,aB,.slice p n cap]).alloc _).ext a);have S1:=xQ (show Blk w1 (w.heap.size+1) TSL #[f,t] by have:=(Blk.new (w.alloc (.cells #[aA,aB,.slice p n cap] TH3)) TSL #[f,t]).ext a;simpa using this);have X1:Ext w w1:=by exact .trans (.alloc (.alloc (.refl _) _) _) a
 have z1:w.heap.size+1<w1.heap.size:=S1.out.lt;clear a;obtain⟨c0,c1,c2⟩:=B1.out.cells3;obtain⟨s0,s1⟩:=S1.out.cells2;go_wp2;go_ret;exact⟨rfl,by exact X1⟩
theorem aIo (aA aB:Int)(p:OA)(n cap:Nat)(i j:Nat)(x y:Int)(xs:List Int)(w:World)(hn:n≤12)(hi:i<n)(hj:j<n)(HX:Hid (xs[i]? =some x)) (HY:Hid (xs[j]? =some y)) (HS:Hid (Sl w p n cap 1 (ivs xs)))
  (HC:xC 183 #[aH aA aB p n cap,(i:Int),(j:Int)] w fun w' e w''=>e= .returned (.int .i64 1)∧Ext w' w''):
  Calls Tryz.prog 139 #[aH aA aB p n cap,dQ (i:Int) (j:Int)] w fun e w'=>e= .returned (.bool (decide (0<x)&&decide (y=0)))∧Ext w w':=by
 obtain⟨b,d,x',k,hx,hb,m⟩:=HS.out.int_at hi;obtain⟨b2,q,y',f,hy,_,o⟩:=HS.out.int_at hj;rw[k]at f;injection f with f;injection f with e1 e2;subst e1 e2;have h:=xQ k;clear k;obtain rfl:x=x':=by have:=HX.out.symm.trans hx;injection this
 obtain rfl:y=y':=by have:=HY.out.symm.trans hy;injection this
 clear hx hy;have a1:(0:Int)≤(i:Int):=by omega
 have a2:(0:Int)≤(j:Int):=by omega
 have a3:(i:Int)<(n:Int):=by omega
 have a4:(j:Int)<(n:Int):=by omega
 have g:=xQ m;have l:=xQ o;clear m o;by_cases h0:0<x
 ·have d0:decide (0<x)=true:=by simp[h0]
  by_cases h1:y=0
  ·have d1:(y==0)=true:=by simp[h1]
   have c:Hid ((decide (0<x)&&decide (y=0))=true):=by show _=_;simp[h0,h1]
   clear h1;go_enter Tryz.func139,Tryz.ntmps139;go_wp2_with fail;refine(HC _ (by exact .alloc (.alloc (.refl _) _) _)).mono ?_;rintro e w1 ⟨rfl,a⟩;have B1:=xQ (show Blk w1 w.heap.size TH3 #[aA,aB,.slice p n cap]from((Blk.new w TH3 #[aA,aB,.slice p n cap]).alloc _).ext a);have S1:=xQ (show Blk w1 (w.heap.size+1) TSL #[(i:Int),(j:Int)] by have:=(Blk.new (w.alloc (.cells #[aA,aB,.slice p n cap] TH3)) TSL #[(i:Int),(j:Int)]).ext a;simpa using this);have X1:Ext w w1:=by exact .trans (.alloc (.alloc (.refl _) _) _) a
   have z1:w.heap.size+1<w1.heap.size:=S1.out.lt;clear a;obtain⟨c0,c1,c2⟩:=B1.out.cells3;rw[h.out]at c2;obtain⟨s0,s1⟩:=S1.out.cells2;have g1:w1.cell? ⟨b,d+i,none⟩=some (iv x):=(X1.cells.1 _ _ hb).trans g.out;have g2:w1.cell? ⟨b,d+j,none⟩=some (iv y):=(X1.cells.1 _ _ hb).trans l.out;go_wp2;go_ret;exact⟨aO c.out.symm,by exact X1⟩
  have d1:(y==0)=false:=by simp[h1]
  have c:Hid ((decide (0<x)&&decide (y=0))=false):=by show _=_;simp[h1]
  clear h1;go_enter Tryz.func139,Tryz.ntmps139;go_wp2_with fail;refine(HC _ (by exact .alloc (.alloc (.refl _) _) _)).mono ?_;rintro e w1 ⟨rfl,a⟩;have B1:=xQ (show Blk w1 w.heap.size TH3 #[aA,aB,.slice p n cap]from((Blk.new w TH3 #[aA,aB,.slice p n cap]).alloc _).ext a);have S1:=xQ (show Blk w1 (w.heap.size+1) TSL #[(i:Int),(j:Int)] by have:=(Blk.new (w.alloc (.cells #[aA,aB,.slice p n cap] TH3)) TSL #[(i:Int),(j:Int)]).ext a;simpa using this);have X1:Ext w w1:=by exact .trans (.alloc (.alloc (.refl _) _) _) a
  have z1:w.heap.size+1<w1.heap.size:=S1.out.lt;clear a;obtain⟨c0,c1,c2⟩:=B1.out.cells3;rw[h.out]at c2;obtain⟨s0,s1⟩:=S1.out.cells2;have g1:w1.cell? ⟨b,d+i,none⟩=some (iv x):=(X1.cells.1 _ _ hb).trans g.out;have g2:w1.cell? ⟨b,d+j,none⟩=some (iv y):=(X1.cells.1 _ _ hb).trans l.out;go_wp2;go_ret;exact⟨aO c.out.symm,by exact X1⟩
 have d0:decide (0<x)=false:=by simp[h0]
 have c:Hid ((decide (0<x)&&decide (y=0))=false):=by show _=_;simp[h0]
 go_enter Tryz.func139,Tryz.ntmps139;go_wp2_with fail;refine(HC _ (by exact .alloc (.alloc (.refl _) _) _)).mono ?_;rintro e w1 ⟨rfl,a⟩;have B1:=xQ (show Blk w1 w.heap.size TH3 #[aA,aB,.slice p n cap]from((Blk.new w TH3 #[aA,aB,.slice p n cap]).alloc _).ext a);have S1:=xQ (show Blk w1 (w.heap.size+1) TSL #[(i:Int),(j:Int)] by have:=(Blk.new (w.alloc (.cells #[aA,aB,.slice p n cap] TH3)) TSL #[(i:Int),(j:Int)]).ext a;simpa using this);have X1:Ext w w1:=by exact .trans (.alloc (.alloc (.refl _) _) _) a
 have z1:w.heap.size+1<w1.heap.size:=S1.out.lt;clear a;obtain⟨c0,c1,c2⟩:=B1.out.cells3;rw[h.out]at c2;obtain⟨s0,s1⟩:=S1.out.cells2;have g1:w1.cell? ⟨b,d+i,none⟩=some (iv x):=(X1.cells.1 _ _ hb).trans g.out;go_wp2;go_ret;exact⟨aO c.out.symm,by exact X1⟩
theorem aIp (aA aB f t:Int)(p:OA)(n cap:Nat)(xs:List Int)(w:World)(hS:Sl w p n cap 1 (ivs xs)):
  Calls Tryz.prog 139 #[aH aA aB p n cap,dQ f t] w fun e w'=>e= .returned (.bool (aZ aA aB xs f t))∧Ext w w':=by
 have hl:=hS.ilen;have HC:=fun(w':World) (hx:Ext w w')=>zW aA aB f t p n cap xs w' (hS.ext hx)
 unfold aZ;by_cases h:dC aA aB xs f t=1
 ·obtain⟨k1,k2,k3,k4,k5,k6⟩:=jE h;obtain⟨g1,g2,g3,g4,g5,g6,g7,g8,g9⟩:=bQ k1;rw[h]at HC;have hx:xs[f.toNat]? =some (xs.getD f.toNat 0):=by rw[List.getD_eq_getElem?_getD,List.getElem?_eq_getElem (by omega)];rfl
  have hy:xs[t.toNat]? =some (xs.getD t.toNat 0):=by rw[List.getD_eq_getElem?_getD,List.getElem?_eq_getElem (by omega)];rfl
  have ef:((f.toNat:Nat):Int)=f:=by omega
  have et:((t.toNat:Nat):Int)=t:=by omega
  have:=aIo aA aB p n cap f.toNat t.toNat _ _ xs w (by omega) (by omega) (by omega) hx hy hS (by rw[ef,et];exact HC);rw[ef,et]at this;rw[decide_eq_true h,Bool.true_and];exact this
 have:=aGm aA aB f t p n cap _ w (by simpa using h) HC;rw[decide_eq_false h,Bool.false_and,Bool.false_and];exact this
def cN (aA aB:Int)(xs:List Int)(b:Bool)(w:World)(e:Ending)(w':World):Prop:=
 ∃p cap,e= .returned (.tuple #[aH aA aB p xs.length cap,.bool b])∧w'.ownsRow w.heap.size TI 1 (.slice p xs.length cap) xs.length (ivs xs)∧Ext w w'
theorem dR {aA aB:Int}{p:OA}{n cap:Nat}{xs:List Int}{b:Bool}{w w':World}(hn:xs.length=n)(ho:w'.ownsRow w.heap.size TI 1 (.slice p n cap) n (ivs xs))(hx:Ext w w'):cN aA aB xs b w (.returned (.tuple #[aH aA aB p n cap,.bool b])) w':=by subst hn;exact⟨p,cap,rfl,ho,hx⟩
theorem eG {w:World}{B n sz:Nat}{e:TypeId}{q:OA}{cap:Nat}{xs:List Value}(ho:w.ownsRow B e sz (.slice q n cap) n xs)(h:0<n): ∃g,q=some ⟨g,0,none⟩∧B≤g∧g<w.heap.size:=by
 rcases ho.2 with⟨h1,h2⟩|⟨g',cap',cur,h1,hb',hg,r⟩
 ·omega
 injection h1 with e1;exact⟨g',e1,hb',(Array.getElem?_eq_some_iff.1 hg).1⟩
theorem dN (xs:List Int)(k:Nat)(x:Int):(ivs xs).set k (iv x)=ivs (xs.set k x):=by simp[ivs,List.map_set]
theorem aGn (aA aB:Int)(p:OA)(cap:Nat)(i j:Int)(xs:List Int)(w:World)(a8:4≤xs.length)(hn:xs.length≤12)
  (HV:xB 41 #[aH aA aB p xs.length cap] w true)
  (HC:Hid (∀w',Ext w w'→Calls Tryz.prog 81 #[aH aA aB p xs.length cap] w' (dK aA aB xs w')))
  (HM:xB 139 #[aH aA aB p xs.length cap,dQ i j] w false):
  Calls Tryz.prog 88 #[aH aA aB p xs.length cap,dQ i j] w (cN aA aB xs false w):=by
 go_enter Tryz.func88,Tryz.ntmps88;have ao:=xQ (Ext.refl w);go_wp2_with fail;refine(HV _ (by exact .alloc (.alloc (.alloc (.refl _) _) _) _)).mono ?_;rintro e w1 ⟨rfl,b⟩;have ar:Ext w w1:=((((Ext.refl _).alloc _).alloc _).alloc _).trans b;have z1:w.heap.size+3≤w1.heap.size:=by have:=b.sz;(try simp at this);omega
 have u:=xQ (ao.out.trans ar);clear ao;have l:=xQ (show Blk w1 (w.heap.size) TH3 #[aA,aB,.slice p xs.length cap] by have:=(((Blk.new w TH3 #[aA,aB,.slice p xs.length cap]).alloc _).alloc _).ext b;simpa using this);have t:=xQ (show Blk w1 (w.heap.size+1) TSL #[i,j] by have:=((Blk.new (w.alloc (.cells #[aA,aB,.slice p xs.length cap] TH3)) TSL #[i,j]).alloc _).ext b;simpa using this);have y:=xQ (show Blk w1 (w.heap.size+1+1) TH3 #[(),(),((),())] by have:=(Blk.new ((w.alloc (.cells #[aA,aB,.slice p xs.length cap] TH3)).alloc (.cells #[i,j] TSL)) TH3 #[(),(),((),())]).ext b;simpa using this);clear ar;have ad:w.heap.size<w1.heap.size:=l.out.lt;have ag:w.heap.size+1<w1.heap.size:=t.out.lt;have ak:w.heap.size+1+1<w1.heap.size:=y.out.lt;clear b;obtain⟨c0,c1,c2⟩:=l.out.tri;go_wp2_with fail;clear c0 c1 c2;refine(HC _ u.out).mono ?_;rintro e w2 ⟨q,c2,rfl,ho,ab⟩;have k:Ext w1 w2:=by exact ab
 have z2:w1.heap.size+0≤w2.heap.size:=by have:=ab.sz;(try simp at this);omega
 have x:=xQ (u.out.trans k);have m:=xQ (l.out.ext k);have d:=xQ (t.out.ext k);have z:=xQ (y.out.ext k);clear u l t y k ad;have ae:w.heap.size<w2.heap.size:=m.out.lt;clear ag;have ah:w.heap.size+1<w2.heap.size:=d.out.lt;clear ak;have al:w.heap.size+1+1<w2.heap.size:=z.out.lt;obtain⟨g,rfl,a6,a7⟩:=eG ho (by omega);have an:=xQ (ho);clear ab ho;obtain⟨c0,c1,c2⟩:=m.out.tri;have s0:=d.out.cl 0;have s1:=d.out.cl 1;go_wp2_with fail;clear c0 c1 c2 s0 s1;refine(HM _ (x.out.alloc _)).mono ?_;rintro e w3 ⟨rfl,r⟩;have c:Ext w2 w3:=((Ext.refl _).alloc _).trans r;have z3:w2.heap.size+1≤w3.heap.size:=by have:=r.sz;(try simp at this);omega
 have ap:=xQ (x.out.trans c);have n:=xQ (m.out.ext c);have o:=xQ (d.out.ext c);have h:=xQ (z.out.ext c);have s:=xQ (bD an c);clear x m d z an;have f:=xQ (show Blk w3 (w2.heap.size) TH3 #[aA,aB,.slice (some ⟨g,0,none⟩) xs.length c2] by have:=(Blk.new w2 TH3 #[aA,aB,.slice (some ⟨g,0,none⟩) xs.length c2]).ext r;simpa using this);clear c ae;have af:w.heap.size<w3.heap.size:=n.out.lt;clear ah;have ai:w.heap.size+1<w3.heap.size:=o.out.lt;clear al;have am:w.heap.size+1+1<w3.heap.size:=h.out.lt;have aj:w2.heap.size<w3.heap.size:=f.out.lt;clear r;obtain⟨v0,v1,v2⟩:=f.out.tri;obtain⟨z0,a3,z1,a4,z2,a5⟩:=h.out.trif;go_wp2;have y4:=((h.out.set 0 (.int .i64 aA)).set 1 (.int .i64 aB)).set 2 (.slice (some ⟨g,0,none⟩) xs.length c2);simp only[List.setIfInBounds_toArray,List.set_cons_zero,List.set_cons_succ]at y4;generalize aa:World.setCell _ _ _=w4;rw[aa]at y4;have a:ExtR (w.heap.size+1+1) w3 w4:=by rw[←aa];exact(((ExtR.refl (w.heap.size+1+1) w3).setCell (p:=⟨w.heap.size+1+1,0,none⟩) (.inl rfl) (.int .i64 aA)).setCell (p:=⟨w.heap.size+1+1,1,none⟩) (.inl rfl) (.int .i64 aB)).setCell (p:=⟨w.heap.size+1+1,2,none⟩) (.inl rfl) (.slice (some ⟨g,0,none⟩) xs.length c2)
 clear aa;have z4:w3.heap.size≤w4.heap.size:=a.sz;have ay:=xQ (ExtR.new ap a (by omega));have au:=xQ (show Blk w4 (w.heap.size) _ _ from(a.block _ n.out.lt (by first|(simp;done)|(simp;omega))).trans n.out);have aw:=xQ (show Blk w4 (w.heap.size+1) _ _ from(a.block _ o.out.lt (by first|(simp;done)|(simp;omega))).trans o.out);have aq:=xQ (y4);have av:=xQ (s.out.kept a (.inr (dD s h.out (by decide))));have ax:=xQ (show Blk w4 (w2.heap.size) _ _ from(a.block _ f.out.lt (by first|(simp;done)|(simp;omega))).trans f.out);clear ap n o h s f a y4 af;have az:w.heap.size<w4.heap.size:=au.out.lt;clear ai;have a0:w.heap.size+1<w4.heap.size:=aw.out.lt;clear am;have a2:w.heap.size+1+1<w4.heap.size:=aq.out.lt;clear aj;have a1:w2.heap.size<w4.heap.size:=ax.out.lt;clear v0 v1 v2 z0 a3 z1 a4 z2 a5;obtain⟨y0,y1,y2⟩:=aq.out.tri;exact bodyPost_ret (v:= .tuple #[.agg #[aA,aB,.slice (some ⟨g,0,none⟩) xs.length c2],.bool false]) (by simp[results,Tryz.results88,go_sem, *]) rfl (dR (by simp) (bK (by exact av.out) (by omega)) ay.out)
theorem aDj (aA aB:Int)(cap i j b a:Nat)(x yj:Int)(xs:List Int)(w:World)(co:4≤xs.length)(hn:xs.length≤12)(hi:i<xs.length)(hj:j<xs.length)(cn:i≠j)(HX:Hid (xs[i]? =some x)) (HY:Hid (xs[j]? =some yj))
  (hb:b<w.heap.size) (b4:Hid (w.cell? ⟨b,a+i,none⟩=some (.int .i64 x)))
  (HV:xB 41 #[aH aA aB (some ⟨b,a,none⟩) xs.length cap] w true)
  (HC:Hid (∀w',Ext w w'→Calls Tryz.prog 81 #[aH aA aB (some ⟨b,a,none⟩) xs.length cap] w' (dK aA aB xs w')))
  (HM:xB 139 #[aH aA aB (some ⟨b,a,none⟩) xs.length cap,dQ (i:Int) (j:Int)] w true):
  Calls Tryz.prog 88 #[aH aA aB (some ⟨b,a,none⟩) xs.length cap,dQ (i:Int) (j:Int)] w (cN aA aB ((xs.set j x).set i 0) true w):=by
 have a1:(0:Int)≤(i:Int):=by omega
 have a2:(0:Int)≤(j:Int):=by omega
 have a3:(i:Int)<(xs.length:Int):=by omega
 have a4:(j:Int)<(xs.length:Int):=by omega
 go_enter Tryz.func88,Tryz.ntmps88;have bx:=xQ (Ext.refl w);go_wp2_with fail;refine(HV _ (by exact .alloc (.alloc (.alloc (.refl _) _) _) _)).mono ?_;rintro e w1 ⟨rfl,l⟩;have b3:Ext w w1:=((((Ext.refl _).alloc _).alloc _).alloc _).trans l;have z1:w.heap.size+3≤w1.heap.size:=by have:=l.sz;(try simp at this);omega
 have aq:=xQ (bx.out.trans b3);clear bx;have ab:=xQ (show Blk w1 (w.heap.size) TH3 #[aA,aB,.slice (some ⟨b,a,none⟩) xs.length cap] by have:=(((Blk.new w TH3 #[aA,aB,.slice (some ⟨b,a,none⟩) xs.length cap]).alloc _).alloc _).ext l;simpa using this);have ap:=xQ (show Blk w1 (w.heap.size+1) TSL #[(i:Int),(j:Int)] by have:=((Blk.new (w.alloc (.cells #[aA,aB,.slice (some ⟨b,a,none⟩) xs.length cap] TH3)) TSL #[(i:Int),(j:Int)]).alloc _).ext l;simpa using this);have av:=xQ (show Blk w1 (w.heap.size+1+1) TH3 #[(),(),((),())] by have:=(Blk.new ((w.alloc (.cells #[aA,aB,.slice (some ⟨b,a,none⟩) xs.length cap] TH3)).alloc (.cells #[(i:Int),(j:Int)] TSL)) TH3 #[(),(),((),())]).ext l;simpa using this);clear b3;have a0:w.heap.size<w1.heap.size:=ab.out.lt;have ba:w.heap.size+1<w1.heap.size:=ap.out.lt;have bk:w.heap.size+1+1<w1.heap.size:=av.out.lt;clear l;obtain⟨c0,c1,c2⟩:=ab.out.tri;go_wp2_with fail;clear c0 c1 c2;refine(HC _ aq.out).mono ?_;rintro e w2 ⟨q,c2,rfl,ho,az⟩;have aa:Ext w1 w2:=by exact az
 have z2:w1.heap.size+0≤w2.heap.size:=by have:=az.sz;(try simp at this);omega
 have ar:=xQ (aq.out.trans aa);have ad:=xQ (ab.out.ext aa);have r:=xQ (ap.out.ext aa);have aw:=xQ (av.out.ext aa);clear aq ab ap av aa a0;have a5:w.heap.size<w2.heap.size:=ad.out.lt;clear ba;have bb:w.heap.size+1<w2.heap.size:=r.out.lt;clear bk;have bl:w.heap.size+1+1<w2.heap.size:=aw.out.lt;obtain⟨g,rfl,ck,cm⟩:=eG ho (by omega);have bv:=xQ (ho);clear az ho;obtain⟨c0,c1,c2⟩:=ad.out.tri;have s0:=r.out.cl 0;have s1:=r.out.cl 1;go_wp2_with fail;clear c0 c1 c2 s0 s1;refine(HM _ (ar.out.alloc _)).mono ?_;rintro e w3 ⟨rfl,an⟩;have m:Ext w2 w3:=((Ext.refl _).alloc _).trans an;have z3:w2.heap.size+1≤w3.heap.size:=by have:=an.sz;(try simp at this);omega
 have au:=xQ (ar.out.trans m);have ae:=xQ (ad.out.ext m);have s:=xQ (r.out.ext m);have ax:=xQ (aw.out.ext m);have bw:=xQ (bD bv m);clear ar ad r aw bv;have ak:=xQ (show Blk w3 (w2.heap.size) TH3 #[aA,aB,.slice (some ⟨g,0,none⟩) xs.length c2] by have:=(Blk.new w2 TH3 #[aA,aB,.slice (some ⟨g,0,none⟩) xs.length c2]).ext an;simpa using this);clear m a5;have a6:w.heap.size<w3.heap.size:=ae.out.lt;clear bb;have bc:w.heap.size+1<w3.heap.size:=s.out.lt;clear bl;have bm:w.heap.size+1+1<w3.heap.size:=ax.out.lt;have bg:w2.heap.size<w3.heap.size:=ak.out.lt;clear an;go_wp2;refine rL (gl [gEq (.pointer (some ⟨w2.heap.size,2,none⟩)),gEq (.slice (some ⟨g,0,none⟩) xs.length c2),gEq (.pointer (some ⟨w.heap.size+1,1,none⟩)),gEq (j:Int),gEq (.pointer (some ⟨w.heap.size,2,none⟩)),gEq (.slice (some ⟨b,a,none⟩) xs.length cap),gEq (.pointer (some ⟨w.heap.size+1,0,none⟩)),gEq (i:Int),gEq (.pointer (some ⟨b,a+i,none⟩)),gEq x,gEq (.pointer (some ⟨g,j,none⟩))]) 11 12 [(0,some 18),(1,some 19),(2,some 20),(3,some 21),(4,some 22),(5,some 23),(6,some 24),(7,some 25),(8,some 26),(9,some 27),(10,some 28)] ?steps ?fin
 case steps=>
  refine sS0 [] ?_;refine sC [(0,some 18)] rfl (fun wi hx=> ?_) ?_
  ·intro v0 h0 K hK;obtain rfl:=h0;have B:=ak.out.ext hx.of_drew;have ca:=B.cl 2;go_simp;exact hK _ _ ⟨.slice (some ⟨g,0,none⟩) xs.length c2,rfl,rfl,Ext.refl _⟩
  refine sS0 [] ?_;refine sC [(2,some 20)] rfl (fun wi hx=> ?_) ?_
  ·intro v2 h2 K hK;obtain rfl:=h2;have B:=s.out.ext hx.of_drew;have cj:=B.cl 1;go_simp;exact hK _ _ ⟨.int .i64 (j:Int),rfl,rfl,Ext.refl _⟩
  refine sS0 [] ?_;refine sC [(4,some 22)] rfl (fun wi hx=> ?_) ?_
  ·intro v4 h4 K hK;obtain rfl:=h4;have B:=ae.out.ext hx.of_drew;have ca:=B.cl 2;go_simp;exact hK _ _ ⟨.slice (some ⟨b,a,none⟩) xs.length cap,rfl,rfl,Ext.refl _⟩
  refine sS0 [] ?_;refine sC [(6,some 24)] rfl (fun wi hx=> ?_) ?_
  ·intro v6 h6 K hK;obtain rfl:=h6;have B:=s.out.ext hx.of_drew;have ci:=B.cl 0;go_simp;exact hK _ _ ⟨.int .i64 (i:Int),rfl,rfl,Ext.refl _⟩
  refine sS2 [(5,some 23),(7,some 25)] ?_;refine sC [(8,some 26)] rfl (fun wi hx=> ?_) ?_
  ·intro v8 h8 K hK;obtain rfl:=h8;have cx:wi.cell? ⟨b,a+i,none⟩=some (.int .i64 x):=(Ext.cells (au.out.trans hx.of_drew)).1 _ _ hb |>.trans b4.out;go_simp;exact hK _ _ ⟨.int .i64 x,rfl,rfl,Ext.refl _⟩
  exact sS2 [(1,some 19),(3,some 21)] StepsL.nil
 case fin=>
  intro wi hx v0 h0 v1 h1 v2 h2 v3 h3 v4 h4 v5 h5 v6 h6 v7 h7 v8 h8 v9 h9 cp cb;obtain rfl:=h0;obtain rfl:=h1;obtain rfl:=h2;obtain rfl:=h3;obtain rfl:=h4;obtain rfl:=h5;obtain rfl:=h6;obtain rfl:=h7;obtain rfl:=h8;obtain rfl:=h9;obtain rfl:=cb;have d:=hx.of_drew;have z4:w3.heap.size+0≤wi.heap.size:=by have:=hx.sz;(try simp at this);omega
  have bz:=xQ (au.out.trans d);have af:=xQ (ae.out.ext d);have ai:=xQ (s.out.ext d);have am:=xQ (ax.out.ext d);have n:=xQ (bD bw d);have al:=xQ (ak.out.ext d);clear au ae s ax bw ak d a6;have a7:w.heap.size<wi.heap.size:=af.out.lt;clear bc;have bd:w.heap.size+1<wi.heap.size:=ai.out.lt;clear bm;have bn:w.heap.size+1+1<wi.heap.size:=am.out.lt;clear bg;have bh:w2.heap.size<wi.heap.size:=al.out.lt;clear hx;have gj:wi.cell? ⟨g,j,none⟩=some (.int .i64 yj):=by have:=n.out.cellAt j (by omega);rw[this];simpa[ivs]using HY.out
  have gf:wi.frozen? ⟨g,j,none⟩=false:=n.out.frozenAt j;refine wpAny_ready (rs:= [11]) (by kernel_rfl) (by simp) ?_;refine AllReady.cons rfl (fun K hK=> ?_) AllReady.nil;go_simp;refine hK _ _ ?_;clear hK K gj gf;have y5:=(n.out.stored (j) (.int .i64 x)).1;have h:ExtR (g) wi _:=(n.out.stored (j) (.int .i64 x)).2;have bq:(World.setCell wi ⟨g,j,none⟩ (.int .i64 x)).heap.size=wi.heap.size:=by simp
  generalize cc:World.setCell _ _ _=w5 at*;clear cc;have z5:wi.heap.size≤w5.heap.size:=Nat.le_of_eq bq.symm;have cq:w5.heap.size≤wi.heap.size:=Nat.le_of_eq bq;clear bq;have b0:=xQ (ExtR.new bz h (by omega));have ag:=xQ (show Blk w5 (w.heap.size) _ _ from(h.block _ af.out.lt (by first|(simp;done)|(simp;omega))).trans af.out);have f:=xQ (show Blk w5 (w.heap.size+1) _ _ from(h.block _ ai.out.lt (by first|(simp;done)|(simp;omega))).trans ai.out);have y:=xQ (show Blk w5 (w.heap.size+1+1) _ _ from(h.block _ am.out.lt (by first|(simp;done)|(simp;omega))).trans am.out);have o:=xQ (y5);have t:=xQ (show Blk w5 (w2.heap.size) _ _ from(h.block _ al.out.lt (by first|(simp;done)|(simp;omega))).trans al.out);clear bz af ai am n al h y5 a7;have a8:w.heap.size<w5.heap.size:=ag.out.lt;clear bd;have be:w.heap.size+1<w5.heap.size:=f.out.lt;clear bn;have bo:w.heap.size+1+1<w5.heap.size:=y.out.lt;clear bh;have bi:w2.heap.size<w5.heap.size:=t.out.lt;refine wpAny_done (by kernel_rfl) ?_ _;obtain⟨v0,v1,v2⟩:=t.out.tri;have s0:=f.out.cl 0;have s1:=f.out.cl 1;obtain⟨z0,bs,z1,bt,z2,bu⟩:=y.out.trif;have gi:w5.cell? ⟨g,i,none⟩=some (.int .i64 x):=by have:=o.out.cellAt i (by omega);rw[this,List.getElem?_set_ne (by omega)];simpa[ivs]using HX.out
  have gf:w5.frozen? ⟨g,i,none⟩=false:=o.out.frozenAt i;go_upto_region 8 with fail;clear gi gf v0 v1 v2 s0 s1 z0 bs z1 bt z2 bu;have y6:=(o.out.stored (i) (.int .i64 0)).1;have k:ExtR (g) w5 _:=(o.out.stored (i) (.int .i64 0)).2;have br:(World.setCell w5 ⟨g,i,none⟩ (.int .i64 0)).heap.size=w5.heap.size:=by simp
  generalize cd:World.setCell _ _ _=w6 at*;clear cd;have z6:w5.heap.size≤w6.heap.size:=Nat.le_of_eq br.symm;have cr:w6.heap.size≤w5.heap.size:=Nat.le_of_eq br;clear br;have b1:=xQ (ExtR.new b0 k (by omega));have ah:=xQ (show Blk w6 (w.heap.size) _ _ from(k.block _ ag.out.lt (by first|(simp;done)|(simp;omega))).trans ag.out);have aj:=xQ (show Blk w6 (w.heap.size+1) _ _ from(k.block _ f.out.lt (by first|(simp;done)|(simp;omega))).trans f.out);have z:=xQ (show Blk w6 (w.heap.size+1+1) _ _ from(k.block _ y.out.lt (by first|(simp;done)|(simp;omega))).trans y.out);have ao:=xQ (y6);have u:=xQ (show Blk w6 (w2.heap.size) _ _ from(k.block _ t.out.lt (by first|(simp;done)|(simp;omega))).trans t.out);clear b0 ag f y o t k y6 a8;have a9:w.heap.size<w6.heap.size:=ah.out.lt;clear be;have bf:w.heap.size+1<w6.heap.size:=aj.out.lt;clear bo;have bp:w.heap.size+1+1<w6.heap.size:=z.out.lt;clear bi;have bj:w2.heap.size<w6.heap.size:=u.out.lt;obtain⟨v0,v1,v2⟩:=u.out.tri;obtain⟨z0,bs,z1,bt,z2,bu⟩:=z.out.trif;go_wp2;have y7:=((z.out.set 0 (.int .i64 aA)).set 1 (.int .i64 aB)).set 2 (.slice (some ⟨g,0,none⟩) xs.length c2);simp only[List.setIfInBounds_toArray,List.set_cons_zero,List.set_cons_succ]at y7;generalize ay:World.setCell _ _ _=w7;rw[ay]at y7;have c:ExtR (w.heap.size+1+1) w6 w7:=by rw[←ay];exact(((ExtR.refl (w.heap.size+1+1) w6).setCell (p:=⟨w.heap.size+1+1,0,none⟩) (.inl rfl) (.int .i64 aA)).setCell (p:=⟨w.heap.size+1+1,1,none⟩) (.inl rfl) (.int .i64 aB)).setCell (p:=⟨w.heap.size+1+1,2,none⟩) (.inl rfl) (.slice (some ⟨g,0,none⟩) xs.length c2)
  clear ay;have z7:w6.heap.size≤w7.heap.size:=c.sz;have b9:=xQ (ExtR.new b1 c (by omega));have b5:=xQ (show Blk w7 (w.heap.size) _ _ from(c.block _ ah.out.lt (by first|(simp;done)|(simp;omega))).trans ah.out);have b7:=xQ (show Blk w7 (w.heap.size+1) _ _ from(c.block _ aj.out.lt (by first|(simp;done)|(simp;omega))).trans aj.out);have b2:=xQ (y7);have b6:=xQ (ao.out.kept c (.inr (dD ao z.out (by decide))));have b8:=xQ (show Blk w7 (w2.heap.size) _ _ from(c.block _ u.out.lt (by first|(simp;done)|(simp;omega))).trans u.out);clear b1 ah aj z ao u c y7 a9;have ce:w.heap.size<w7.heap.size:=b5.out.lt;clear bf;have cf:w.heap.size+1<w7.heap.size:=b7.out.lt;clear bp;have ch:w.heap.size+1+1<w7.heap.size:=b2.out.lt;clear bj;have cg:w2.heap.size<w7.heap.size:=b8.out.lt;clear v0 v1 v2 z0 bs z1 bt z2 bu;obtain⟨y0,y1,y2⟩:=b2.out.tri;exact bodyPost_ret (v:= .tuple #[.agg #[aA,aB,.slice (some ⟨g,0,none⟩) xs.length c2],.bool true]) (by simp[results,Tryz.results88,go_sem, *]) rfl (dR (by simp) (bK (by rw[←dN,←dN];exact b6.out) (by omega)) b9.out)
def bC (aA aB:Int)(xs:List Int)(f t:Int):List Int:=if aZ aA aB xs f t then(xs.set t.toNat (xs.getD f.toNat 0)).set f.toNat 0 else xs
theorem cS (aA aB:Int)(xs:List Int)(f t:Int):(bC aA aB xs f t).length=xs.length:=by unfold bC;split<;>simp
theorem kW {aA aB:Int}{xs:List Int}{f t:Int}(h:aZ aA aB xs f t=true):aN aA aB xs=true∧0≤f∧f<xs.length∧0≤t∧t<xs.length∧aX aA f t=1∧0<xs.getD f.toNat 0∧xs.getD t.toNat 0=0∧f≠t:=by unfold aZ at h;simp only[Bool.and_eq_true,decide_eq_true_eq]at h;obtain⟨⟨h1,h2⟩,h3⟩:=h;obtain⟨k1,k2,k3,k4,k5,k6⟩:=jE h1;exact⟨k1,k2,k3,k4,k5,k6,h2,h3,fun e=>by subst e;omega⟩
theorem lF (aA aB f t:Int)(p:OA)(n cap:Nat)(xs:List Int)(w:World)(hS:Sl w p n cap 1 (ivs xs))(a:aN aA aB xs=true):
  Calls Tryz.prog 88 #[aH aA aB p n cap,dQ f t] w (cN aA aB (bC aA aB xs f t) (aZ aA aB xs f t) w):=by
 have hl:=hS.ilen;subst hl;obtain⟨g1,g2,g3,g4,g5,g6,g7,g8,g9⟩:=bQ a;have HV:=fun(w':World) (hx:Ext w w')=>gZ aA aB p xs.length cap xs w' (hS.ext hx)
 rw[a]at HV;have HC:=fun(w':World) (hx:Ext w w')=>fG aA aB p xs.length cap xs w' (by omega) (hS.ext hx)
 have HM:=fun(w':World) (hx:Ext w w')=>aIp aA aB f t p xs.length cap xs w' (hS.ext hx)
 unfold bC;cases h:aZ aA aB xs f t with
 |false=>rw[h]at HM;exact aGn aA aB p cap f t xs w g5 g6 HV HC HM
 |true=>
  rw[h]at HM;obtain⟨k1,k2,k3,k4,k5,k6,k7,k8,k9⟩:=kW h;have ef:((f.toNat:Nat):Int)=f:=by omega
  have et:((t.toNat:Nat):Int)=t:=by omega
  have hx:xs[f.toNat]? =some (xs.getD f.toNat 0):=by rw[List.getD_eq_getElem?_getD,List.getElem?_eq_getElem (by omega)];rfl
  have hy:xs[t.toNat]? =some (xs.getD t.toNat 0):=by rw[List.getD_eq_getElem?_getD,List.getElem?_eq_getElem (by omega)];rfl
  obtain⟨b,d,x,rfl,c,hb,hc⟩:=hS.int_at (k:=f.toNat) (by omega);obtain rfl:x=xs.getD f.toNat 0:=by rw[hx]at c;injection c with e;exact e.symm
  have:=aDj aA aB cap f.toNat t.toNat b d _ _ xs w g5 g6 (by omega) (by omega) (by omega) hx hy hb hc HV HC (by rw[ef,et];exact HM);rw[ef,et]at this;rw[if_pos rfl];exact this
end Go.Proofs.YtpelpnfhbepokaaGreatDoor
