/-
  Texts of this proof, packed (@packed).
-/
import Derived.Test.YtpelpnfhbepokaaGreatDoorV8
namespace Go.Proofs.YtpelpnfhbepokaaGreatDoor
open Go.RowKit
set_option linter.unusedVariables false
set_option linter.unusedSimpArgs false
set_option maxHeartbeats 8000000
set_option maxRecDepth 100000
abbrev TSL:TypeId:=89
abbrev dQ (f t:Int):Value:= .agg #[f,t]
def bB (aA aB:Int)(xs:List Int)(f t:Int):Bool:=decide (dE aA aB xs f t=1)&&decide (0<xs.getD f.toNat 0)&&decide (xs.getD t.toNat 0=0)
theorem iT {aA aB:Int}{xs:List Int}{a b:Int}(h:dE aA aB xs a b=1):aM aA aB xs=true∧0≤a∧a<xs.length∧0≤b∧b<xs.length∧aW aA a b=1:=by
 unfold dE at h;split at h
 ·rename_i hh;exact⟨hh.1,hh.2.1.1,hh.2.1.2,hh.2.2.1,hh.2.2.2,h⟩
 omega
theorem Blk.cells2 {w:World}{g:Nat}{t:TypeId}{a b:Value}(h:Blk w g t #[a,b]):w.cell? ⟨g,0,none⟩=some a∧w.cell? ⟨g,1,none⟩=some b:=⟨h.cell 0,h.cell 1⟩
theorem aEz (aA aB f t:Int)(p:OA)(n a:Nat)(A:Int)(w:World)(hA:(A==1)=false)
  (HC:xC 183 #[aH aA aB p n a,f,t] w fun w' e w''=>e= .returned (.int .i64 A)∧Ext w' w''):
  Calls Tryz.prog 139 #[aH aA aB p n a,dQ f t] w fun e w'=>e= .returned (.bool false)∧Ext w w':=by
 go_enter Tryz.func139,Tryz.ntmps139;go_wp2_with fail;refine(HC _ (by exact .alloc (.alloc (.refl _) _) _)).mono ?_;rintro e w1 ⟨rfl,b⟩;have B1:=xQ (show Blk w1 w.heap.size TH3 #[aA,aB,.slice p n a]from((Blk.new w TH3 #[aA,aB,.slice p n a]).alloc _).ext b);have S1:=xQ (show Blk w1 (w.heap.size+1) TSL #[f,t] by have:=(Blk.new (w.alloc (.cells #[aA,aB,.slice p n a] TH3)) TSL #[f,t]).ext b;simpa using this);have X1:Ext w w1:=by exact .trans (.alloc (.alloc (.refl _) _) _) b
 have z1:w.heap.size+1<w1.heap.size:=S1.out.lt;clear b;obtain⟨c0,c1,c2⟩:=B1.out.cells3;obtain⟨s0,s1⟩:=S1.out.cells2;go_wp2;go_ret;exact⟨rfl,by exact X1⟩
theorem aH2 (aA aB:Int)(p:OA)(n c:Nat)(i j:Nat)(x y:Int)(xs:List Int)(w:World)(hn:n≤12)(hi:i<n)(hj:j<n)(HX:Hid (xs[i]? =some x)) (HY:Hid (xs[j]? =some y)) (HS:Hid (Sl w p n c 1 (ivs xs)))
  (HC:xC 183 #[aH aA aB p n c,(i:Int),(j:Int)] w fun w' e w''=>e= .returned (.int .i64 1)∧Ext w' w''):
  Calls Tryz.prog 139 #[aH aA aB p n c,dQ (i:Int) (j:Int)] w fun e w'=>e= .returned (.bool (decide (0<x)&&decide (y=0)))∧Ext w w':=by
 obtain⟨b,f,x',l,hx,hb,o⟩:=HS.out.int_at hi;obtain⟨b2,r,y',g,hy,_,q⟩:=HS.out.int_at hj;rw[l]at g;injection g with g;injection g with e1 e2;subst e1 e2;have k:=xQ l;clear l;obtain rfl:x=x':=by have:=HX.out.symm.trans hx;injection this
 obtain rfl:y=y':=by have:=HY.out.symm.trans hy;injection this
 clear hx hy;have a1:(0:Int)≤(i:Int):=by omega
 have a2:(0:Int)≤(j:Int):=by omega
 have a3:(i:Int)<(n:Int):=by omega
 have a4:(j:Int)<(n:Int):=by omega
 have h:=xQ o;have m:=xQ q;clear o q;by_cases h0:0<x
 ·have d0:decide (0<x)=true:=by simp[h0]
  by_cases h1:y=0
  ·have d1:(y==0)=true:=by simp[h1]
   have d:Hid ((decide (0<x)&&decide (y=0))=true):=by show _=_;simp[h0,h1]
   clear h1;go_enter Tryz.func139,Tryz.ntmps139;go_wp2_with fail;refine(HC _ (by exact .alloc (.alloc (.refl _) _) _)).mono ?_;rintro e w1 ⟨rfl,a⟩;have B1:=xQ (show Blk w1 w.heap.size TH3 #[aA,aB,.slice p n c]from((Blk.new w TH3 #[aA,aB,.slice p n c]).alloc _).ext a);have S1:=xQ (show Blk w1 (w.heap.size+1) TSL #[(i:Int),(j:Int)] by have:=(Blk.new (w.alloc (.cells #[aA,aB,.slice p n c] TH3)) TSL #[(i:Int),(j:Int)]).ext a;simpa using this);have X1:Ext w w1:=by exact .trans (.alloc (.alloc (.refl _) _) _) a
   have z1:w.heap.size+1<w1.heap.size:=S1.out.lt;clear a;obtain⟨c0,c1,c2⟩:=B1.out.cells3;rw[k.out]at c2;obtain⟨s0,s1⟩:=S1.out.cells2;have g1:w1.cell? ⟨b,f+i,none⟩=some (iv x):=(X1.cells.1 _ _ hb).trans h.out;have g2:w1.cell? ⟨b,f+j,none⟩=some (iv y):=(X1.cells.1 _ _ hb).trans m.out;go_wp2;go_ret;exact⟨aR d.out.symm,by exact X1⟩
  have d1:(y==0)=false:=by simp[h1]
  have d:Hid ((decide (0<x)&&decide (y=0))=false):=by show _=_;simp[h1]
  clear h1;go_enter Tryz.func139,Tryz.ntmps139;go_wp2_with fail;refine(HC _ (by exact .alloc (.alloc (.refl _) _) _)).mono ?_;rintro e w1 ⟨rfl,a⟩;have B1:=xQ (show Blk w1 w.heap.size TH3 #[aA,aB,.slice p n c]from((Blk.new w TH3 #[aA,aB,.slice p n c]).alloc _).ext a);have S1:=xQ (show Blk w1 (w.heap.size+1) TSL #[(i:Int),(j:Int)] by have:=(Blk.new (w.alloc (.cells #[aA,aB,.slice p n c] TH3)) TSL #[(i:Int),(j:Int)]).ext a;simpa using this);have X1:Ext w w1:=by exact .trans (.alloc (.alloc (.refl _) _) _) a
  have z1:w.heap.size+1<w1.heap.size:=S1.out.lt;clear a;obtain⟨c0,c1,c2⟩:=B1.out.cells3;rw[k.out]at c2;obtain⟨s0,s1⟩:=S1.out.cells2;have g1:w1.cell? ⟨b,f+i,none⟩=some (iv x):=(X1.cells.1 _ _ hb).trans h.out;have g2:w1.cell? ⟨b,f+j,none⟩=some (iv y):=(X1.cells.1 _ _ hb).trans m.out;go_wp2;go_ret;exact⟨aR d.out.symm,by exact X1⟩
 have d0:decide (0<x)=false:=by simp[h0]
 have d:Hid ((decide (0<x)&&decide (y=0))=false):=by show _=_;simp[h0]
 go_enter Tryz.func139,Tryz.ntmps139;go_wp2_with fail;refine(HC _ (by exact .alloc (.alloc (.refl _) _) _)).mono ?_;rintro e w1 ⟨rfl,a⟩;have B1:=xQ (show Blk w1 w.heap.size TH3 #[aA,aB,.slice p n c]from((Blk.new w TH3 #[aA,aB,.slice p n c]).alloc _).ext a);have S1:=xQ (show Blk w1 (w.heap.size+1) TSL #[(i:Int),(j:Int)] by have:=(Blk.new (w.alloc (.cells #[aA,aB,.slice p n c] TH3)) TSL #[(i:Int),(j:Int)]).ext a;simpa using this);have X1:Ext w w1:=by exact .trans (.alloc (.alloc (.refl _) _) _) a
 have z1:w.heap.size+1<w1.heap.size:=S1.out.lt;clear a;obtain⟨c0,c1,c2⟩:=B1.out.cells3;rw[k.out]at c2;obtain⟨s0,s1⟩:=S1.out.cells2;have g1:w1.cell? ⟨b,f+i,none⟩=some (iv x):=(X1.cells.1 _ _ hb).trans h.out;go_wp2;go_ret;exact⟨aR d.out.symm,by exact X1⟩
theorem aBn (aA aB f t:Int)(p:OA)(n a:Nat)(xs:List Int)(w:World)(hS:Sl w p n a 1 (ivs xs)):
  Calls Tryz.prog 139 #[aH aA aB p n a,dQ f t] w fun e w'=>e= .returned (.bool (bB aA aB xs f t))∧Ext w w':=by
 have hl:=hS.ilen;have HC:=fun(w':World) (hx:Ext w w')=>xX aA aB f t p n a xs w' (hS.ext hx)
 unfold bB;by_cases h:dE aA aB xs f t=1
 ·obtain⟨k1,k2,k3,k4,k5,k6⟩:=iT h;obtain⟨g1,g2,g3,g4,g5,g6,g7,g8,g9⟩:=bM k1;rw[h]at HC;have hx:xs[f.toNat]? =some (xs.getD f.toNat 0):=by rw[List.getD_eq_getElem?_getD,List.getElem?_eq_getElem (by omega)];rfl
  have hy:xs[t.toNat]? =some (xs.getD t.toNat 0):=by rw[List.getD_eq_getElem?_getD,List.getElem?_eq_getElem (by omega)];rfl
  have ef:((f.toNat:Nat):Int)=f:=by omega
  have et:((t.toNat:Nat):Int)=t:=by omega
  have:=aH2 aA aB p n a f.toNat t.toNat _ _ xs w (by omega) (by omega) (by omega) hx hy hS (by rw[ef,et];exact HC);rw[ef,et]at this;rw[decide_eq_true h,Bool.true_and];exact this
 have:=aEz aA aB f t p n a _ w (by simpa using h) HC;rw[decide_eq_false h,Bool.false_and,Bool.false_and];exact this
def cO (aA aB:Int)(xs:List Int)(b:Bool)(w:World)(e:Ending)(w':World):Prop:=
 ∃p cap,e= .returned (.tuple #[aH aA aB p xs.length cap,.bool b])∧w'.ownsRow w.heap.size TI 1 (.slice p xs.length cap) xs.length (ivs xs)∧Ext w w'
theorem dZ {aA aB:Int}{p:OA}{n a:Nat}{xs:List Int}{b:Bool}{w w':World}(hn:xs.length=n)(ho:w'.ownsRow w.heap.size TI 1 (.slice p n a) n (ivs xs))(hx:Ext w w'):cO aA aB xs b w (.returned (.tuple #[aH aA aB p n a,.bool b])) w':=by subst hn;exact⟨p,a,rfl,ho,hx⟩
theorem eM {w:World}{B n sz:Nat}{e:TypeId}{q:OA}{a:Nat}{xs:List Value}(ho:w.ownsRow B e sz (.slice q n a) n xs)(h:0<n): ∃g,q=some ⟨g,0,none⟩∧B≤g∧g<w.heap.size:=by
 rcases ho.2 with⟨h1,h2⟩|⟨g',cap',cur,h1,hb',hg,r⟩
 ·omega
 injection h1 with e1;exact⟨g',e1,hb',(Array.getElem?_eq_some_iff.1 hg).1⟩
theorem dR (xs:List Int)(k:Nat)(x:Int):(ivs xs).set k (iv x)=ivs (xs.set k x):=by simp[ivs,List.map_set]
theorem aF0 (aA aB:Int)(p:OA)(a:Nat)(i j:Int)(xs:List Int)(w:World)(a9:4≤xs.length)(hn:xs.length≤12)
  (HV:xB 41 #[aH aA aB p xs.length a] w true)
  (HC:Hid (∀w',Ext w w'→Calls Tryz.prog 81 #[aH aA aB p xs.length a] w' (cY aA aB xs w')))
  (HM:xB 139 #[aH aA aB p xs.length a,dQ i j] w false):
  Calls Tryz.prog 88 #[aH aA aB p xs.length a,dQ i j] w (cO aA aB xs false w):=by
 go_enter Tryz.func88,Tryz.ntmps88;have ap:=xQ (Ext.refl w);go_wp2_with fail;refine(HV _ (by exact .alloc (.alloc (.alloc (.refl _) _) _) _)).mono ?_;rintro e w1 ⟨rfl,c⟩;have au:Ext w w1:=((((Ext.refl _).alloc _).alloc _).alloc _).trans c;have z1:w.heap.size+3≤w1.heap.size:=by have:=c.sz;(try simp at this);omega
 have x:=xQ (ap.out.trans au);clear ap;have m:=xQ (show Blk w1 (w.heap.size) TH3 #[aA,aB,.slice p xs.length a] by have:=(((Blk.new w TH3 #[aA,aB,.slice p xs.length a]).alloc _).alloc _).ext c;simpa using this);have u:=xQ (show Blk w1 (w.heap.size+1) TSL #[i,j] by have:=((Blk.new (w.alloc (.cells #[aA,aB,.slice p xs.length a] TH3)) TSL #[i,j]).alloc _).ext c;simpa using this);have z:=xQ (show Blk w1 (w.heap.size+1+1) TH3 #[(),(),((),())] by have:=(Blk.new ((w.alloc (.cells #[aA,aB,.slice p xs.length a] TH3)).alloc (.cells #[i,j] TSL)) TH3 #[(),(),((),())]).ext c;simpa using this);clear au;have ae:w.heap.size<w1.heap.size:=m.out.lt;have ah:w.heap.size+1<w1.heap.size:=u.out.lt;have al:w.heap.size+1+1<w1.heap.size:=z.out.lt;clear c;obtain⟨c0,c1,c2⟩:=m.out.tri;go_wp2_with fail;clear c0 c1 c2;refine(HC _ x.out).mono ?_;rintro e w2 ⟨q,c2,rfl,ho,ad⟩;have l:Ext w1 w2:=by exact ad
 have z2:w1.heap.size+0≤w2.heap.size:=by have:=ad.sz;(try simp at this);omega
 have y:=xQ (x.out.trans l);have n:=xQ (m.out.ext l);have f:=xQ (u.out.ext l);have aa:=xQ (z.out.ext l);clear x m u z l ae;have af:w.heap.size<w2.heap.size:=n.out.lt;clear ah;have ai:w.heap.size+1<w2.heap.size:=f.out.lt;clear al;have am:w.heap.size+1+1<w2.heap.size:=aa.out.lt;obtain⟨g,rfl,a7,a8⟩:=eM ho (by omega);have ao:=xQ (ho);clear ad ho;obtain⟨c0,c1,c2⟩:=n.out.tri;have s0:=f.out.cl 0;have s1:=f.out.cl 1;go_wp2_with fail;clear c0 c1 c2 s0 s1;refine(HM _ (y.out.alloc _)).mono ?_;rintro e w3 ⟨rfl,s⟩;have d:Ext w2 w3:=((Ext.refl _).alloc _).trans s;have z3:w2.heap.size+1≤w3.heap.size:=by have:=s.sz;(try simp at this);omega
 have aq:=xQ (y.out.trans d);have o:=xQ (n.out.ext d);have r:=xQ (f.out.ext d);have k:=xQ (aa.out.ext d);have t:=xQ (bG ao d);clear y n f aa ao;have h:=xQ (show Blk w3 (w2.heap.size) TH3 #[aA,aB,.slice (some ⟨g,0,none⟩) xs.length c2] by have:=(Blk.new w2 TH3 #[aA,aB,.slice (some ⟨g,0,none⟩) xs.length c2]).ext s;simpa using this);clear d af;have ag:w.heap.size<w3.heap.size:=o.out.lt;clear ai;have aj:w.heap.size+1<w3.heap.size:=r.out.lt;clear am;have an:w.heap.size+1+1<w3.heap.size:=k.out.lt;have ak:w2.heap.size<w3.heap.size:=h.out.lt;clear s;obtain⟨v0,v1,v2⟩:=h.out.tri;obtain⟨z0,a4,z1,a5,z2,a6⟩:=k.out.trif;go_wp2;have y4:=((k.out.set 0 (.int .i64 aA)).set 1 (.int .i64 aB)).set 2 (.slice (some ⟨g,0,none⟩) xs.length c2);simp only[List.setIfInBounds_toArray,List.set_cons_zero,List.set_cons_succ]at y4;generalize ab:World.setCell _ _ _=w4;rw[ab]at y4;have b:ExtR (w.heap.size+1+1) w3 w4:=by rw[←ab];exact(((ExtR.refl (w.heap.size+1+1) w3).setCell (p:=⟨w.heap.size+1+1,0,none⟩) (.inl rfl) (.int .i64 aA)).setCell (p:=⟨w.heap.size+1+1,1,none⟩) (.inl rfl) (.int .i64 aB)).setCell (p:=⟨w.heap.size+1+1,2,none⟩) (.inl rfl) (.slice (some ⟨g,0,none⟩) xs.length c2)
 clear ab;have z4:w3.heap.size≤w4.heap.size:=b.sz;have az:=xQ (ExtR.new aq b (by omega));have av:=xQ (show Blk w4 (w.heap.size) _ _ from(b.block _ o.out.lt (by first|(simp;done)|(simp;omega))).trans o.out);have ax:=xQ (show Blk w4 (w.heap.size+1) _ _ from(b.block _ r.out.lt (by first|(simp;done)|(simp;omega))).trans r.out);have ar:=xQ (y4);have aw:=xQ (t.out.kept b (.inr (dF t k.out (by decide))));have ay:=xQ (show Blk w4 (w2.heap.size) _ _ from(b.block _ h.out.lt (by first|(simp;done)|(simp;omega))).trans h.out);clear aq o r k t h b y4 ag;have a0:w.heap.size<w4.heap.size:=av.out.lt;clear aj;have a1:w.heap.size+1<w4.heap.size:=ax.out.lt;clear an;have a3:w.heap.size+1+1<w4.heap.size:=ar.out.lt;clear ak;have a2:w2.heap.size<w4.heap.size:=ay.out.lt;clear v0 v1 v2 z0 a4 z1 a5 z2 a6;obtain⟨y0,y1,y2⟩:=ar.out.tri;exact bodyPost_ret (v:= .tuple #[.agg #[aA,aB,.slice (some ⟨g,0,none⟩) xs.length c2],.bool false]) (by simp[results,Tryz.results88,go_sem, *]) rfl (dZ (by simp) (bE (by exact aw.out) (by omega)) az.out)
theorem aBo (aA aB:Int)(c i j b a:Nat)(x yj:Int)(xs:List Int)(w:World)(cp:4≤xs.length)(hn:xs.length≤12)(hi:i<xs.length)(hj:j<xs.length)(co:i≠j)(HX:Hid (xs[i]? =some x)) (HY:Hid (xs[j]? =some yj))
  (hb:b<w.heap.size) (b5:Hid (w.cell? ⟨b,a+i,none⟩=some (.int .i64 x)))
  (HV:xB 41 #[aH aA aB (some ⟨b,a,none⟩) xs.length c] w true)
  (HC:Hid (∀w',Ext w w'→Calls Tryz.prog 81 #[aH aA aB (some ⟨b,a,none⟩) xs.length c] w' (cY aA aB xs w')))
  (HM:xB 139 #[aH aA aB (some ⟨b,a,none⟩) xs.length c,dQ (i:Int) (j:Int)] w true):
  Calls Tryz.prog 88 #[aH aA aB (some ⟨b,a,none⟩) xs.length c,dQ (i:Int) (j:Int)] w (cO aA aB ((xs.set j x).set i 0) true w):=by
 have a1:(0:Int)≤(i:Int):=by omega
 have a2:(0:Int)≤(j:Int):=by omega
 have a3:(i:Int)<(xs.length:Int):=by omega
 have a4:(j:Int)<(xs.length:Int):=by omega
 go_enter Tryz.func88,Tryz.ntmps88;have bz:=xQ (Ext.refl w);go_wp2_with fail;refine(HV _ (by exact .alloc (.alloc (.alloc (.refl _) _) _) _)).mono ?_;rintro e w1 ⟨rfl,m⟩;have b4:Ext w w1:=((((Ext.refl _).alloc _).alloc _).alloc _).trans m;have z1:w.heap.size+3≤w1.heap.size:=by have:=m.sz;(try simp at this);omega
 have ar:=xQ (bz.out.trans b4);clear bz;have ad:=xQ (show Blk w1 (w.heap.size) TH3 #[aA,aB,.slice (some ⟨b,a,none⟩) xs.length c] by have:=(((Blk.new w TH3 #[aA,aB,.slice (some ⟨b,a,none⟩) xs.length c]).alloc _).alloc _).ext m;simpa using this);have aq:=xQ (show Blk w1 (w.heap.size+1) TSL #[(i:Int),(j:Int)] by have:=((Blk.new (w.alloc (.cells #[aA,aB,.slice (some ⟨b,a,none⟩) xs.length c] TH3)) TSL #[(i:Int),(j:Int)]).alloc _).ext m;simpa using this);have aw:=xQ (show Blk w1 (w.heap.size+1+1) TH3 #[(),(),((),())] by have:=(Blk.new ((w.alloc (.cells #[aA,aB,.slice (some ⟨b,a,none⟩) xs.length c] TH3)).alloc (.cells #[(i:Int),(j:Int)] TSL)) TH3 #[(),(),((),())]).ext m;simpa using this);clear b4;have a5:w.heap.size<w1.heap.size:=ad.out.lt;have bb:w.heap.size+1<w1.heap.size:=aq.out.lt;have bl:w.heap.size+1+1<w1.heap.size:=aw.out.lt;clear m;obtain⟨c0,c1,c2⟩:=ad.out.tri;go_wp2_with fail;clear c0 c1 c2;refine(HC _ ar.out).mono ?_;rintro e w2 ⟨q,c2,rfl,ho,a0⟩;have ab:Ext w1 w2:=by exact a0
 have z2:w1.heap.size+0≤w2.heap.size:=by have:=a0.sz;(try simp at this);omega
 have au:=xQ (ar.out.trans ab);have ae:=xQ (ad.out.ext ab);have s:=xQ (aq.out.ext ab);have ax:=xQ (aw.out.ext ab);clear ar ad aq aw ab a5;have a6:w.heap.size<w2.heap.size:=ae.out.lt;clear bb;have bc:w.heap.size+1<w2.heap.size:=s.out.lt;clear bl;have bm:w.heap.size+1+1<w2.heap.size:=ax.out.lt;obtain⟨g,rfl,cm,cn⟩:=eM ho (by omega);have bw:=xQ (ho);clear a0 ho;obtain⟨c0,c1,c2⟩:=ae.out.tri;have s0:=s.out.cl 0;have s1:=s.out.cl 1;go_wp2_with fail;clear c0 c1 c2 s0 s1;refine(HM _ (au.out.alloc _)).mono ?_;rintro e w3 ⟨rfl,ao⟩;have n:Ext w2 w3:=((Ext.refl _).alloc _).trans ao;have z3:w2.heap.size+1≤w3.heap.size:=by have:=ao.sz;(try simp at this);omega
 have av:=xQ (au.out.trans n);have af:=xQ (ae.out.ext n);have t:=xQ (s.out.ext n);have ay:=xQ (ax.out.ext n);have bx:=xQ (bG bw n);clear au ae s ax bw;have al:=xQ (show Blk w3 (w2.heap.size) TH3 #[aA,aB,.slice (some ⟨g,0,none⟩) xs.length c2] by have:=(Blk.new w2 TH3 #[aA,aB,.slice (some ⟨g,0,none⟩) xs.length c2]).ext ao;simpa using this);clear n a6;have a7:w.heap.size<w3.heap.size:=af.out.lt;clear bc;have bd:w.heap.size+1<w3.heap.size:=t.out.lt;clear bm;have bn:w.heap.size+1+1<w3.heap.size:=ay.out.lt;have bh:w2.heap.size<w3.heap.size:=al.out.lt;clear ao;go_wp2;refine rL (gl [gEq (.pointer (some ⟨w2.heap.size,2,none⟩)),gEq (.slice (some ⟨g,0,none⟩) xs.length c2),gEq (.pointer (some ⟨w.heap.size+1,1,none⟩)),gEq (j:Int),gEq (.pointer (some ⟨w.heap.size,2,none⟩)),gEq (.slice (some ⟨b,a,none⟩) xs.length c),gEq (.pointer (some ⟨w.heap.size+1,0,none⟩)),gEq (i:Int),gEq (.pointer (some ⟨b,a+i,none⟩)),gEq x,gEq (.pointer (some ⟨g,j,none⟩))]) 11 12 [(0,some 18),(1,some 19),(2,some 20),(3,some 21),(4,some 22),(5,some 23),(6,some 24),(7,some 25),(8,some 26),(9,some 27),(10,some 28)] ?steps ?fin
 case steps=>
  refine sS0 [] ?_;refine sC [(0,some 18)] rfl (fun wi hx=> ?_) ?_
  ·intro v0 h0 K hK;obtain rfl:=h0;have B:=al.out.ext hx.of_drew;have cb:=B.cl 2;go_simp;exact hK _ _ ⟨.slice (some ⟨g,0,none⟩) xs.length c2,rfl,rfl,Ext.refl _⟩
  refine sS0 [] ?_;refine sC [(2,some 20)] rfl (fun wi hx=> ?_) ?_
  ·intro v2 h2 K hK;obtain rfl:=h2;have B:=t.out.ext hx.of_drew;have ck:=B.cl 1;go_simp;exact hK _ _ ⟨.int .i64 (j:Int),rfl,rfl,Ext.refl _⟩
  refine sS0 [] ?_;refine sC [(4,some 22)] rfl (fun wi hx=> ?_) ?_
  ·intro v4 h4 K hK;obtain rfl:=h4;have B:=af.out.ext hx.of_drew;have cb:=B.cl 2;go_simp;exact hK _ _ ⟨.slice (some ⟨b,a,none⟩) xs.length c,rfl,rfl,Ext.refl _⟩
  refine sS0 [] ?_;refine sC [(6,some 24)] rfl (fun wi hx=> ?_) ?_
  ·intro v6 h6 K hK;obtain rfl:=h6;have B:=t.out.ext hx.of_drew;have cj:=B.cl 0;go_simp;exact hK _ _ ⟨.int .i64 (i:Int),rfl,rfl,Ext.refl _⟩
  refine sS2 [(5,some 23),(7,some 25)] ?_;refine sC [(8,some 26)] rfl (fun wi hx=> ?_) ?_
  ·intro v8 h8 K hK;obtain rfl:=h8;have cx:wi.cell? ⟨b,a+i,none⟩=some (.int .i64 x):=(Ext.cells (av.out.trans hx.of_drew)).1 _ _ hb |>.trans b5.out;go_simp;exact hK _ _ ⟨.int .i64 x,rfl,rfl,Ext.refl _⟩
  exact sS2 [(1,some 19),(3,some 21)] StepsL.nil
 case fin=>
  intro wi hx v0 h0 v1 h1 v2 h2 v3 h3 v4 h4 v5 h5 v6 h6 v7 h7 v8 h8 v9 h9 cq cc;obtain rfl:=h0;obtain rfl:=h1;obtain rfl:=h2;obtain rfl:=h3;obtain rfl:=h4;obtain rfl:=h5;obtain rfl:=h6;obtain rfl:=h7;obtain rfl:=h8;obtain rfl:=h9;obtain rfl:=cc;have f:=hx.of_drew;have z4:w3.heap.size+0≤wi.heap.size:=by have:=hx.sz;(try simp at this);omega
  have b0:=xQ (av.out.trans f);have ag:=xQ (af.out.ext f);have aj:=xQ (t.out.ext f);have an:=xQ (ay.out.ext f);have o:=xQ (bG bx f);have am:=xQ (al.out.ext f);clear av af t ay bx al f a7;have a8:w.heap.size<wi.heap.size:=ag.out.lt;clear bd;have be:w.heap.size+1<wi.heap.size:=aj.out.lt;clear bn;have bo:w.heap.size+1+1<wi.heap.size:=an.out.lt;clear bh;have bi:w2.heap.size<wi.heap.size:=am.out.lt;clear hx;have gj:wi.cell? ⟨g,j,none⟩=some (.int .i64 yj):=by have:=o.out.cellAt j (by omega);rw[this];simpa[ivs]using HY.out
  have gf:wi.frozen? ⟨g,j,none⟩=false:=o.out.frozenAt j;refine wpAny_ready (rs:= [11]) (by kernel_rfl) (by simp) ?_;refine AllReady.cons rfl (fun K hK=> ?_) AllReady.nil;go_simp;refine hK _ _ ?_;clear hK K gj gf;have y5:=(o.out.stored (j) (.int .i64 x)).1;have k:ExtR (g) wi _:=(o.out.stored (j) (.int .i64 x)).2;have br:(World.setCell wi ⟨g,j,none⟩ (.int .i64 x)).heap.size=wi.heap.size:=by simp
  generalize cd:World.setCell _ _ _=w5 at*;clear cd;have z5:wi.heap.size≤w5.heap.size:=Nat.le_of_eq br.symm;have cr:w5.heap.size≤wi.heap.size:=Nat.le_of_eq br;clear br;have b1:=xQ (ExtR.new b0 k (by omega));have ah:=xQ (show Blk w5 (w.heap.size) _ _ from(k.block _ ag.out.lt (by first|(simp;done)|(simp;omega))).trans ag.out);have h:=xQ (show Blk w5 (w.heap.size+1) _ _ from(k.block _ aj.out.lt (by first|(simp;done)|(simp;omega))).trans aj.out);have z:=xQ (show Blk w5 (w.heap.size+1+1) _ _ from(k.block _ an.out.lt (by first|(simp;done)|(simp;omega))).trans an.out);have r:=xQ (y5);have u:=xQ (show Blk w5 (w2.heap.size) _ _ from(k.block _ am.out.lt (by first|(simp;done)|(simp;omega))).trans am.out);clear b0 ag aj an o am k y5 a8;have a9:w.heap.size<w5.heap.size:=ah.out.lt;clear be;have bf:w.heap.size+1<w5.heap.size:=h.out.lt;clear bo;have bp:w.heap.size+1+1<w5.heap.size:=z.out.lt;clear bi;have bj:w2.heap.size<w5.heap.size:=u.out.lt;refine wpAny_done (by kernel_rfl) ?_ _;obtain⟨v0,v1,v2⟩:=u.out.tri;have s0:=h.out.cl 0;have s1:=h.out.cl 1;obtain⟨z0,bt,z1,bu,z2,bv⟩:=z.out.trif;have gi:w5.cell? ⟨g,i,none⟩=some (.int .i64 x):=by have:=r.out.cellAt i (by omega);rw[this,List.getElem?_set_ne (by omega)];simpa[ivs]using HX.out
  have gf:w5.frozen? ⟨g,i,none⟩=false:=r.out.frozenAt i;go_upto_region 8 with fail;clear gi gf v0 v1 v2 s0 s1 z0 bt z1 bu z2 bv;have y6:=(r.out.stored (i) (.int .i64 0)).1;have l:ExtR (g) w5 _:=(r.out.stored (i) (.int .i64 0)).2;have bs:(World.setCell w5 ⟨g,i,none⟩ (.int .i64 0)).heap.size=w5.heap.size:=by simp
  generalize ce:World.setCell _ _ _=w6 at*;clear ce;have z6:w5.heap.size≤w6.heap.size:=Nat.le_of_eq bs.symm;have cs:w6.heap.size≤w5.heap.size:=Nat.le_of_eq bs;clear bs;have b2:=xQ (ExtR.new b1 l (by omega));have ai:=xQ (show Blk w6 (w.heap.size) _ _ from(l.block _ ah.out.lt (by first|(simp;done)|(simp;omega))).trans ah.out);have ak:=xQ (show Blk w6 (w.heap.size+1) _ _ from(l.block _ h.out.lt (by first|(simp;done)|(simp;omega))).trans h.out);have aa:=xQ (show Blk w6 (w.heap.size+1+1) _ _ from(l.block _ z.out.lt (by first|(simp;done)|(simp;omega))).trans z.out);have ap:=xQ (y6);have y:=xQ (show Blk w6 (w2.heap.size) _ _ from(l.block _ u.out.lt (by first|(simp;done)|(simp;omega))).trans u.out);clear b1 ah h z r u l y6 a9;have ba:w.heap.size<w6.heap.size:=ai.out.lt;clear bf;have bg:w.heap.size+1<w6.heap.size:=ak.out.lt;clear bp;have bq:w.heap.size+1+1<w6.heap.size:=aa.out.lt;clear bj;have bk:w2.heap.size<w6.heap.size:=y.out.lt;obtain⟨v0,v1,v2⟩:=y.out.tri;obtain⟨z0,bt,z1,bu,z2,bv⟩:=aa.out.trif;go_wp2;have y7:=((aa.out.set 0 (.int .i64 aA)).set 1 (.int .i64 aB)).set 2 (.slice (some ⟨g,0,none⟩) xs.length c2);simp only[List.setIfInBounds_toArray,List.set_cons_zero,List.set_cons_succ]at y7;generalize az:World.setCell _ _ _=w7;rw[az]at y7;have d:ExtR (w.heap.size+1+1) w6 w7:=by rw[←az];exact(((ExtR.refl (w.heap.size+1+1) w6).setCell (p:=⟨w.heap.size+1+1,0,none⟩) (.inl rfl) (.int .i64 aA)).setCell (p:=⟨w.heap.size+1+1,1,none⟩) (.inl rfl) (.int .i64 aB)).setCell (p:=⟨w.heap.size+1+1,2,none⟩) (.inl rfl) (.slice (some ⟨g,0,none⟩) xs.length c2)
  clear az;have z7:w6.heap.size≤w7.heap.size:=d.sz;have ca:=xQ (ExtR.new b2 d (by omega));have b6:=xQ (show Blk w7 (w.heap.size) _ _ from(d.block _ ai.out.lt (by first|(simp;done)|(simp;omega))).trans ai.out);have b8:=xQ (show Blk w7 (w.heap.size+1) _ _ from(d.block _ ak.out.lt (by first|(simp;done)|(simp;omega))).trans ak.out);have b3:=xQ (y7);have b7:=xQ (ap.out.kept d (.inr (dF ap aa.out (by decide))));have b9:=xQ (show Blk w7 (w2.heap.size) _ _ from(d.block _ y.out.lt (by first|(simp;done)|(simp;omega))).trans y.out);clear b2 ai ak aa ap y d y7 ba;have cf:w.heap.size<w7.heap.size:=b6.out.lt;clear bg;have cg:w.heap.size+1<w7.heap.size:=b8.out.lt;clear bq;have ci:w.heap.size+1+1<w7.heap.size:=b3.out.lt;clear bk;have ch:w2.heap.size<w7.heap.size:=b9.out.lt;clear v0 v1 v2 z0 bt z1 bu z2 bv;obtain⟨y0,y1,y2⟩:=b3.out.tri;exact bodyPost_ret (v:= .tuple #[.agg #[aA,aB,.slice (some ⟨g,0,none⟩) xs.length c2],.bool true]) (by simp[results,Tryz.results88,go_sem, *]) rfl (dZ (by simp) (bE (by rw[←dR,←dR];exact b7.out) (by omega)) ca.out)
def bH (aA aB:Int)(xs:List Int)(f t:Int):List Int:=if bB aA aB xs f t then(xs.set t.toNat (xs.getD f.toNat 0)).set f.toNat 0 else xs
theorem cT (aA aB:Int)(xs:List Int)(f t:Int):(bH aA aB xs f t).length=xs.length:=by unfold bH;split<;>simp
theorem kK {aA aB:Int}{xs:List Int}{f t:Int}(h:bB aA aB xs f t=true):aM aA aB xs=true∧0≤f∧f<xs.length∧0≤t∧t<xs.length∧aW aA f t=1∧0<xs.getD f.toNat 0∧xs.getD t.toNat 0=0∧f≠t:=by unfold bB at h;simp only[Bool.and_eq_true,decide_eq_true_eq]at h;obtain⟨⟨h1,h2⟩,h3⟩:=h;obtain⟨k1,k2,k3,k4,k5,k6⟩:=iT h1;exact⟨k1,k2,k3,k4,k5,k6,h2,h3,fun e=>by subst e;omega⟩
theorem kX (aA aB f t:Int)(p:OA)(n a:Nat)(xs:List Int)(w:World)(hS:Sl w p n a 1 (ivs xs))(c:aM aA aB xs=true):
  Calls Tryz.prog 88 #[aH aA aB p n a,dQ f t] w (cO aA aB (bH aA aB xs f t) (bB aA aB xs f t) w):=by
 have hl:=hS.ilen;subst hl;obtain⟨g1,g2,g3,g4,g5,g6,g7,g8,g9⟩:=bM c;have HV:=fun(w':World) (hx:Ext w w')=>fV aA aB p xs.length a xs w' (hS.ext hx)
 rw[c]at HV;have HC:=fun(w':World) (hx:Ext w w')=>fG aA aB p xs.length a xs w' (by omega) (hS.ext hx)
 have HM:=fun(w':World) (hx:Ext w w')=>aBn aA aB f t p xs.length a xs w' (hS.ext hx)
 unfold bH;cases h:bB aA aB xs f t with
 |false=>rw[h]at HM;exact aF0 aA aB p a f t xs w g5 g6 HV HC HM
 |true=>
  rw[h]at HM;obtain⟨k1,k2,k3,k4,k5,k6,k7,k8,k9⟩:=kK h;have ef:((f.toNat:Nat):Int)=f:=by omega
  have et:((t.toNat:Nat):Int)=t:=by omega
  have hx:xs[f.toNat]? =some (xs.getD f.toNat 0):=by rw[List.getD_eq_getElem?_getD,List.getElem?_eq_getElem (by omega)];rfl
  have hy:xs[t.toNat]? =some (xs.getD t.toNat 0):=by rw[List.getD_eq_getElem?_getD,List.getElem?_eq_getElem (by omega)];rfl
  obtain⟨b,g,x,rfl,d,hb,hc⟩:=hS.int_at (k:=f.toNat) (by omega);obtain rfl:x=xs.getD f.toNat 0:=by rw[hx]at d;injection d with e;exact e.symm
  have:=aBo aA aB a f.toNat t.toNat b g _ _ xs w g5 g6 (by omega) (by omega) (by omega) hx hy hb hc HV HC (by rw[ef,et];exact HM);rw[ef,et]at this;rw[if_pos rfl];exact this
end Go.Proofs.YtpelpnfhbepokaaGreatDoor
