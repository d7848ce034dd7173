/-
  Texts of this proof, packed (@packed).
-/
import Derived.Test.YtgnkoffndhmhpaaGreatDoorP8
namespace Go.Proofs.YtgnkoffndhmhpaaGreatDoor
open Go.RowKit
set_option linter.unusedVariables false
set_option linter.unusedSimpArgs false
set_option maxHeartbeats 8000000
set_option maxRecDepth 100000
abbrev TSL:TypeId:=100
abbrev dS (f t:Int):Value:= .agg #[f,t]
def bA (aA aB:Int)(xs:List Int)(f t:Int):Bool:=decide (dF aA aB xs f t=1)&&decide (0<xs.getD f.toNat 0)&&decide (xs.getD t.toNat 0=0)
theorem iW {aA aB:Int}{xs:List Int}{a b:Int}(h:dF aA aB xs a b=1):aN aA aB xs=true∧0≤a∧a<xs.length∧0≤b∧b<xs.length∧aW aA a b=1:=by
 unfold dF at h
 split at h
 ·rename_i hh;exact⟨hh.1,hh.2.1.1,hh.2.1.2,hh.2.2.1,hh.2.2.2,h⟩
 ·omega
theorem Blk.cells2 {w:World}{g:Nat}{t:TypeId}{a b:Value}(h:Blk w g t #[a,b]):w.cell? ⟨g,0,none⟩=some a∧w.cell? ⟨g,1,none⟩=some b:=⟨h.cell 0,h.cell 1⟩
theorem aFb (aA aB f t:Int)(p:OA)(n cap:Nat)(A:Int)(w:World)(hA:(A==1)=false)
  (HC:xC 159 #[aH aA aB p n cap,f,t] w fun w' e w''=>e= .returned (.int .i64 A)∧Ext w' w''):
  Calls Tryz.prog 127 #[aH aA aB p n cap,dS f t] w fun e w'=>e= .returned (.bool false)∧Ext w w':=by
 go_enter Tryz.func127,Tryz.ntmps127
 go_wp2_with fail
 refine(HC _ (by exact .alloc (.alloc (.refl _) _) _)).mono ?_
 rintro e w1 ⟨rfl,a⟩
 have B1:=xQ (show Blk w1 w.heap.size TH3 #[aA,aB,.slice p n cap]from((Blk.new w TH3 #[aA,aB,.slice p n cap]).alloc _).ext a)
 have S1:=xQ (show Blk w1 (w.heap.size+1) TSL #[f,t] by have:=(Blk.new (w.alloc (.cells #[aA,aB,.slice p n cap] TH3)) TSL #[f,t]).ext a;simpa using this)
 have X1:Ext w w1:=by exact .trans (.alloc (.alloc (.refl _) _) _) a
 have z1:w.heap.size+1<w1.heap.size:=S1.out.lt
 clear a
 obtain⟨c0,c1,c2⟩:=B1.out.cells3
 obtain⟨s0,s1⟩:=S1.out.cells2
 go_wp2
 go_ret
 exact⟨rfl,by exact X1⟩
theorem aHc (aA aB:Int)(p:OA)(n cap:Nat)(i j:Nat)(x y:Int)(xs:List Int)(w:World)(hn:n≤12)(hi:i<n)(hj:j<n)(HX:Hid (xs[i]? =some x)) (HY:Hid (xs[j]? =some y)) (HS:Hid (Sl w p n cap 1 (ivs xs)))
  (HC:xC 159 #[aH aA aB p n cap,(i:Int),(j:Int)] w fun w' e w''=>e= .returned (.int .i64 1)∧Ext w' w''):
  Calls Tryz.prog 127 #[aH aA aB p n cap,dS (i:Int) (j:Int)] w fun e w'=>e= .returned (.bool (decide (0<x)&&decide (y=0)))∧Ext w w':=by
 obtain⟨b,d,x',g,hx,hb,o⟩:=HS.out.int_at hi
 obtain⟨b2,q,y',f,hy,_,l⟩:=HS.out.int_at hj
 rw[g]at f
 injection f with f
 injection f with e1 e2
 subst e1 e2
 have k:=xQ g
 clear g
 obtain rfl:x=x':=by have:=HX.out.symm.trans hx;injection this
 obtain rfl:y=y':=by have:=HY.out.symm.trans hy;injection this
 clear hx hy
 have a1:(0:Int)≤(i:Int):=by omega
 have a2:(0:Int)≤(j:Int):=by omega
 have a3:(i:Int)<(n:Int):=by omega
 have a4:(j:Int)<(n:Int):=by omega
 have h:=xQ o
 have m:=xQ l
 clear o l
 by_cases h0:0<x
 ·have d0:decide (0<x)=true:=by simp[h0]
  by_cases h1:y=0
  ·have d1:(y==0)=true:=by simp[h1]
   have c:Hid ((decide (0<x)&&decide (y=0))=true):=by show _=_;simp[h0,h1]
   clear h1
   go_enter Tryz.func127,Tryz.ntmps127
   go_wp2_with fail
   refine(HC _ (by exact .alloc (.alloc (.refl _) _) _)).mono ?_
   rintro e w1 ⟨rfl,a⟩
   have B1:=xQ (show Blk w1 w.heap.size TH3 #[aA,aB,.slice p n cap]from((Blk.new w TH3 #[aA,aB,.slice p n cap]).alloc _).ext a)
   have S1:=xQ (show Blk w1 (w.heap.size+1) TSL #[(i:Int),(j:Int)] by have:=(Blk.new (w.alloc (.cells #[aA,aB,.slice p n cap] TH3)) TSL #[(i:Int),(j:Int)]).ext a;simpa using this)
   have X1:Ext w w1:=by exact .trans (.alloc (.alloc (.refl _) _) _) a
   have z1:w.heap.size+1<w1.heap.size:=S1.out.lt
   clear a
   obtain⟨c0,c1,c2⟩:=B1.out.cells3
   rw[k.out]at c2
   obtain⟨s0,s1⟩:=S1.out.cells2
   have g1:w1.cell? ⟨b,d+i,none⟩=some (iv x):=(X1.cells.1 _ _ hb).trans h.out
   have g2:w1.cell? ⟨b,d+j,none⟩=some (iv y):=(X1.cells.1 _ _ hb).trans m.out
   go_wp2
   go_ret
   exact⟨aU c.out.symm,by exact X1⟩
  ·have d1:(y==0)=false:=by simp[h1]
   have c:Hid ((decide (0<x)&&decide (y=0))=false):=by show _=_;simp[h1]
   clear h1
   go_enter Tryz.func127,Tryz.ntmps127
   go_wp2_with fail
   refine(HC _ (by exact .alloc (.alloc (.refl _) _) _)).mono ?_
   rintro e w1 ⟨rfl,a⟩
   have B1:=xQ (show Blk w1 w.heap.size TH3 #[aA,aB,.slice p n cap]from((Blk.new w TH3 #[aA,aB,.slice p n cap]).alloc _).ext a)
   have S1:=xQ (show Blk w1 (w.heap.size+1) TSL #[(i:Int),(j:Int)] by have:=(Blk.new (w.alloc (.cells #[aA,aB,.slice p n cap] TH3)) TSL #[(i:Int),(j:Int)]).ext a;simpa using this)
   have X1:Ext w w1:=by exact .trans (.alloc (.alloc (.refl _) _) _) a
   have z1:w.heap.size+1<w1.heap.size:=S1.out.lt
   clear a
   obtain⟨c0,c1,c2⟩:=B1.out.cells3
   rw[k.out]at c2
   obtain⟨s0,s1⟩:=S1.out.cells2
   have g1:w1.cell? ⟨b,d+i,none⟩=some (iv x):=(X1.cells.1 _ _ hb).trans h.out
   have g2:w1.cell? ⟨b,d+j,none⟩=some (iv y):=(X1.cells.1 _ _ hb).trans m.out
   go_wp2
   go_ret
   exact⟨aU c.out.symm,by exact X1⟩
 ·have d0:decide (0<x)=false:=by simp[h0]
  have c:Hid ((decide (0<x)&&decide (y=0))=false):=by show _=_;simp[h0]
  go_enter Tryz.func127,Tryz.ntmps127
  go_wp2_with fail
  refine(HC _ (by exact .alloc (.alloc (.refl _) _) _)).mono ?_
  rintro e w1 ⟨rfl,a⟩
  have B1:=xQ (show Blk w1 w.heap.size TH3 #[aA,aB,.slice p n cap]from((Blk.new w TH3 #[aA,aB,.slice p n cap]).alloc _).ext a)
  have S1:=xQ (show Blk w1 (w.heap.size+1) TSL #[(i:Int),(j:Int)] by have:=(Blk.new (w.alloc (.cells #[aA,aB,.slice p n cap] TH3)) TSL #[(i:Int),(j:Int)]).ext a;simpa using this)
  have X1:Ext w w1:=by exact .trans (.alloc (.alloc (.refl _) _) _) a
  have z1:w.heap.size+1<w1.heap.size:=S1.out.lt
  clear a
  obtain⟨c0,c1,c2⟩:=B1.out.cells3
  rw[k.out]at c2
  obtain⟨s0,s1⟩:=S1.out.cells2
  have g1:w1.cell? ⟨b,d+i,none⟩=some (iv x):=(X1.cells.1 _ _ hb).trans h.out
  go_wp2
  go_ret
  exact⟨aU c.out.symm,by exact X1⟩
theorem aC2 (aA aB f t:Int)(p:OA)(n cap:Nat)(xs:List Int)(w:World)(hS:Sl w p n cap 1 (ivs xs)):
  Calls Tryz.prog 127 #[aH aA aB p n cap,dS f t] w fun e w'=>e= .returned (.bool (bA aA aB xs f t))∧Ext w w':=by
 have hl:=hS.ilen
 have HC:=fun(w':World) (hx:Ext w w')=>xY aA aB f t p n cap xs w' (hS.ext hx)
 unfold bA
 by_cases h:dF aA aB xs f t=1
 ·obtain⟨k1,k2,k3,k4,k5,k6⟩:=iW h
  obtain⟨g1,g2,g3,g4,g5,g6,g7,g8,g9⟩:=bM k1
  rw[h]at HC
  have hx:xs[f.toNat]? =some (xs.getD f.toNat 0):=by rw[List.getD_eq_getElem?_getD,List.getElem?_eq_getElem (by omega)];rfl
  have hy:xs[t.toNat]? =some (xs.getD t.toNat 0):=by rw[List.getD_eq_getElem?_getD,List.getElem?_eq_getElem (by omega)];rfl
  have ef:((f.toNat:Nat):Int)=f:=by omega
  have et:((t.toNat:Nat):Int)=t:=by omega
  have:=aHc aA aB p n cap f.toNat t.toNat _ _ xs w (by omega) (by omega) (by omega) hx hy hS (by rw[ef,et];exact HC)
  rw[ef,et]at this
  rw[decide_eq_true h,Bool.true_and]
  exact this
 ·have:=aFb aA aB f t p n cap _ w (by simpa using h) HC
  rw[decide_eq_false h,Bool.false_and,Bool.false_and]
  exact this
def cQ (aA aB:Int)(xs:List Int)(b:Bool)(w:World)(e:Ending)(w':World):Prop:=
 ∃p cap,e= .returned (.tuple #[aH aA aB p xs.length cap,.bool b])∧w'.ownsRow w.heap.size TI 1 (.slice p xs.length cap) xs.length (ivs xs)∧Ext w w'
theorem eB {aA aB:Int}{p:OA}{n cap:Nat}{xs:List Int}{b:Bool}{w w':World}(hn:xs.length=n)(ho:w'.ownsRow w.heap.size TI 1 (.slice p n cap) n (ivs xs))(hx:Ext w w'):cQ aA aB xs b w (.returned (.tuple #[aH aA aB p n cap,.bool b])) w':=by
 subst hn;exact⟨p,cap,rfl,ho,hx⟩
theorem eL {w:World}{B n sz:Nat}{e:TypeId}{q:OA}{cap:Nat}{xs:List Value}(ho:w.ownsRow B e sz (.slice q n cap) n xs)(h:0<n): ∃g,q=some ⟨g,0,none⟩∧B≤g∧g<w.heap.size:=by
 rcases ho.2 with⟨h1,h2⟩|⟨g',cap',cur,h1,hb',hg,r⟩
 ·omega
 ·injection h1 with e1;exact⟨g',e1,hb',(Array.getElem?_eq_some_iff.1 hg).1⟩
theorem dV (xs:List Int)(k:Nat)(x:Int):(ivs xs).set k (iv x)=ivs (xs.set k x):=by simp[ivs,List.map_set]
theorem aFc (aA aB:Int)(p:OA)(cap:Nat)(i j:Int)(xs:List Int)(w:World)(hn0:4≤xs.length)(hn:xs.length≤12)
  (HV:xB 90 #[aH aA aB p xs.length cap] w true)
  (HC:Hid (∀w',Ext w w'→Calls Tryz.prog 104 #[aH aA aB p xs.length cap] w' (cZ aA aB xs w')))
  (HM:xB 127 #[aH aA aB p xs.length cap,dS i j] w false):
  Calls Tryz.prog 78 #[aH aA aB p xs.length cap,dS i j] w (cQ aA aB xs false w):=by
 go_enter Tryz.func78,Tryz.ntmps78
 have ao:=xQ (Ext.refl w)
 go_wp2_with fail
 refine(HV _ (by exact .alloc (.alloc (.alloc (.refl _) _) _) _)).mono ?_
 rintro e w1 ⟨rfl,c⟩
 have ar:Ext w w1:=((((Ext.refl _).alloc _).alloc _).alloc _).trans c
 have z1:w.heap.size+3≤w1.heap.size:=by have:=c.sz;(try simp at this);omega
 have ad:=xQ (ao.out.trans ar)
 clear ao
 have m:=xQ (show Blk w1 (w.heap.size) TH3 #[aA,aB,.slice p xs.length cap] by have:=(((Blk.new w TH3 #[aA,aB,.slice p xs.length cap]).alloc _).alloc _).ext c;simpa using this)
 have al:=xQ (show Blk w1 (w.heap.size+1) TSL #[i,j] by have:=((Blk.new (w.alloc (.cells #[aA,aB,.slice p xs.length cap] TH3)) TSL #[i,j]).alloc _).ext c;simpa using this)
 have ai:=xQ (show Blk w1 (w.heap.size+1+1) TH3 #[(),(),((),())] by have:=(Blk.new ((w.alloc (.cells #[aA,aB,.slice p xs.length cap] TH3)).alloc (.cells #[i,j] TSL)) TH3 #[(),(),((),())]).ext c;simpa using this)
 clear ar
 have s:w.heap.size<w1.heap.size:=m.out.lt
 have ak:w.heap.size+1<w1.heap.size:=al.out.lt
 have ae:w.heap.size+1+1<w1.heap.size:=ai.out.lt
 clear c
 obtain⟨c0,c1,c2⟩:=m.out.tri
 go_wp2_with fail
 clear c0 c1 c2
 refine(HC _ ad.out).mono ?_
 rintro e w2 ⟨q,c2,rfl,ho,x⟩
 have d:Ext w1 w2:=by exact x
 have z2:w1.heap.size+0≤w2.heap.size:=by have:=x.sz;(try simp at this);omega
 have am:=xQ (ad.out.trans d)
 have r:=xQ (m.out.ext d)
 have k:=xQ (al.out.ext d)
 have aj:=xQ (ai.out.ext d)
 clear ad m al ai d s
 have af:w.heap.size<w2.heap.size:=r.out.lt
 clear ak
 have aa:w.heap.size+1<w2.heap.size:=k.out.lt
 clear ae
 have ah:w.heap.size+1+1<w2.heap.size:=aj.out.lt
 obtain⟨g,rfl,a6,a7⟩:=eL ho (by omega)
 have ap:=xQ (ho)
 clear x ho
 obtain⟨c0,c1,c2⟩:=r.out.tri
 have s0:=k.out.cl 0
 have s1:=k.out.cl 1
 go_wp2_with fail
 clear c0 c1 c2 s0 s1
 refine(HM _ (am.out.alloc _)).mono ?_
 rintro e w3 ⟨rfl,o⟩
 have b:Ext w2 w3:=((Ext.refl _).alloc _).trans o
 have z3:w2.heap.size+1≤w3.heap.size:=by have:=o.sz;(try simp at this);omega
 have aq:=xQ (am.out.trans b)
 have l:=xQ (r.out.ext b)
 have n:=xQ (k.out.ext b)
 have f:=xQ (aj.out.ext b)
 have u:=xQ (bC ap b)
 clear am r k aj ap
 have h:=xQ (show Blk w3 (w2.heap.size) TH3 #[aA,aB,.slice (some ⟨g,0,none⟩) xs.length c2] by have:=(Blk.new w2 TH3 #[aA,aB,.slice (some ⟨g,0,none⟩) xs.length c2]).ext o;simpa using this)
 clear b af
 have ag:w.heap.size<w3.heap.size:=l.out.lt
 clear aa
 have y:w.heap.size+1<w3.heap.size:=n.out.lt
 clear ah
 have ab:w.heap.size+1+1<w3.heap.size:=f.out.lt
 have t:w2.heap.size<w3.heap.size:=h.out.lt
 clear o
 obtain⟨v0,v1,v2⟩:=h.out.tri
 obtain⟨z0,a2,z1,aw,z2,a5⟩:=f.out.trif
 go_wp2
 have y4:=((f.out.set 0 (.int .i64 aA)).set 1 (.int .i64 aB)).set 2 (.slice (some ⟨g,0,none⟩) xs.length c2)
 simp only[List.setIfInBounds_toArray,List.set_cons_zero,List.set_cons_succ]at y4
 generalize z:World.setCell _ _ _=w4
 rw[z]at y4
 have a:ExtR (w.heap.size+1+1) w3 w4:=by rw[←z];exact(((ExtR.refl (w.heap.size+1+1) w3).setCell (p:=⟨w.heap.size+1+1,0,none⟩) (.inl rfl) (.int .i64 aA)).setCell (p:=⟨w.heap.size+1+1,1,none⟩) (.inl rfl) (.int .i64 aB)).setCell (p:=⟨w.heap.size+1+1,2,none⟩) (.inl rfl) (.slice (some ⟨g,0,none⟩) xs.length c2)
 clear z
 have z4:w3.heap.size≤w4.heap.size:=a.sz
 have ay:=xQ (ExtR.new aq a (by omega))
 have a1:=xQ (show Blk w4 (w.heap.size) _ _ from(a.block _ l.out.lt (by first|(simp;done)|(simp;omega))).trans l.out)
 have a0:=xQ (show Blk w4 (w.heap.size+1) _ _ from(a.block _ n.out.lt (by first|(simp;done)|(simp;omega))).trans n.out)
 have an:=xQ (y4)
 have a3:=xQ (u.out.kept a (.inr (dG u f.out (by decide))))
 have a4:=xQ (show Blk w4 (w2.heap.size) _ _ from(a.block _ h.out.lt (by first|(simp;done)|(simp;omega))).trans h.out)
 clear aq l n f u h a y4 ag
 have az:w.heap.size<w4.heap.size:=a1.out.lt
 clear y
 have ax:w.heap.size+1<w4.heap.size:=a0.out.lt
 clear ab
 have av:w.heap.size+1+1<w4.heap.size:=an.out.lt
 clear t
 have au:w2.heap.size<w4.heap.size:=a4.out.lt
 clear v0 v1 v2 z0 a2 z1 aw z2 a5
 obtain⟨y0,y1,y2⟩:=an.out.tri
 exact bodyPost_ret (v:= .tuple #[.agg #[aA,aB,.slice (some ⟨g,0,none⟩) xs.length c2],.bool false]) (by simp[results,Tryz.results78,go_sem, *]) rfl (eB (by simp) (bH (by exact a3.out) (by omega)) ay.out)
theorem aC3 (aA aB:Int)(cap i j b off:Nat)(x yj:Int)(xs:List Int)(w:World)(hn0:4≤xs.length)(hn:xs.length≤12)(hi:i<xs.length)(hj:j<xs.length)(hij:i≠j)(HX:Hid (xs[i]? =some x)) (HY:Hid (xs[j]? =some yj))
  (hb:b<w.heap.size) (HCX:Hid (w.cell? ⟨b,off+i,none⟩=some (.int .i64 x)))
  (HV:xB 90 #[aH aA aB (some ⟨b,off,none⟩) xs.length cap] w true)
  (HC:Hid (∀w',Ext w w'→Calls Tryz.prog 104 #[aH aA aB (some ⟨b,off,none⟩) xs.length cap] w' (cZ aA aB xs w')))
  (HM:xB 127 #[aH aA aB (some ⟨b,off,none⟩) xs.length cap,dS (i:Int) (j:Int)] w true):
  Calls Tryz.prog 78 #[aH aA aB (some ⟨b,off,none⟩) xs.length cap,dS (i:Int) (j:Int)] w (cQ aA aB ((xs.set j x).set i 0) true w):=by
 have a1:(0:Int)≤(i:Int):=by omega
 have a2:(0:Int)≤(j:Int):=by omega
 have a3:(i:Int)<(xs.length:Int):=by omega
 have a4:(j:Int)<(xs.length:Int):=by omega
 go_enter Tryz.func78,Tryz.ntmps78
 have bw:=xQ (Ext.refl w)
 go_wp2_with fail
 refine(HV _ (by exact .alloc (.alloc (.alloc (.refl _) _) _) _)).mono ?_
 rintro e w1 ⟨rfl,h⟩
 have b1:Ext w w1:=((((Ext.refl _).alloc _).alloc _).alloc _).trans h
 have z1:w.heap.size+3≤w1.heap.size:=by have:=h.sz;(try simp at this);omega
 have bm:=xQ (bw.out.trans b1)
 clear bw
 have ad:=xQ (show Blk w1 (w.heap.size) TH3 #[aA,aB,.slice (some ⟨b,off,none⟩) xs.length cap] by have:=(((Blk.new w TH3 #[aA,aB,.slice (some ⟨b,off,none⟩) xs.length cap]).alloc _).alloc _).ext h;simpa using this)
 have ay:=xQ (show Blk w1 (w.heap.size+1) TSL #[(i:Int),(j:Int)] by have:=((Blk.new (w.alloc (.cells #[aA,aB,.slice (some ⟨b,off,none⟩) xs.length cap] TH3)) TSL #[(i:Int),(j:Int)]).alloc _).ext h;simpa using this)
 have ax:=xQ (show Blk w1 (w.heap.size+1+1) TH3 #[(),(),((),())] by have:=(Blk.new ((w.alloc (.cells #[aA,aB,.slice (some ⟨b,off,none⟩) xs.length cap] TH3)).alloc (.cells #[(i:Int),(j:Int)] TSL)) TH3 #[(),(),((),())]).ext h;simpa using this)
 clear b1
 have bj:w.heap.size<w1.heap.size:=ad.out.lt
 have bt:w.heap.size+1<w1.heap.size:=ay.out.lt
 have au:w.heap.size+1+1<w1.heap.size:=ax.out.lt
 clear h
 obtain⟨c0,c1,c2⟩:=ad.out.tri
 go_wp2_with fail
 clear c0 c1 c2
 refine(HC _ bm.out).mono ?_
 rintro e w2 ⟨q,c2,rfl,ho,ao⟩
 have m:Ext w1 w2:=by exact ao
 have z2:w1.heap.size+0≤w2.heap.size:=by have:=ao.sz;(try simp at this);omega
 have az:=xQ (bm.out.trans m)
 have al:=xQ (ad.out.ext m)
 have r:=xQ (ay.out.ext m)
 have bs:=xQ (ax.out.ext m)
 clear bm ad ay ax m bj
 have bb:w.heap.size<w2.heap.size:=al.out.lt
 clear bt
 have aq:w.heap.size+1<w2.heap.size:=r.out.lt
 clear au
 have bh:w.heap.size+1+1<w2.heap.size:=bs.out.lt
 obtain⟨g,rfl,cn,ck⟩:=eL ho (by omega)
 have bu:=xQ (ho)
 clear ao ho
 obtain⟨c0,c1,c2⟩:=al.out.tri
 have s0:=r.out.cl 0
 have s1:=r.out.cl 1
 go_wp2_with fail
 clear c0 c1 c2 s0 s1
 refine(HM _ (az.out.alloc _)).mono ?_
 rintro e w3 ⟨rfl,ae⟩
 have l:Ext w2 w3:=((Ext.refl _).alloc _).trans ae
 have z3:w2.heap.size+1≤w3.heap.size:=by have:=ae.sz;(try simp at this);omega
 have bl:=xQ (az.out.trans l)
 have ab:=xQ (al.out.ext l)
 have o:=xQ (r.out.ext l)
 have a0:=xQ (bs.out.ext l)
 have b2:=xQ (bC bu l)
 clear az al r bs bu
 have ah:=xQ (show Blk w3 (w2.heap.size) TH3 #[aA,aB,.slice (some ⟨g,0,none⟩) xs.length c2] by have:=(Blk.new w2 TH3 #[aA,aB,.slice (some ⟨g,0,none⟩) xs.length c2]).ext ae;simpa using this)
 clear l bb
 have bc:w.heap.size<w3.heap.size:=ab.out.lt
 clear aq
 have a6:w.heap.size+1<w3.heap.size:=o.out.lt
 clear bh
 have ar:w.heap.size+1+1<w3.heap.size:=a0.out.lt
 have bd:w2.heap.size<w3.heap.size:=ah.out.lt
 clear ae
 go_wp2
 refine rL (gl [gEq (.pointer (some ⟨w2.heap.size,2,none⟩)),gEq (.slice (some ⟨g,0,none⟩) xs.length c2),gEq (.pointer (some ⟨w.heap.size+1,1,none⟩)),gEq (j:Int),gEq (.pointer (some ⟨w.heap.size,2,none⟩)),gEq (.slice (some ⟨b,off,none⟩) xs.length cap),gEq (.pointer (some ⟨w.heap.size+1,0,none⟩)),gEq (i:Int),gEq (.pointer (some ⟨b,off+i,none⟩)),gEq x,gEq (.pointer (some ⟨g,j,none⟩))]) 11 12 [(0,some 18),(1,some 19),(2,some 20),(3,some 21),(4,some 22),(5,some 23),(6,some 24),(7,some 25),(8,some 26),(9,some 27),(10,some 28)] ?steps ?fin
 case steps=>
  refine sS0 [] ?_
  refine sC [(0,some 18)] rfl (fun wi hx=> ?_) ?_
  ·intro v0 h0 K hK
   obtain rfl:=h0
   have B:=ah.out.ext hx.of_drew
   have cc:=B.cl 2
   go_simp
   exact hK _ _ ⟨.slice (some ⟨g,0,none⟩) xs.length c2,rfl,rfl,Ext.refl _⟩
  refine sS0 [] ?_
  refine sC [(2,some 20)] rfl (fun wi hx=> ?_) ?_
  ·intro v2 h2 K hK
   obtain rfl:=h2
   have B:=o.out.ext hx.of_drew
   have ci:=B.cl 1
   go_simp
   exact hK _ _ ⟨.int .i64 (j:Int),rfl,rfl,Ext.refl _⟩
  refine sS0 [] ?_
  refine sC [(4,some 22)] rfl (fun wi hx=> ?_) ?_
  ·intro v4 h4 K hK
   obtain rfl:=h4
   have B:=ab.out.ext hx.of_drew
   have cc:=B.cl 2
   go_simp
   exact hK _ _ ⟨.slice (some ⟨b,off,none⟩) xs.length cap,rfl,rfl,Ext.refl _⟩
  refine sS0 [] ?_
  refine sC [(6,some 24)] rfl (fun wi hx=> ?_) ?_
  ·intro v6 h6 K hK
   obtain rfl:=h6
   have B:=o.out.ext hx.of_drew
   have cj:=B.cl 0
   go_simp
   exact hK _ _ ⟨.int .i64 (i:Int),rfl,rfl,Ext.refl _⟩
  refine sS2 [(5,some 23),(7,some 25)] ?_
  refine sC [(8,some 26)] rfl (fun wi hx=> ?_) ?_
  ·intro v8 h8 K hK
   obtain rfl:=h8
   have cx:wi.cell? ⟨b,off+i,none⟩=some (.int .i64 x):=(Ext.cells (bl.out.trans hx.of_drew)).1 _ _ hb |>.trans HCX.out
   go_simp
   exact hK _ _ ⟨.int .i64 x,rfl,rfl,Ext.refl _⟩
  exact sS2 [(1,some 19),(3,some 21)] StepsL.nil
 case fin=>
  intro wi hx v0 h0 v1 h1 v2 h2 v3 h3 v4 h4 v5 h5 v6 h6 v7 h7 v8 h8 v9 h9 cm cb
  obtain rfl:=h0
  obtain rfl:=h1
  obtain rfl:=h2
  obtain rfl:=h3
  obtain rfl:=h4
  obtain rfl:=h5
  obtain rfl:=h6
  obtain rfl:=h7
  obtain rfl:=h8
  obtain rfl:=h9
  obtain rfl:=cb
  have c:Ext w3 wi:=by exact .trans (.drew (.refl _)) hx
  have z4:w3.heap.size+0≤wi.heap.size:=by have:=hx.sz;(try simp at this);omega
  have b0:=xQ (bl.out.trans c)
  have ag:=xQ (ab.out.ext c)
  have af:=xQ (o.out.ext c)
  have ai:=xQ (a0.out.ext c)
  have y:=xQ (bC b2 c)
  have am:=xQ (ah.out.ext c)
  clear bl ab o a0 b2 ah c bc
  have bn:w.heap.size<wi.heap.size:=ag.out.lt
  clear a6
  have a8:w.heap.size+1<wi.heap.size:=af.out.lt
  clear ar
  have bk:w.heap.size+1+1<wi.heap.size:=ai.out.lt
  clear bd
  have a5:w2.heap.size<wi.heap.size:=am.out.lt
  clear hx
  have gj:wi.cell? ⟨g,j,none⟩=some (.int .i64 yj):=by have:=y.out.cellAt j (by omega);rw[this];simpa[ivs]using HY.out
  have gf:wi.frozen? ⟨g,j,none⟩=false:=y.out.frozenAt j
  refine wpAny_ready (rs:= [11]) (by kernel_rfl) (by simp) ?_
  refine AllReady.cons rfl (fun K hK=> ?_) AllReady.nil
  go_simp
  refine hK _ _ ?_
  clear hK K gj gf
  have y5:=(y.out.stored (j) (.int .i64 x)).1
  have f:ExtR (g) wi _:=(y.out.stored (j) (.int .i64 x)).2
  have ap:(World.setCell wi ⟨g,j,none⟩ (.int .i64 x)).heap.size=wi.heap.size:=by simp
  generalize b8:World.setCell _ _ _=w5 at*
  clear b8
  have z5:wi.heap.size≤w5.heap.size:=Nat.le_of_eq ap.symm
  have ch:w5.heap.size≤wi.heap.size:=Nat.le_of_eq ap
  clear ap
  have bv:=xQ (ExtR.new b0 f (by omega))
  have ak:=xQ (show Blk w5 (w.heap.size) _ _ from(f.block _ ag.out.lt (by first|(simp;done)|(simp;omega))).trans ag.out)
  have k:=xQ (show Blk w5 (w.heap.size+1) _ _ from(f.block _ af.out.lt (by first|(simp;done)|(simp;omega))).trans af.out)
  have n:=xQ (show Blk w5 (w.heap.size+1+1) _ _ from(f.block _ ai.out.lt (by first|(simp;done)|(simp;omega))).trans ai.out)
  have s:=xQ (y5)
  have t:=xQ (show Blk w5 (w2.heap.size) _ _ from(f.block _ am.out.lt (by first|(simp;done)|(simp;omega))).trans am.out)
  clear b0 ag af ai y am f y5 bn
  have bp:w.heap.size<w5.heap.size:=ak.out.lt
  clear a8
  have be:w.heap.size+1<w5.heap.size:=k.out.lt
  clear bk
  have a9:w.heap.size+1+1<w5.heap.size:=n.out.lt
  clear a5
  have bf:w2.heap.size<w5.heap.size:=t.out.lt
  refine wpAny_done (by kernel_rfl) ?_ _
  obtain⟨v0,v1,v2⟩:=t.out.tri
  have s0:=k.out.cl 0
  have s1:=k.out.cl 1
  obtain⟨z0,br,z1,a7,z2,bi⟩:=n.out.trif
  have gi:w5.cell? ⟨g,i,none⟩=some (.int .i64 x):=by have:=s.out.cellAt i (by omega);rw[this,List.getElem?_set_ne (by omega)];simpa[ivs]using HX.out
  have gf:w5.frozen? ⟨g,i,none⟩=false:=s.out.frozenAt i
  go_upto_region 8 with fail
  clear gi gf v0 v1 v2 s0 s1 z0 br z1 a7 z2 bi
  have y6:=(s.out.stored (i) (.int .i64 0)).1
  have d:ExtR (g) w5 _:=(s.out.stored (i) (.int .i64 0)).2
  have ba:(World.setCell w5 ⟨g,i,none⟩ (.int .i64 0)).heap.size=w5.heap.size:=by simp
  generalize b9:World.setCell _ _ _=w6 at*
  clear b9
  have z6:w5.heap.size≤w6.heap.size:=Nat.le_of_eq ba.symm
  have cg:w6.heap.size≤w5.heap.size:=Nat.le_of_eq ba
  clear ba
  have bz:=xQ (ExtR.new bv d (by omega))
  have aa:=xQ (show Blk w6 (w.heap.size) _ _ from(d.block _ ak.out.lt (by first|(simp;done)|(simp;omega))).trans ak.out)
  have aj:=xQ (show Blk w6 (w.heap.size+1) _ _ from(d.block _ k.out.lt (by first|(simp;done)|(simp;omega))).trans k.out)
  have z:=xQ (show Blk w6 (w.heap.size+1+1) _ _ from(d.block _ n.out.lt (by first|(simp;done)|(simp;omega))).trans n.out)
  have bg:=xQ (y6)
  have u:=xQ (show Blk w6 (w2.heap.size) _ _ from(d.block _ t.out.lt (by first|(simp;done)|(simp;omega))).trans t.out)
  clear bv ak k n s t d y6 bp
  have aw:w.heap.size<w6.heap.size:=aa.out.lt
  clear be
  have bo:w.heap.size+1<w6.heap.size:=aj.out.lt
  clear a9
  have bq:w.heap.size+1+1<w6.heap.size:=z.out.lt
  clear bf
  have av:w2.heap.size<w6.heap.size:=u.out.lt
  obtain⟨v0,v1,v2⟩:=u.out.tri
  obtain⟨z0,br,z1,a7,z2,bi⟩:=z.out.trif
  go_wp2
  have y7:=((z.out.set 0 (.int .i64 aA)).set 1 (.int .i64 aB)).set 2 (.slice (some ⟨g,0,none⟩) xs.length c2)
  simp only[List.setIfInBounds_toArray,List.set_cons_zero,List.set_cons_succ]at y7
  generalize an:World.setCell _ _ _=w7
  rw[an]at y7
  have a:ExtR (w.heap.size+1+1) w6 w7:=by rw[←an];exact(((ExtR.refl (w.heap.size+1+1) w6).setCell (p:=⟨w.heap.size+1+1,0,none⟩) (.inl rfl) (.int .i64 aA)).setCell (p:=⟨w.heap.size+1+1,1,none⟩) (.inl rfl) (.int .i64 aB)).setCell (p:=⟨w.heap.size+1+1,2,none⟩) (.inl rfl) (.slice (some ⟨g,0,none⟩) xs.length c2)
  clear an
  have z7:w6.heap.size≤w7.heap.size:=a.sz
  have b3:=xQ (ExtR.new bz a (by omega))
  have cd:=xQ (show Blk w7 (w.heap.size) _ _ from(a.block _ aa.out.lt (by first|(simp;done)|(simp;omega))).trans aa.out)
  have ce:=xQ (show Blk w7 (w.heap.size+1) _ _ from(a.block _ aj.out.lt (by first|(simp;done)|(simp;omega))).trans aj.out)
  have bx:=xQ (y7)
  have b6:=xQ (bg.out.kept a (.inr (dG bg z.out (by decide))))
  have b5:=xQ (show Blk w7 (w2.heap.size) _ _ from(a.block _ u.out.lt (by first|(simp;done)|(simp;omega))).trans u.out)
  clear bz aa aj z bg u a y7 aw
  have b4:w.heap.size<w7.heap.size:=cd.out.lt
  clear bo
  have cf:w.heap.size+1<w7.heap.size:=ce.out.lt
  clear bq
  have b7:w.heap.size+1+1<w7.heap.size:=bx.out.lt
  clear av
  have ca:w2.heap.size<w7.heap.size:=b5.out.lt
  clear v0 v1 v2 z0 br z1 a7 z2 bi
  obtain⟨y0,y1,y2⟩:=bx.out.tri
  exact bodyPost_ret (v:= .tuple #[.agg #[aA,aB,.slice (some ⟨g,0,none⟩) xs.length c2],.bool true]) (by simp[results,Tryz.results78,go_sem, *]) rfl (eB (by simp) (bH (by rw[←dV,←dV];exact b6.out) (by omega)) b3.out)
def bG (aA aB:Int)(xs:List Int)(f t:Int):List Int:=if bA aA aB xs f t then(xs.set t.toNat (xs.getD f.toNat 0)).set f.toNat 0 else xs
theorem cW (aA aB:Int)(xs:List Int)(f t:Int):(bG aA aB xs f t).length=xs.length:=by unfold bG;split<;>simp
theorem iU {aA aB:Int}{xs:List Int}{f t:Int}(h:bA aA aB xs f t=true):aN aA aB xs=true∧0≤f∧f<xs.length∧0≤t∧t<xs.length∧aW aA f t=1∧0<xs.getD f.toNat 0∧xs.getD t.toNat 0=0∧f≠t:=by
 unfold bA at h
 simp only[Bool.and_eq_true,decide_eq_true_eq]at h
 obtain⟨⟨h1,h2⟩,h3⟩:=h
 obtain⟨k1,k2,k3,k4,k5,k6⟩:=iW h1
 exact⟨k1,k2,k3,k4,k5,k6,h2,h3,fun e=>by subst e;omega⟩
theorem kY (aA aB f t:Int)(p:OA)(n cap:Nat)(xs:List Int)(w:World)(hS:Sl w p n cap 1 (ivs xs))(hok:aN aA aB xs=true):
  Calls Tryz.prog 78 #[aH aA aB p n cap,dS f t] w (cQ aA aB (bG aA aB xs f t) (bA aA aB xs f t) w):=by
 have hl:=hS.ilen
 subst hl
 obtain⟨g1,g2,g3,g4,g5,g6,g7,g8,g9⟩:=bM hok
 have HV:=fun(w':World) (hx:Ext w w')=>fX aA aB p xs.length cap xs w' (hS.ext hx)
 rw[hok]at HV
 have HC:=fun(w':World) (hx:Ext w w')=>fG aA aB p xs.length cap xs w' (by omega) (hS.ext hx)
 have HM:=fun(w':World) (hx:Ext w w')=>aC2 aA aB f t p xs.length cap xs w' (hS.ext hx)
 unfold bG
 cases h:bA aA aB xs f t with
 |false=>rw[h]at HM;exact aFc aA aB p cap f t xs w g5 g6 HV HC HM
 |true=>
  rw[h]at HM
  obtain⟨k1,k2,k3,k4,k5,k6,k7,k8,k9⟩:=iU h
  have ef:((f.toNat:Nat):Int)=f:=by omega
  have et:((t.toNat:Nat):Int)=t:=by omega
  have hx:xs[f.toNat]? =some (xs.getD f.toNat 0):=by rw[List.getD_eq_getElem?_getD,List.getElem?_eq_getElem (by omega)];rfl
  have hy:xs[t.toNat]? =some (xs.getD t.toNat 0):=by rw[List.getD_eq_getElem?_getD,List.getElem?_eq_getElem (by omega)];rfl
  obtain⟨b,c,x,rfl,a,hb,hc⟩:=hS.int_at (k:=f.toNat) (by omega)
  obtain rfl:x=xs.getD f.toNat 0:=by rw[hx]at a;injection a with e;exact e.symm
  have:=aC3 aA aB cap f.toNat t.toNat b c _ _ xs w g5 g6 (by omega) (by omega) (by omega) hx hy hb hc HV HC (by rw[ef,et];exact HM)
  rw[ef,et]at this
  rw[if_pos rfl]
  exact this
end Go.Proofs.YtgnkoffndhmhpaaGreatDoor
