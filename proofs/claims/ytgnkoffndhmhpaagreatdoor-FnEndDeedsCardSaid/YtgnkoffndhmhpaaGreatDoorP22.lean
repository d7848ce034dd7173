/-
  Texts of this proof, packed (@packed).
-/
import Derived.Test.YtgnkoffndhmhpaaGreatDoorP5
import Derived.Test.YtgnkoffndhmhpaaGreatDoorP20
import Derived.Test.YtgnkoffndhmhpaaGreatDoorP21
namespace Go.Proofs.YtgnkoffndhmhpaaGreatDoor
open Go.RowKit
set_option linter.unusedVariables false
set_option linter.unusedSimpArgs false
set_option maxHeartbeats 8000000
set_option maxRecDepth 100000
def sG (h:aO)(id:Int):Value:=match cP h id with
 |some s=> .tuple #[.agg #[s.1,s.2.1,s.2.2],.bool true]
 |none=> .tuple #[.agg #[(),(),()],.bool false]
theorem aB0 (aA aB free step aD aG aC aF id:Int)(p:OA)(n cap:Nat)(q:OA)(m c2:Nat)(w:World)
  (HV:xB 30 #[.agg #[aA,aB,.slice p n cap,free,step,aD,aG,aC,aF,.slice q m c2]] w false):
  Calls Tryz.prog 44 #[.agg #[aA,aB,.slice p n cap,free,step,aD,aG,aC,aF,.slice q m c2],id] w fun e w'=>e= .returned (.tuple #[.agg #[(),(),()],.bool false])∧Ext w w':=by
 go_enter Tryz.func44,Tryz.ntmps44
 go_wp2_with fail
 refine(HV _ (by exact .alloc (.alloc (.refl _) _) _)).mono ?_
 rintro e w1 ⟨rfl,b⟩
 have c:Blk w1 w.heap.size 35 #[aA,aB,.slice p n cap,free,step,aD,aG,aC,aF,.slice q m c2]:=((Blk.new w _ _).alloc _).ext b
 have a:Blk w1 (w.heap.size+1) 66 #[(),(),()]:=by have:=(Blk.new (w.alloc (.cells #[aA,aB,.slice p n cap,free,step,aD,aG,aC,aF,.slice q m c2] 35)) 66 #[(),(),()]).ext b;simpa using this
 have X1:Ext w w1:=(((Ext.refl w).alloc _).alloc _).trans b
 have s1:w.heap.size+1<w1.heap.size:=a.lt
 replace c:=xQ c
 replace a:=xQ a
 clear b
 obtain⟨r,k,s,y,g,f,u,l,i,h⟩:=c.out.ten
 obtain⟨o,x,t,z,j,d⟩:=a.out.trif
 go_wp2
 exact bodyPost_ret (v:= .tuple #[.agg #[(),(),()],.bool false]) (by simp[results,Tryz.results44,go_sem, *]) rfl ⟨rfl,xE⟩
theorem aDk (aA aB free step aD aG aC aF id:Int)(p:OA)(n cap:Nat)(q:OA)(m c2:Nat)(w:World)
  (HV:xB 30 #[.agg #[aA,aB,.slice p n cap,free,step,aD,aG,aC,aF,.slice q m c2]] w true)
  (HX:xC 94 #[.agg #[aA,aB,.slice p n cap,free,step,aD,aG,aC,aF,.slice q m c2],id] w fun w' e w''=>e= .returned (.int .i64 (-1))∧Ext w' w''):
  Calls Tryz.prog 44 #[.agg #[aA,aB,.slice p n cap,free,step,aD,aG,aC,aF,.slice q m c2],id] w fun e w'=>e= .returned (.tuple #[.agg #[(),(),()],.bool false])∧Ext w w':=by
 go_enter Tryz.func44,Tryz.ntmps44
 go_wp2_with fail
 refine(HV _ (by exact .alloc (.alloc (.refl _) _) _)).mono ?_
 rintro e w1 ⟨rfl,d⟩
 have b:Blk w1 w.heap.size 35 #[aA,aB,.slice p n cap,free,step,aD,aG,aC,aF,.slice q m c2]:=((Blk.new w _ _).alloc _).ext d
 have a:Blk w1 (w.heap.size+1) 66 #[(),(),()]:=by have:=(Blk.new (w.alloc (.cells #[aA,aB,.slice p n cap,free,step,aD,aG,aC,aF,.slice q m c2] 35)) 66 #[(),(),()]).ext d;simpa using this
 have X1:Ext w w1:=(((Ext.refl w).alloc _).alloc _).trans d
 have s1:w.heap.size+1<w1.heap.size:=a.lt
 replace b:=xQ b
 replace a:=xQ a
 clear d
 obtain⟨s,l,t,aa,h,g,y,o,j,i⟩:=b.out.ten
 obtain⟨r,z,x,ab,k,f⟩:=a.out.trif
 go_wp2_with fail
 refine(HX _ (by exact X1)).mono ?_
 rintro e w2 ⟨rfl,c⟩
 have ad:=xQ (b.out.ext c)
 have u:=xQ (a.out.ext c)
 have X2:Ext w w2:=X1.trans c
 have s2:w.heap.size+1<w2.heap.size:=u.out.lt
 clear s l t aa h g y o j i r x k z ab f c b a s1
 obtain⟨al,ae,ah,ao,af,an,ar,ak,ai,au⟩:=ad.out.ten
 obtain⟨av,ag,aq,aj,am,ap⟩:=u.out.trif
 go_wp2
 exact bodyPost_ret (v:= .tuple #[.agg #[(),(),()],.bool false]) (by simp[results,Tryz.results44,go_sem, *]) rfl ⟨rfl,xE⟩
theorem aAz (aA aB free step aD aG aC aF id:Int)(p:OA)(n cap:Nat)(q:OA)(m c2:Nat)(w:World)
  (k:Nat)(a1 a2 a3:Int)(vs:List aP)(HK:Hid (vs[k]? =some (id,a1,a2,a3))) (hk:k<m) (hm:m≤9223372036854775807) (HS:Hid (Sl w q m c2 4 (vs.flatMap aE)))
  (HV:xB 30 #[.agg #[aA,aB,.slice p n cap,free,step,aD,aG,aC,aF,.slice q m c2]] w true)
  (HX:xC 94 #[.agg #[aA,aB,.slice p n cap,free,step,aD,aG,aC,aF,.slice q m c2],id] w fun w' e w''=>e= .returned (.int .i64 k)∧Ext w' w''):
  Calls Tryz.prog 44 #[.agg #[aA,aB,.slice p n cap,free,step,aD,aG,aC,aF,.slice q m c2],id] w fun e w'=>e= .returned (.tuple #[.agg #[a1,a2,a3],.bool true])∧Ext w w':=by
 go_enter Tryz.func44,Tryz.ntmps44
 go_wp2_with fail
 refine(HV _ (by exact .alloc (.alloc (.refl _) _) _)).mono ?_
 rintro e w1 ⟨rfl,f⟩
 have c:Blk w1 w.heap.size 35 #[aA,aB,.slice p n cap,free,step,aD,aG,aC,aF,.slice q m c2]:=((Blk.new w _ _).alloc _).ext f
 have a:Blk w1 (w.heap.size+1) 66 #[(),(),()]:=by have:=(Blk.new (w.alloc (.cells #[aA,aB,.slice p n cap,free,step,aD,aG,aC,aF,.slice q m c2] 35)) 66 #[(),(),()]).ext f;simpa using this
 have X1:Ext w w1:=(((Ext.refl w).alloc _).alloc _).trans f
 have s1:w.heap.size+1<w1.heap.size:=a.lt
 replace c:=xQ c
 replace a:=xQ a
 clear f
 obtain⟨x,r,y,ae,i,h,ab,s,l,j⟩:=c.out.ten
 obtain⟨u,ad,aa,af,o,g⟩:=a.out.trif
 go_wp2_with fail
 refine(HX _ (by exact X1)).mono ?_
 rintro e w2 ⟨rfl,d⟩
 have ag:=xQ (c.out.ext d)
 have z:=xQ (a.out.ext d)
 have X2:Ext w w2:=X1.trans d
 have s2:w.heap.size+1<w2.heap.size:=z.out.lt
 clear x r y ae i h ab s l j u aa o ad af g d c a s1
 obtain⟨ao,ah,ak,ar,ai,aq,aw,an,al,ax⟩:=ag.out.ten
 obtain⟨az,aj,av,am,ap,au⟩:=z.out.trif
 obtain⟨b,a0,b0,b1,b2,b3,rfl,hv,hb,g0,g1,g2,g3⟩:=dW (HS.out.ext X2) hk
 obtain⟨rfl,rfl,rfl,rfl⟩:id=b0∧a1=b1∧a2=b2∧a3=b3:=by have t:=HK.out;rw[hv]at t;simp only[Option.some.injEq,Prod.mk.injEq]at t;exact⟨t.1.symm,t.2.1.symm,t.2.2.1.symm,t.2.2.2.symm⟩
 have a6:b≠w.heap.size+1:=by
  have a5:=hb
  obtain⟨b',ay,_,_,_,_,hq,_,a4,_⟩:=dW HS hk
  simp only[Option.some.injEq,Addr.mk.injEq]at hq
  omega
 have i1:(0:Int)≤(k:Int):=by omega
 have i2:(k:Int)<(m:Int):=by omega
 clear hv
 go_wp2
 exact bodyPost_ret (v:= .tuple #[.agg #[a1,a2,a3],.bool true]) (by simp[results,Tryz.results44,go_sem, *]) rfl ⟨rfl,xE⟩
theorem zY (aA aB free step aD aG aC aF id:Int)(p:OA)(n cap:Nat)(q:OA)(m c2:Nat)(w:World)
  (x:Int)
  (HX:xC 75 #[.agg #[aA,aB,.slice p n cap,free,step,aD,aG,aC,aF,.slice q m c2],id] w fun w' e w''=>e= .returned (.int .i64 x)∧Ext w' w'')
  (HV:xB 40 #[.agg #[aA,aB,.slice p n cap,free,step,aD,aG,aC,aF,.slice q m c2]] w false):
  Calls Tryz.prog 125 #[.agg #[aA,aB,.slice p n cap,free,step,aD,aG,aC,aF,.slice q m c2],id] w fun e w'=>e= .returned (.tuple #[.agg #[(),(),()],.bool false])∧Ext w w':=by
 go_enter Tryz.func125,Tryz.ntmps125
 go_wp2_with fail
 refine(HX _ (by exact .alloc (.alloc (.refl _) _) _)).mono ?_
 rintro e w1 ⟨rfl,d⟩
 have b:Blk w1 w.heap.size 35 #[aA,aB,.slice p n cap,free,step,aD,aG,aC,aF,.slice q m c2]:=((Blk.new w _ _).alloc _).ext d
 have a:Blk w1 (w.heap.size+1) 66 #[(),(),()]:=by have:=(Blk.new (w.alloc (.cells #[aA,aB,.slice p n cap,free,step,aD,aG,aC,aF,.slice q m c2] 35)) 66 #[(),(),()]).ext d;simpa using this
 have X1:Ext w w1:=(((Ext.refl w).alloc _).alloc _).trans d
 have s1:w.heap.size+1<w1.heap.size:=a.lt
 replace b:=xQ b
 replace a:=xQ a
 clear d
 obtain⟨s,l,t,ab,h,g,z,o,j,i⟩:=b.out.ten
 obtain⟨r,aa,y,ad,k,f⟩:=a.out.trif
 go_wp2_with fail
 refine(HV _ (by exact X1)).mono ?_
 rintro e w2 ⟨rfl,c⟩
 have ae:=xQ (b.out.ext c)
 have u:=xQ (a.out.ext c)
 have X2:Ext w w2:=X1.trans c
 have s2:w.heap.size+1<w2.heap.size:=u.out.lt
 clear s l t ab h g z o j i r y k aa ad f c b a s1
 obtain⟨am,af,ai,ap,ag,ao,au,al,aj,av⟩:=ae.out.ten
 obtain⟨aw,ah,ar,ak,an,aq⟩:=u.out.trif
 go_wp2
 exact bodyPost_ret (v:= .tuple #[.agg #[(),(),()],.bool false]) (by simp[results,Tryz.results125,go_sem, *]) rfl ⟨rfl,xE⟩
theorem aCa (aA aB free step aD aG aC aF id:Int)(p:OA)(n cap:Nat)(q:OA)(m c2:Nat)(w:World)
  (HX:xC 75 #[.agg #[aA,aB,.slice p n cap,free,step,aD,aG,aC,aF,.slice q m c2],id] w fun w' e w''=>e= .returned (.int .i64 (-1))∧Ext w' w'')
  (HV:xB 40 #[.agg #[aA,aB,.slice p n cap,free,step,aD,aG,aC,aF,.slice q m c2]] w true):
  Calls Tryz.prog 125 #[.agg #[aA,aB,.slice p n cap,free,step,aD,aG,aC,aF,.slice q m c2],id] w fun e w'=>e= .returned (.tuple #[.agg #[(),(),()],.bool false])∧Ext w w':=by
 go_enter Tryz.func125,Tryz.ntmps125
 go_wp2_with fail
 refine(HX _ (by exact .alloc (.alloc (.refl _) _) _)).mono ?_
 rintro e w1 ⟨rfl,d⟩
 have b:Blk w1 w.heap.size 35 #[aA,aB,.slice p n cap,free,step,aD,aG,aC,aF,.slice q m c2]:=((Blk.new w _ _).alloc _).ext d
 have a:Blk w1 (w.heap.size+1) 66 #[(),(),()]:=by have:=(Blk.new (w.alloc (.cells #[aA,aB,.slice p n cap,free,step,aD,aG,aC,aF,.slice q m c2] 35)) 66 #[(),(),()]).ext d;simpa using this
 have X1:Ext w w1:=(((Ext.refl w).alloc _).alloc _).trans d
 have s1:w.heap.size+1<w1.heap.size:=a.lt
 replace b:=xQ b
 replace a:=xQ a
 clear d
 obtain⟨s,l,t,aa,h,g,y,o,j,i⟩:=b.out.ten
 obtain⟨r,z,x,ab,k,f⟩:=a.out.trif
 go_wp2_with fail
 refine(HV _ (by exact X1)).mono ?_
 rintro e w2 ⟨rfl,c⟩
 have ad:=xQ (b.out.ext c)
 have u:=xQ (a.out.ext c)
 have X2:Ext w w2:=X1.trans c
 have s2:w.heap.size+1<w2.heap.size:=u.out.lt
 clear s l t aa h g y o j i r x k z ab f c b a s1
 obtain⟨al,ae,ah,ao,af,an,ar,ak,ai,au⟩:=ad.out.ten
 obtain⟨av,ag,aq,aj,am,ap⟩:=u.out.trif
 go_wp2
 exact bodyPost_ret (v:= .tuple #[.agg #[(),(),()],.bool false]) (by simp[results,Tryz.results125,go_sem, *]) rfl ⟨rfl,xE⟩
theorem zX (aA aB free step aD aG aC aF id:Int)(p:OA)(n cap:Nat)(q:OA)(m c2:Nat)(w:World)
  (k:Nat)(a1 a2 a3:Int)(vs:List aP)(HK:Hid (vs[k]? =some (id,a1,a2,a3))) (hk:k<m) (hm:m≤9223372036854775807) (HS:Hid (Sl w q m c2 4 (vs.flatMap aE)))
  (HX:xC 75 #[.agg #[aA,aB,.slice p n cap,free,step,aD,aG,aC,aF,.slice q m c2],id] w fun w' e w''=>e= .returned (.int .i64 k)∧Ext w' w'')
  (HV:xB 40 #[.agg #[aA,aB,.slice p n cap,free,step,aD,aG,aC,aF,.slice q m c2]] w true):
  Calls Tryz.prog 125 #[.agg #[aA,aB,.slice p n cap,free,step,aD,aG,aC,aF,.slice q m c2],id] w fun e w'=>e= .returned (.tuple #[.agg #[a1,a2,a3],.bool true])∧Ext w w':=by
 go_enter Tryz.func125,Tryz.ntmps125
 go_wp2_with fail
 refine(HX _ (by exact .alloc (.alloc (.refl _) _) _)).mono ?_
 rintro e w1 ⟨rfl,f⟩
 have c:Blk w1 w.heap.size 35 #[aA,aB,.slice p n cap,free,step,aD,aG,aC,aF,.slice q m c2]:=((Blk.new w _ _).alloc _).ext f
 have a:Blk w1 (w.heap.size+1) 66 #[(),(),()]:=by have:=(Blk.new (w.alloc (.cells #[aA,aB,.slice p n cap,free,step,aD,aG,aC,aF,.slice q m c2] 35)) 66 #[(),(),()]).ext f;simpa using this
 have X1:Ext w w1:=(((Ext.refl w).alloc _).alloc _).trans f
 have s1:w.heap.size+1<w1.heap.size:=a.lt
 replace c:=xQ c
 replace a:=xQ a
 clear f
 obtain⟨x,r,y,ae,i,h,ab,s,l,j⟩:=c.out.ten
 obtain⟨u,ad,aa,af,o,g⟩:=a.out.trif
 go_wp2_with fail
 refine(HV _ (by exact X1)).mono ?_
 rintro e w2 ⟨rfl,d⟩
 have ag:=xQ (c.out.ext d)
 have z:=xQ (a.out.ext d)
 have X2:Ext w w2:=X1.trans d
 have s2:w.heap.size+1<w2.heap.size:=z.out.lt
 clear x r y ae i h ab s l j u aa o ad af g d c a s1
 obtain⟨ao,ah,ak,ar,ai,aq,aw,an,al,ax⟩:=ag.out.ten
 obtain⟨az,aj,av,am,ap,au⟩:=z.out.trif
 obtain⟨b,a0,b0,b1,b2,b3,rfl,hv,hb,g0,g1,g2,g3⟩:=dW (HS.out.ext X2) hk
 obtain⟨rfl,rfl,rfl,rfl⟩:id=b0∧a1=b1∧a2=b2∧a3=b3:=by have t:=HK.out;rw[hv]at t;simp only[Option.some.injEq,Prod.mk.injEq]at t;exact⟨t.1.symm,t.2.1.symm,t.2.2.1.symm,t.2.2.2.symm⟩
 have a6:b≠w.heap.size+1:=by
  have a5:=hb
  obtain⟨b',ay,_,_,_,_,hq,_,a4,_⟩:=dW HS hk
  simp only[Option.some.injEq,Addr.mk.injEq]at hq
  omega
 have i1:(0:Int)≤(k:Int):=by omega
 have i2:(k:Int)<(m:Int):=by omega
 clear hv
 go_wp2
 exact bodyPost_ret (v:= .tuple #[.agg #[a1,a2,a3],.bool true]) (by simp[results,Tryz.results125,go_sem, *]) rfl ⟨rfl,xE⟩
theorem aEm (h:aO)(id:Int)(p:OA)(n cap:Nat)(q:OA)(m c2:Nat)(w:World)(hi:IsHouse w h p n cap q m c2):
  Calls Tryz.prog 44 #[bK h p n cap q m c2,id] w fun e w'=>e= .returned (sG h id)∧Ext w w':=by
 have HV:=fun(w':World) (hx:Ext w w')=>iI h p n cap q m c2 w' (hi.ext hx)
 have d:=hi.vlen
 obtain⟨aA,aB,c,b,a,aD,aG,aC,aF,vs⟩:=h
 have HX:=fun(w':World) (hx:Ext w w')=>iQ aA aB b a aD aG aC aF id p n cap q m c2 vs w' (hi.vs.ext hx)
 unfold sG cP
 simp only at d HV HX⊢
 cases hok:aS ⟨aA,aB,c,b,a,aD,aG,aC,aF,vs⟩with
 |false=>
  rw[hok]at HV
  simpa using aB0 aA aB b a aD aG aC aF id p n cap q m c2 w HV
 |true=>
  rw[hok]at HV
  rcases lT id vs with⟨hx,hv⟩|⟨k,a1,a2,a3,hk,hx,hv,hf⟩
  ·rw[hx]at HX
   rw[hv]
   simpa using aDk aA aB b a aD aG aC aF id p n cap q m c2 w HV HX
  ·rw[hx]at HX
   rw[hf]
   simpa using aAz aA aB b a aD aG aC aF id p n cap q m c2 w k a1 a2 a3 vs hv (by omega) hi.vs.bd hi.vs HV HX
theorem aEg (h:aO)(id:Int)(p:OA)(n cap:Nat)(q:OA)(m c2:Nat)(w:World)(hi:IsHouse w h p n cap q m c2):
  Calls Tryz.prog 125 #[bK h p n cap q m c2,id] w fun e w'=>e= .returned (sG h id)∧Ext w w':=by
 have HV:=fun(w':World) (hx:Ext w w')=>kH h p n cap q m c2 w' (hi.ext hx)
 have d:=hi.vlen
 obtain⟨aA,aB,c,b,a,aD,aG,aC,aF,vs⟩:=h
 have HX:=fun(w':World) (hx:Ext w w')=>pJ aA aB b a aD aG aC aF id p n cap q m c2 vs w' (hi.vs.ext hx)
 unfold sG cP
 simp only at d HV HX⊢
 cases hok:aS ⟨aA,aB,c,b,a,aD,aG,aC,aF,vs⟩with
 |false=>
  rw[hok]at HV
  simpa using zY aA aB b a aD aG aC aF id p n cap q m c2 w _ HX HV
 |true=>
  rw[hok]at HV
  rcases lT id vs with⟨hx,hv⟩|⟨k,a1,a2,a3,hk,hx,hv,hf⟩
  ·rw[hx]at HX
   rw[hv]
   simpa using aCa aA aB b a aD aG aC aF id p n cap q m c2 w HX HV
  ·rw[hx]at HX
   rw[hf]
   simpa using zX aA aB b a aD aG aC aF id p n cap q m c2 w k a1 a2 a3 vs hv (by omega) hi.vs.bd hi.vs HX HV
theorem aGf (aA aB free step aD aG aC aF id:Int)(p:OA)(n cap:Nat)(q:OA)(m c2:Nat)(w:World)
  (HST:xC 44 #[.agg #[aA,aB,.slice p n cap,free,step,aD,aG,aC,aF,.slice q m c2],id] w fun w' e w''=>e= .returned (.tuple #[.agg #[(),(),()],.bool false])∧Ext w' w''):
  Calls Tryz.prog 32 #[.agg #[aA,aB,.slice p n cap,free,step,aD,aG,aC,aF,.slice q m c2],id] w fun e w'=>e= .returned (.int .i64 (-1))∧Ext w w':=by
 go_enter Tryz.func32,Tryz.ntmps32
 go_wp2_with fail
 refine(HST _ (by exact .alloc (.refl _) _)).mono ?_
 rintro e w1 ⟨rfl,b⟩
 have a:Blk w1 w.heap.size 35 #[aA,aB,.slice p n cap,free,step,aD,aG,aC,aF,.slice q m c2]:=(Blk.new w _ _).ext b
 have X1:Ext w w1:=((Ext.refl w).alloc _).trans b
 have s1:w.heap.size<w1.heap.size:=a.lt
 replace a:=xQ a
 clear b
 obtain⟨j,c,l,k,g,f,i,h,o,d⟩:=a.out.ten
 go_wp2
 go_ret
 exact⟨rfl,by exact .alloc X1 _⟩
theorem aDp (aA aB free step aD aG aC aF id:Int)(p:OA)(n cap:Nat)(q:OA)(m c2:Nat)(w:World)(a1 a2 a3:Int)(D:Int)
  (HST:xC 44 #[.agg #[aA,aB,.slice p n cap,free,step,aD,aG,aC,aF,.slice q m c2],id] w fun w' e w''=>e= .returned (.tuple #[.agg #[a1,a2,a3],.bool true])∧Ext w' w'')
  (HD:Hid (∀w',Calls Tryz.prog 84 #[aR free step aD aG,bP a1 a2 a3,aC] w' fun e w''=>e= .returned (.int .i64 D)∧Ext w' w'')):
  Calls Tryz.prog 32 #[.agg #[aA,aB,.slice p n cap,free,step,aD,aG,aC,aF,.slice q m c2],id] w fun e w'=>e= .returned (.int .i64 D)∧Ext w w':=by
 go_enter Tryz.func32,Tryz.ntmps32
 go_wp2_with fail
 refine(HST _ (by exact .alloc (.refl _) _)).mono ?_
 rintro e w1 ⟨rfl,b⟩
 have a:Blk w1 w.heap.size 35 #[aA,aB,.slice p n cap,free,step,aD,aG,aC,aF,.slice q m c2]:=(Blk.new w _ _).ext b
 have X1:Ext w w1:=((Ext.refl w).alloc _).trans b
 have s1:w.heap.size<w1.heap.size:=a.lt
 replace a:=xQ a
 clear b
 obtain⟨k,i,l,r,f,d,o,j,h,g⟩:=a.out.ten
 go_wp2_with fail
 refine(HD _).mono ?_
 rintro e w2 ⟨rfl,c⟩
 go_wp2
 go_ret
 exact⟨rfl,by exact .trans (.alloc X1 _) c⟩
theorem aGd (aA aB free step aD aG aC aF id:Int)(p:OA)(n cap:Nat)(q:OA)(m c2:Nat)(w:World)
  (HST:xC 44 #[.agg #[aA,aB,.slice p n cap,free,step,aD,aG,aC,aF,.slice q m c2],id] w fun w' e w''=>e= .returned (.tuple #[.agg #[(),(),()],.bool false])∧Ext w' w''):
  Calls Tryz.prog 115 #[.agg #[aA,aB,.slice p n cap,free,step,aD,aG,aC,aF,.slice q m c2],id] w fun e w'=>e= .returned (.bool false)∧Ext w w':=by
 go_enter Tryz.func115,Tryz.ntmps115
 go_wp2_with fail
 refine(HST _ (by exact .alloc (.refl _) _)).mono ?_
 rintro e w1 ⟨rfl,b⟩
 have a:Blk w1 w.heap.size 35 #[aA,aB,.slice p n cap,free,step,aD,aG,aC,aF,.slice q m c2]:=(Blk.new w _ _).ext b
 have X1:Ext w w1:=((Ext.refl w).alloc _).trans b
 have s1:w.heap.size<w1.heap.size:=a.lt
 replace a:=xQ a
 clear b
 obtain⟨j,c,l,k,g,f,i,h,o,d⟩:=a.out.ten
 go_wp2
 go_ret
 exact⟨rfl,by exact .alloc X1 _⟩
theorem aDn (aA aB free step aD aG aC aF id:Int)(p:OA)(n cap:Nat)(q:OA)(m c2:Nat)(w:World)(a1 a2 a3:Int)(D:Bool)
  (HST:xC 44 #[.agg #[aA,aB,.slice p n cap,free,step,aD,aG,aC,aF,.slice q m c2],id] w fun w' e w''=>e= .returned (.tuple #[.agg #[a1,a2,a3],.bool true])∧Ext w' w'')
  (HD:Hid (∀w',Calls Tryz.prog 150 #[aR free step aD aG,bP a1 a2 a3,aC] w' fun e w''=>e= .returned (.bool D)∧Ext w' w'')):
  Calls Tryz.prog 115 #[.agg #[aA,aB,.slice p n cap,free,step,aD,aG,aC,aF,.slice q m c2],id] w fun e w'=>e= .returned (.bool D)∧Ext w w':=by
 go_enter Tryz.func115,Tryz.ntmps115
 go_wp2_with fail
 refine(HST _ (by exact .alloc (.refl _) _)).mono ?_
 rintro e w1 ⟨rfl,b⟩
 have a:Blk w1 w.heap.size 35 #[aA,aB,.slice p n cap,free,step,aD,aG,aC,aF,.slice q m c2]:=(Blk.new w _ _).ext b
 have X1:Ext w w1:=((Ext.refl w).alloc _).trans b
 have s1:w.heap.size<w1.heap.size:=a.lt
 replace a:=xQ a
 clear b
 obtain⟨k,i,l,r,f,d,o,j,h,g⟩:=a.out.ten
 go_wp2_with fail
 refine(HD _).mono ?_
 rintro e w2 ⟨rfl,c⟩
 go_wp2
 go_ret
 exact⟨rfl,by exact .trans (.alloc X1 _) c⟩
theorem aFj (aA aB free step aD aG aC aF id:Int)(p:OA)(n cap:Nat)(q:OA)(m c2:Nat)(w:World)
  (HST:xC 125 #[.agg #[aA,aB,.slice p n cap,free,step,aD,aG,aC,aF,.slice q m c2],id] w fun w' e w''=>e= .returned (.tuple #[.agg #[(),(),()],.bool false])∧Ext w' w''):
  Calls Tryz.prog 85 #[.agg #[aA,aB,.slice p n cap,free,step,aD,aG,aC,aF,.slice q m c2],id] w fun e w'=>e= .returned (.int .i64 (-1))∧Ext w w':=by
 go_enter Tryz.func85,Tryz.ntmps85
 go_wp2_with fail
 refine(HST _ (by exact .alloc (.refl _) _)).mono ?_
 rintro e w1 ⟨rfl,b⟩
 have a:Blk w1 w.heap.size 35 #[aA,aB,.slice p n cap,free,step,aD,aG,aC,aF,.slice q m c2]:=(Blk.new w _ _).ext b
 have X1:Ext w w1:=((Ext.refl w).alloc _).trans b
 have s1:w.heap.size<w1.heap.size:=a.lt
 replace a:=xQ a
 clear b
 obtain⟨j,c,l,k,g,f,i,h,o,d⟩:=a.out.ten
 go_wp2
 go_ret
 exact⟨rfl,by exact .alloc X1 _⟩
theorem aCk (aA aB free step aD aG aC aF id:Int)(p:OA)(n cap:Nat)(q:OA)(m c2:Nat)(w:World)(a1 a2 a3:Int)(D:Int)
  (HST:xC 125 #[.agg #[aA,aB,.slice p n cap,free,step,aD,aG,aC,aF,.slice q m c2],id] w fun w' e w''=>e= .returned (.tuple #[.agg #[a1,a2,a3],.bool true])∧Ext w' w'')
  (HD:Hid (∀w',Calls Tryz.prog 133 #[aR free step aD aG,bP a1 a2 a3,aC] w' fun e w''=>e= .returned (.int .i64 D)∧Ext w' w'')):
  Calls Tryz.prog 85 #[.agg #[aA,aB,.slice p n cap,free,step,aD,aG,aC,aF,.slice q m c2],id] w fun e w'=>e= .returned (.int .i64 D)∧Ext w w':=by
 go_enter Tryz.func85,Tryz.ntmps85
 go_wp2_with fail
 refine(HST _ (by exact .alloc (.refl _) _)).mono ?_
 rintro e w1 ⟨rfl,b⟩
 have a:Blk w1 w.heap.size 35 #[aA,aB,.slice p n cap,free,step,aD,aG,aC,aF,.slice q m c2]:=(Blk.new w _ _).ext b
 have X1:Ext w w1:=((Ext.refl w).alloc _).trans b
 have s1:w.heap.size<w1.heap.size:=a.lt
 replace a:=xQ a
 clear b
 obtain⟨k,i,l,r,f,d,o,j,h,g⟩:=a.out.ten
 go_wp2_with fail
 refine(HD _).mono ?_
 rintro e w2 ⟨rfl,c⟩
 go_wp2
 go_ret
 exact⟨rfl,by exact .trans (.alloc X1 _) c⟩
theorem aFg (aA aB free step aD aG aC aF id:Int)(p:OA)(n cap:Nat)(q:OA)(m c2:Nat)(w:World)
  (HST:xC 125 #[.agg #[aA,aB,.slice p n cap,free,step,aD,aG,aC,aF,.slice q m c2],id] w fun w' e w''=>e= .returned (.tuple #[.agg #[(),(),()],.bool false])∧Ext w' w''):
  Calls Tryz.prog 76 #[.agg #[aA,aB,.slice p n cap,free,step,aD,aG,aC,aF,.slice q m c2],id] w fun e w'=>e= .returned (.bool false)∧Ext w w':=by
 go_enter Tryz.func76,Tryz.ntmps76
 go_wp2_with fail
 refine(HST _ (by exact .alloc (.refl _) _)).mono ?_
 rintro e w1 ⟨rfl,b⟩
 have a:Blk w1 w.heap.size 35 #[aA,aB,.slice p n cap,free,step,aD,aG,aC,aF,.slice q m c2]:=(Blk.new w _ _).ext b
 have X1:Ext w w1:=((Ext.refl w).alloc _).trans b
 have s1:w.heap.size<w1.heap.size:=a.lt
 replace a:=xQ a
 clear b
 obtain⟨j,c,l,k,g,f,i,h,o,d⟩:=a.out.ten
 go_wp2
 go_ret
 exact⟨rfl,by exact .alloc X1 _⟩
theorem aCg (aA aB free step aD aG aC aF id:Int)(p:OA)(n cap:Nat)(q:OA)(m c2:Nat)(w:World)(a1 a2 a3:Int)(D:Bool)
  (HST:xC 125 #[.agg #[aA,aB,.slice p n cap,free,step,aD,aG,aC,aF,.slice q m c2],id] w fun w' e w''=>e= .returned (.tuple #[.agg #[a1,a2,a3],.bool true])∧Ext w' w'')
  (HD:Hid (∀w',Calls Tryz.prog 126 #[aR free step aD aG,bP a1 a2 a3,aC] w' fun e w''=>e= .returned (.bool D)∧Ext w' w'')):
  Calls Tryz.prog 76 #[.agg #[aA,aB,.slice p n cap,free,step,aD,aG,aC,aF,.slice q m c2],id] w fun e w'=>e= .returned (.bool D)∧Ext w w':=by
 go_enter Tryz.func76,Tryz.ntmps76
 go_wp2_with fail
 refine(HST _ (by exact .alloc (.refl _) _)).mono ?_
 rintro e w1 ⟨rfl,b⟩
 have a:Blk w1 w.heap.size 35 #[aA,aB,.slice p n cap,free,step,aD,aG,aC,aF,.slice q m c2]:=(Blk.new w _ _).ext b
 have X1:Ext w w1:=((Ext.refl w).alloc _).trans b
 have s1:w.heap.size<w1.heap.size:=a.lt
 replace a:=xQ a
 clear b
 obtain⟨k,i,l,r,f,d,o,j,h,g⟩:=a.out.ten
 go_wp2_with fail
 refine(HD _).mono ?_
 rintro e w2 ⟨rfl,c⟩
 go_wp2
 go_ret
 exact⟨rfl,by exact .trans (.alloc X1 _) c⟩
theorem oC {h:aO}{id a1 a2 a3:Int}(hs:cP h id=some (a1,a2,a3)):aY h.free h.step h.aD h.aG=true∧cS a1 a2 a3=true∧a3≤h.aC∧h.aC≤9999:=by
 unfold cP at hs
 split at hs
 ·rename_i hok
  rw[Option.map_eq_some_iff]at hs
  obtain⟨v,hv,e⟩:=hs
  have hm:=List.mem_of_find?_eq_some hv
  simp only[aS,jZ,Bool.and_eq_true,decide_eq_true_eq]at hok
  have:=(kC hok.2).2 v hm
  obtain⟨v0,v1,v2,v3⟩:=v
  simp only[Prod.mk.injEq]at e
  obtain⟨rfl,rfl,rfl⟩:=e
  simp only[eV,Bool.and_eq_true,decide_eq_true_eq]at this
  exact⟨hok.1.1.2,this.1,this.2,hok.1.2.2.1⟩
 ·simp at hs
theorem mR (h:aO)(id:Int)(p:OA)(n cap:Nat)(q:OA)(m c2:Nat)(w:World)(hi:IsHouse w h p n cap q m c2):
  Calls Tryz.prog 32 #[bK h p n cap q m c2,id] w fun e w'=>e= .returned (.int .i64 (aQ h id))∧Ext w w':=by
 have a:=fun(w':World) (hx:Ext w w')=>aEm h id p n cap q m c2 w' (hi.ext hx)
 unfold sG at a
 unfold aQ
 cases hs:cP h id with
 |none=>
  rw[hs]at a
  exact aGf h.aA h.aB h.free h.step h.aD h.aG h.aC h.aF id p n cap q m c2 w a
 |some s=>
  obtain⟨a1,a2,a3⟩:=s
  rw[hs]at a
  obtain⟨t,st,hc,h9⟩:=oC hs
  exact aDp h.aA h.aB h.free h.step h.aD h.aG h.aC h.aF id p n cap q m c2 w a1 a2 a3 _ a (fun w'=>uI h.free h.step h.aD h.aG a1 a2 a3 h.aC w' t st hc h9)
theorem yN (h:aO)(id:Int)(p:OA)(n cap:Nat)(q:OA)(m c2:Nat)(w:World)(hi:IsHouse w h p n cap q m c2):
  Calls Tryz.prog 115 #[bK h p n cap q m c2,id] w fun e w'=>e= .returned (.bool (dJ h id))∧Ext w w':=by
 have a:=fun(w':World) (hx:Ext w w')=>aEm h id p n cap q m c2 w' (hi.ext hx)
 unfold sG at a
 unfold dJ
 cases hs:cP h id with
 |none=>
  rw[hs]at a
  exact aGd h.aA h.aB h.free h.step h.aD h.aG h.aC h.aF id p n cap q m c2 w a
 |some s=>
  obtain⟨a1,a2,a3⟩:=s
  rw[hs]at a
  obtain⟨t,st,hc,h9⟩:=oC hs
  exact aDn h.aA h.aB h.free h.step h.aD h.aG h.aC h.aF id p n cap q m c2 w a1 a2 a3 _ a (fun w'=>aLq h.free h.step h.aD h.aG a1 a2 a3 h.aC w' t st hc h9)
theorem pR (h:aO)(id:Int)(p:OA)(n cap:Nat)(q:OA)(m c2:Nat)(w:World)(hi:IsHouse w h p n cap q m c2):
  Calls Tryz.prog 85 #[bK h p n cap q m c2,id] w fun e w'=>e= .returned (.int .i64 (aQ h id))∧Ext w w':=by
 have a:=fun(w':World) (hx:Ext w w')=>aEg h id p n cap q m c2 w' (hi.ext hx)
 unfold sG at a
 unfold aQ
 cases hs:cP h id with
 |none=>
  rw[hs]at a
  exact aFj h.aA h.aB h.free h.step h.aD h.aG h.aC h.aF id p n cap q m c2 w a
 |some s=>
  obtain⟨a1,a2,a3⟩:=s
  rw[hs]at a
  obtain⟨t,st,hc,h9⟩:=oC hs
  exact aCk h.aA h.aB h.free h.step h.aD h.aG h.aC h.aF id p n cap q m c2 w a1 a2 a3 _ a (fun w'=>xP h.free h.step h.aD h.aG a1 a2 a3 h.aC w' t st hc h9)
theorem xT (h:aO)(id:Int)(p:OA)(n cap:Nat)(q:OA)(m c2:Nat)(w:World)(hi:IsHouse w h p n cap q m c2):
  Calls Tryz.prog 76 #[bK h p n cap q m c2,id] w fun e w'=>e= .returned (.bool (dJ h id))∧Ext w w':=by
 have a:=fun(w':World) (hx:Ext w w')=>aEg h id p n cap q m c2 w' (hi.ext hx)
 unfold sG at a
 unfold dJ
 cases hs:cP h id with
 |none=>
  rw[hs]at a
  exact aFg h.aA h.aB h.free h.step h.aD h.aG h.aC h.aF id p n cap q m c2 w a
 |some s=>
  obtain⟨a1,a2,a3⟩:=s
  rw[hs]at a
  obtain⟨t,st,hc,h9⟩:=oC hs
  exact aCg h.aA h.aB h.free h.step h.aD h.aG h.aC h.aF id p n cap q m c2 w a1 a2 a3 _ a (fun w'=>aLe h.free h.step h.aD h.aG a1 a2 a3 h.aC w' t st hc h9)
abbrev THD:TypeId:=55
theorem aCo (aA aB free step aD aG aC aF kind one two:Int)(p:OA)(n cap:Nat)(q:OA)(m c2:Nat)(xs:List Int)(vs:List aP)(w:World)
  (HVd:xB 40 #[.agg #[aA,aB,.slice p n cap,free,step,aD,aG,aC,aF,.slice q m c2]] w false):
  Calls Tryz.prog 28 #[.agg #[aA,aB,.slice p n cap,free,step,aD,aG,aC,aF,.slice q m c2],.agg #[kind,one,two]] w fun e w'=>e= .returned (.tuple #[.agg #[(),(),((),()),(),(),(),(),(),(),((),())],(-1:Int),.bool false])∧Ext w w':=by
 go_enter Tryz.func28,Tryz.ntmps28
 go_wp2_with fail
 refine(HVd _ ((((Mem.start w).bn aL #[aA,aB,.slice p n cap,free,step,aD,aG,aC,aF,.slice q m c2] (w.heap.size)).bn THD #[kind,one,two] (w.heap.size+1)).bn aL #[(),(),((),()),(),(),(),(),(),(),((),())] (w.heap.size+1+1)).ext).mono ?_
 rintro e w1 ⟨rfl,f⟩
 have M1:=(((((Mem.start w).bn aL #[aA,aB,.slice p n cap,free,step,aD,aG,aC,aF,.slice q m c2] (w.heap.size)).bn THD #[kind,one,two] (w.heap.size+1)).bn aL #[(),(),((),()),(),(),(),(),(),(),((),())] (w.heap.size+1+1)).adv f)
 have a:=M1.hi 0
 have b:=M1.hi 1
 have c:=M1.hi 2
 clear f HVd
 obtain⟨f0,s,f1,t,f2,g,f3,k,f4,j,f5,r,f6,u,f7,l,f8,o,f9,h⟩:=(M1.bk 0).tenf
 go_wp2
 clear f0 s f1 t f2 g f3 k f4 j f5 r f6 u f7 l f8 o f9 h a b c
 have M2:=(M1.put10 (i:=0) rfl (.int .i64 0) (.int .i64 0) (.slice none 0 0) (.int .i64 0) (.int .i64 0) (.int .i64 0) (.int .i64 0) (.int .i64 0) (.int .i64 0) (.slice none 0 0))
 generalize d:World.setCell _ _ _=wz
 rw[d]at M2
 clear d M1
 obtain⟨y0,y1,y2,y3,y4,y5,y6,y7,y8,y9⟩:=(M2.bk 0).ten
 exact bodyPost_ret (v:= .tuple #[.agg #[(),(),((),()),(),(),(),(),(),(),((),())],(-1:Int),.bool false]) (by simp[results,Tryz.results28,go_sem, *]) rfl ⟨rfl,M2.ext⟩
theorem xX (aA aB free step aD aG aC aF kind one two:Int)(p:OA)(n cap:Nat)(q:OA)(m c2:Nat)(xs:List Int)(vs:List aP)(w:World)(h0:kind≠0)(h1:kind≠1)(h2:kind≠2)(h3:kind≠3)(h4:kind≠4)
  (HVd:xB 40 #[.agg #[aA,aB,.slice p n cap,free,step,aD,aG,aC,aF,.slice q m c2]] w true)
  (HL:xC 60 #[.agg #[aA,aB,.slice p n cap,free,step,aD,aG,aC,aF,.slice q m c2]] w fun w' e w''=> ∃p' cap' q' c2',e= .returned (.agg #[aA,aB,.slice p' n cap',free,step,aD,aG,aC,aF,.slice q' m c2'])∧w''.ownsRow w'.heap.size TI 1 (.slice p' n cap') n (ivs xs)∧w''.ownsRow w'.heap.size TV 4 (.slice q' m c2') m (vs.flatMap aE)∧Ext w' w''):
  Calls Tryz.prog 28 #[.agg #[aA,aB,.slice p n cap,free,step,aD,aG,aC,aF,.slice q m c2],.agg #[kind,one,two]] w fun e w'=> ∃p' cap' q' c2',e= .returned (.tuple #[.agg #[aA,aB,.slice p' n cap',free,step,aD,aG,aC,aF,.slice q' m c2'],(-1:Int),.bool false])∧w'.ownsRow w.heap.size TI 1 (.slice p' n cap') n (ivs xs)∧w'.ownsRow w.heap.size TV 4 (.slice q' m c2') m (vs.flatMap aE)∧Ext w w':=by
 go_enter Tryz.func28,Tryz.ntmps28
 go_wp2_with fail
 refine(HVd _ ((((Mem.start w).bn aL #[aA,aB,.slice p n cap,free,step,aD,aG,aC,aF,.slice q m c2] (w.heap.size)).bn THD #[kind,one,two] (w.heap.size+1)).bn aL #[(),(),((),()),(),(),(),(),(),(),((),())] (w.heap.size+1+1)).ext).mono ?_
 rintro e w1 ⟨rfl,ag⟩
 have M1:=(((((Mem.start w).bn aL #[aA,aB,.slice p n cap,free,step,aD,aG,aC,aF,.slice q m c2] (w.heap.size)).bn THD #[kind,one,two] (w.heap.size+1)).bn aL #[(),(),((),()),(),(),(),(),(),(),((),())] (w.heap.size+1+1)).adv ag)
 have a:=M1.hi 0
 have d:=M1.hi 1
 have ab:=M1.hi 2
 clear ag HVd
 obtain⟨y,r,k,c,x,t,f,h,j,u⟩:=(M1.bk 2).ten
 go_wp2_with fail
 clear y r k c x t f h j u
 refine(HL _ M1.ext).mono ?_
 rintro e w2 ⟨p1,af,q1,ai,rfl,ho,hq,hx⟩
 have M2:=(M1.own2 hx ho hq (Nat.le_refl _) (by decide))
 clear M1 a d ab hx ho hq
 have s:=M2.hi 2
 have o:=M2.hi 3
 have z:=M2.hi 4
 obtain⟨y,r,k,c,x,t,f,h,j,u⟩:=(M2.bk 4).ten
 have an:=(M2.bk 3).cl 0
 have k0:(kind==0)=false:=by simp;omega
 have k1:(kind==1)=false:=by simp;omega
 have k2:(kind==2)=false:=by simp;omega
 have k3:(kind==3)=false:=by simp;omega
 have k4:(kind==4)=false:=by simp;omega
 go_wp2_with fail
 clear y r k c x t f h j u an
 refine(HL _ (M2.bn aL #[aA,aB,.slice p1 n af,free,step,aD,aG,aC,aF,.slice q1 m ai] (w2.heap.size)).ext).mono ?_
 rintro e w9 ⟨p9,ae,q9,g,rfl,ho,hq,hx⟩
 have M3:=((M2.bn aL #[aA,aB,.slice p1 n af,free,step,aD,aG,aC,aF,.slice q1 m ai] (w2.heap.size)).own2 hx ho hq (Nat.le_refl _) (by decide))
 clear M2 s o z hx ho hq HL
 have l:=M3.hi 2
 have b:=M3.hi 5
 have ad:=M3.hi 6
 have aa:=M3.hi 7
 obtain⟨f0,av,f1,aq,f2,au,f3,ak,f4,am,f5,al,f6,ar,f7,ao,f8,ap,f9,aj⟩:=(M3.bk 5).tenf
 go_wp2
 clear f0 av f1 aq f2 au f3 ak f4 am f5 al f6 ar f7 ao f8 ap f9 aj l b ad aa
 have M4:=(M3.put10 (i:=5) rfl (.int .i64 aA) (.int .i64 aB) (.slice p9 n ae) (.int .i64 free) (.int .i64 step) (.int .i64 aD) (.int .i64 aG) (.int .i64 aC) (.int .i64 aF) (.slice q9 m g))
 generalize ah:World.setCell _ _ _=wz
 rw[ah]at M4
 clear ah M3
 obtain⟨y0,y1,y2,y3,y4,y5,y6,y7,y8,y9⟩:=(M4.bk 5).ten
 exact bodyPost_ret (v:= .tuple #[.agg #[aA,aB,.slice p9 n ae,free,step,aD,aG,aC,aF,.slice q9 m g],(-1:Int),.bool false]) (by simp[results,Tryz.results28,go_sem, *]) rfl ⟨p9,ae,q9,g,rfl,(M4.ow 0),(M4.ow 1),M4.ext⟩
theorem sW (aA aB free step aD aG aC aF one two:Int)(p:OA)(n cap:Nat)(q:OA)(m c2:Nat)(xs:List Int)(vs:List aP)(w:World)(hc:0≤aC)(hc2:aC≤9999)(h1:1≤one)(h2:one≤9999-aC)
  (HVd:xB 40 #[.agg #[aA,aB,.slice p n cap,free,step,aD,aG,aC,aF,.slice q m c2]] w true)
  (HL:xC 60 #[.agg #[aA,aB,.slice p n cap,free,step,aD,aG,aC,aF,.slice q m c2]] w fun w' e w''=> ∃p' cap' q' c2',e= .returned (.agg #[aA,aB,.slice p' n cap',free,step,aD,aG,aC,aF,.slice q' m c2'])∧w''.ownsRow w'.heap.size TI 1 (.slice p' n cap') n (ivs xs)∧w''.ownsRow w'.heap.size TV 4 (.slice q' m c2') m (vs.flatMap aE)∧Ext w' w'')
  (HI:Hid (∀w',Calls Tryz.prog 77 #[one,.int .i64 1,(9999-aC:Int)] w' fun e w''=>e= .returned (.bool true)∧w'=w'')):
  Calls Tryz.prog 28 #[.agg #[aA,aB,.slice p n cap,free,step,aD,aG,aC,aF,.slice q m c2],.agg #[.int .i64 3,one,two]] w fun e w'=> ∃p' cap' q' c2',e= .returned (.tuple #[.agg #[aA,aB,.slice p' n cap',free,step,aD,aG,(aC+one:Int),aF,.slice q' m c2'],(aC+one:Int),.bool true])∧w'.ownsRow w.heap.size TI 1 (.slice p' n cap') n (ivs xs)∧w'.ownsRow w.heap.size TV 4 (.slice q' m c2') m (vs.flatMap aE)∧Ext w w':=by
 go_enter Tryz.func28,Tryz.ntmps28
 go_wp2_with fail
 refine(HVd _ ((((Mem.start w).bn aL #[aA,aB,.slice p n cap,free,step,aD,aG,aC,aF,.slice q m c2] (w.heap.size)).bn THD #[.int .i64 3,one,two] (w.heap.size+1)).bn aL #[(),(),((),()),(),(),(),(),(),(),((),())] (w.heap.size+1+1)).ext).mono ?_
 rintro e w1 ⟨rfl,au⟩
 have M1:=(((((Mem.start w).bn aL #[aA,aB,.slice p n cap,free,step,aD,aG,aC,aF,.slice q m c2] (w.heap.size)).bn THD #[.int .i64 3,one,two] (w.heap.size+1)).bn aL #[(),(),((),()),(),(),(),(),(),(),((),())] (w.heap.size+1+1)).adv au)
 have x:=M1.hi 0
 have ab:=M1.hi 1
 have ar:=M1.hi 2
 clear au HVd
 obtain⟨ap,ah,af,z,ao,aj,ad,b,ae,al⟩:=(M1.bk 2).ten
 go_wp2_with fail
 clear ap ah af z ao aj ad b ae al
 refine(HL _ M1.ext).mono ?_
 rintro e w2 ⟨p1,a,q1,c,rfl,ho,hq,hx⟩
 have M2:=(M1.own2 hx ho hq (Nat.le_refl _) (by decide))
 clear M1 x ab ar hx ho hq
 have ai:=M2.hi 2
 have ag:=M2.hi 3
 have aq:=M2.hi 4
 obtain⟨ap,ah,af,z,ao,aj,ad,b,ae,al⟩:=(M2.bk 4).ten
 obtain⟨a6,am,a3⟩:=(M2.bk 3).tri
 have k1:IntKind.i64.wrap (9999-aC)=9999-aC:=IntWalk.i64_in _ (by omega)
 go_wp2_with fail
 refine(HI _).mono ?_
 rintro e _ ⟨rfl,rfl⟩
 clear HI k1 ap ah af z ao aj ad b ae al a6 am a3
 have M3:=(M2.bn aL #[aA,aB,.slice p1 n a,free,step,aD,aG,aC,aF,.slice q1 m c] (w2.heap.size))
 generalize (w2.alloc (.cells #[aA,aB,.slice p1 n a,free,step,aD,aG,aC,aF,.slice q1 m c] aL))=w3 at M3⊢
 clear M2 ai ag aq
 have aa:=M3.hi 0
 have an:=M3.hi 3
 have ak:=M3.hi 4
 have y:=M3.hi 5
 have b:=(M3.bk 5).cl 7
 have am:=(M3.bk 4).cl 1
 obtain⟨d0,bg,d1,a2,d2,ax,d3,a0,d4,bf,d5,bd,d6,a5,d7,bb,d8,bc,d9,ay⟩:=(M3.bk 0).tenf
 obtain⟨f0,bh,f1,a9,f2,be,f3,az,f4,a4,f5,a1,f6,ba,f7,a7,f8,a8,f9,aw⟩:=(M3.bk 3).tenf
 obtain⟨j,o⟩:=M3.nq 4 5
 obtain⟨r,g⟩:=M3.nq 3 5
 obtain⟨k,h⟩:=M3.nq 0 5
 obtain⟨f,s⟩:=M3.nq 3 4
 obtain⟨u,t⟩:=M3.nq 0 4
 obtain⟨d,l⟩:=M3.nq 0 3
 have k2:IntKind.i64.wrap (aC+one)=aC+one:=IntWalk.i64_in _ (by omega)
 have hd:decide (aC+one<0)=false:=by simp;omega
 clear HL
 have M4:=(M3.st 0 7 (.int .i64 (aC+one)))
 go_wp2
 clear b am d0 bg d1 a2 d2 ax d3 a0 d4 bf d5 bd d6 a5 d7 bb d8 bc d9 ay f0 bh f1 a9 f2 be f3 az f4 a4 f5 a1 f6 ba f7 a7 f8 a8 f9 aw j o r g k h f s u t d l aa an ak y
 have M5:=(M4.put10 (i:=3) rfl (.int .i64 aA) (.int .i64 aB) (.slice p1 n a) (.int .i64 free) (.int .i64 step) (.int .i64 aD) (.int .i64 aG) (.int .i64 (aC+one)) (.int .i64 aF) (.slice q1 m c))
 generalize av:World.setCell _ _ _=wz
 rw[av]at M5
 clear av M3 M4
 obtain⟨y0,y1,y2,y3,y4,y5,y6,y7,y8,y9⟩:=(M5.bk 3).ten
 exact bodyPost_ret (v:= .tuple #[.agg #[aA,aB,.slice p1 n a,free,step,aD,aG,(aC+one:Int),aF,.slice q1 m c],(aC+one:Int),.bool true]) (by simp[results,Tryz.results28,go_sem, *]) rfl ⟨p1,a,q1,c,rfl,(M5.ow 1),(M5.ow 2),M5.ext⟩
theorem tS (aA aB free step aD aG aC aF one two:Int)(p:OA)(n cap:Nat)(q:OA)(m c2:Nat)(xs:List Int)(vs:List aP)(w:World)(hc:0≤aC)(hc2:aC≤9999)
  (HVd:xB 40 #[.agg #[aA,aB,.slice p n cap,free,step,aD,aG,aC,aF,.slice q m c2]] w true)
  (HL:xC 60 #[.agg #[aA,aB,.slice p n cap,free,step,aD,aG,aC,aF,.slice q m c2]] w fun w' e w''=> ∃p' cap' q' c2',e= .returned (.agg #[aA,aB,.slice p' n cap',free,step,aD,aG,aC,aF,.slice q' m c2'])∧w''.ownsRow w'.heap.size TI 1 (.slice p' n cap') n (ivs xs)∧w''.ownsRow w'.heap.size TV 4 (.slice q' m c2') m (vs.flatMap aE)∧Ext w' w'')
  (HI:Hid (∀w',Calls Tryz.prog 77 #[one,.int .i64 1,(9999-aC:Int)] w' fun e w''=>e= .returned (.bool false)∧w'=w'')):
  Calls Tryz.prog 28 #[.agg #[aA,aB,.slice p n cap,free,step,aD,aG,aC,aF,.slice q m c2],.agg #[.int .i64 3,one,two]] w fun e w'=> ∃p' cap' q' c2',e= .returned (.tuple #[.agg #[aA,aB,.slice p' n cap',free,step,aD,aG,aC,aF,.slice q' m c2'],(-1:Int),.bool false])∧w'.ownsRow w.heap.size TI 1 (.slice p' n cap') n (ivs xs)∧w'.ownsRow w.heap.size TV 4 (.slice q' m c2') m (vs.flatMap aE)∧Ext w w':=by
 go_enter Tryz.func28,Tryz.ntmps28
 go_wp2_with fail
 refine(HVd _ ((((Mem.start w).bn aL #[aA,aB,.slice p n cap,free,step,aD,aG,aC,aF,.slice q m c2] (w.heap.size)).bn THD #[.int .i64 3,one,two] (w.heap.size+1)).bn aL #[(),(),((),()),(),(),(),(),(),(),((),())] (w.heap.size+1+1)).ext).mono ?_
 rintro e w1 ⟨rfl,ak⟩
 have M1:=(((((Mem.start w).bn aL #[aA,aB,.slice p n cap,free,step,aD,aG,aC,aF,.slice q m c2] (w.heap.size)).bn THD #[.int .i64 3,one,two] (w.heap.size+1)).bn aL #[(),(),((),()),(),(),(),(),(),(),((),())] (w.heap.size+1+1)).adv ak)
 have o:=M1.hi 0
 have u:=M1.hi 1
 have ah:=M1.hi 2
 clear ak HVd
 obtain⟨l,g,f,a,k,h,b,c,d,j⟩:=(M1.bk 2).ten
 go_wp2_with fail
 clear l g f a k h b c d j
 refine(HL _ M1.ext).mono ?_
 rintro e w2 ⟨p1,aj,q1,am,rfl,ho,hq,hx⟩
 have M2:=(M1.own2 hx ho hq (Nat.le_refl _) (by decide))
 clear M1 o u ah hx ho hq
 have ab:=M2.hi 2
 have aa:=M2.hi 3
 have ag:=M2.hi 4
 obtain⟨l,g,f,a,k,h,b,c,d,j⟩:=(M2.bk 4).ten
 obtain⟨au,az,aq⟩:=(M2.bk 3).tri
 have k1:IntKind.i64.wrap (9999-aC)=9999-aC:=IntWalk.i64_in _ (by omega)
 go_wp2_with fail
 refine(HI _).mono ?_
 rintro e _ ⟨rfl,rfl⟩
 clear HI k1 l g f a k h b c d j au az aq
 have M3:=(M2.bn aL #[aA,aB,.slice p1 n aj,free,step,aD,aG,aC,aF,.slice q1 m am] (w2.heap.size))
 generalize (w2.alloc (.cells #[aA,aB,.slice p1 n aj,free,step,aD,aG,aC,aF,.slice q1 m am] aL))=w3 at M3⊢
 clear M2 ab aa ag
 have s:=M3.hi 0
 have af:=M3.hi 3
 have ae:=M3.hi 4
 have r:=M3.hi 5
 obtain⟨l,g,f,a,k,h,b,c,d,j⟩:=(M3.bk 5).ten
 go_wp2_with fail
 clear l g f a k h b c d j
 refine(HL _ M3.ext).mono ?_
 rintro e w9 ⟨p9,ai,q9,x,rfl,ho,hq,hx⟩
 have M4:=(M3.own2 hx ho hq (Nat.le_refl _) (by decide))
 clear M3 s af ae r hx ho hq HL
 have z:=M4.hi 2
 have t:=M4.hi 5
 have ad:=M4.hi 6
 have y:=M4.hi 7
 obtain⟨f0,a1,f1,ax,f2,a0,f3,ao,f4,ar,f5,ap,f6,ay,f7,av,f8,aw,f9,an⟩:=(M4.bk 5).tenf
 go_wp2
 clear f0 a1 f1 ax f2 a0 f3 ao f4 ar f5 ap f6 ay f7 av f8 aw f9 an z t ad y
 have M5:=(M4.put10 (i:=5) rfl (.int .i64 aA) (.int .i64 aB) (.slice p9 n ai) (.int .i64 free) (.int .i64 step) (.int .i64 aD) (.int .i64 aG) (.int .i64 aC) (.int .i64 aF) (.slice q9 m x))
 generalize al:World.setCell _ _ _=wz
 rw[al]at M5
 clear al M4
 obtain⟨y0,y1,y2,y3,y4,y5,y6,y7,y8,y9⟩:=(M5.bk 5).ten
 exact bodyPost_ret (v:= .tuple #[.agg #[aA,aB,.slice p9 n ai,free,step,aD,aG,aC,aF,.slice q9 m x],(-1:Int),.bool false]) (by simp[results,Tryz.results28,go_sem, *]) rfl ⟨p9,ai,q9,x,rfl,(M5.ow 0),(M5.ow 1),M5.ext⟩
end Go.Proofs.YtgnkoffndhmhpaaGreatDoor
