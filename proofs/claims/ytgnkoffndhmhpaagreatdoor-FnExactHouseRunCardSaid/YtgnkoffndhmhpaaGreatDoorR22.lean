/-
  Texts of this proof, packed (@packed).
-/
import Derived.Test.YtgnkoffndhmhpaaGreatDoorR10
import Derived.Test.YtgnkoffndhmhpaaGreatDoorR20
import Derived.Test.YtgnkoffndhmhpaaGreatDoorR21
namespace Go.Proofs.YtgnkoffndhmhpaaGreatDoor
open Go.RowKit
set_option linter.unusedVariables false
set_option linter.unusedSimpArgs false
set_option maxHeartbeats 8000000
set_option maxRecDepth 100000
def qD (h:aT)(id:Int):Value:=match dB h id with
 |some s=> .tuple #[.agg #[s.1,s.2.1,s.2.2],.bool true]
 |none=> .tuple #[.agg #[(),(),()],.bool false]
theorem yU (aA aB free step aE aF aC aG id:Int)(p:OA)(n cap:Nat)(q:OA)(m c2:Nat)(w:World)
  (HV:xB 30 #[.agg #[aA,aB,.slice p n cap,free,step,aE,aF,aC,aG,.slice q m c2]] w false):
  Calls Tryz.prog 44 #[.agg #[aA,aB,.slice p n cap,free,step,aE,aF,aC,aG,.slice q m c2],id] w fun e w'=>e= .returned (.tuple #[.agg #[(),(),()],.bool false])∧Ext w w':=by
 go_enter Tryz.func44,Tryz.ntmps44
 go_wp2_with fail
 refine(HV.out _ (by exact .alloc (.alloc (.refl _) _) _)).mono ?_
 rintro e w1 ⟨rfl,hh1⟩
 have BA1:Blk w1 w.heap.size 35 #[aA,aB,.slice p n cap,free,step,aE,aF,aC,aG,.slice q m c2]:=((Blk.new w _ _).alloc _).ext hh1
 have BS1:Blk w1 (w.heap.size+1) 66 #[(),(),()]:=by have:=(Blk.new (w.alloc (.cells #[aA,aB,.slice p n cap,free,step,aE,aF,aC,aG,.slice q m c2] 35)) 66 #[(),(),()]).ext hh1;simpa using this
 have X1:Ext w w1:=(((Ext.refl w).alloc _).alloc _).trans hh1
 have s1:w.heap.size+1<w1.heap.size:=BS1.lt
 replace BA1:=xQ BA1
 replace BS1:=xQ BS1
 clear hh1
 obtain⟨e1_0,e1_1,e1_2,e1_3,e1_4,e1_5,e1_6,e1_7,e1_8,e1_9⟩:=(BA1.out).ten
 obtain⟨z1_0,y1_0,z1_1,y1_1,z1_2,y1_2⟩:=(BS1.out).trif
 go_wp2
 exact bodyPost_ret (v:= .tuple #[.agg #[(),(),()],.bool false]) (by simp[results,Tryz.results44,go_sem, *]) rfl ⟨rfl,xE⟩
theorem aBh (aA aB free step aE aF aC aG id:Int)(p:OA)(n cap:Nat)(q:OA)(m c2:Nat)(w:World)
  (HV:xB 30 #[.agg #[aA,aB,.slice p n cap,free,step,aE,aF,aC,aG,.slice q m c2]] w true)
  (HX:xC 94 #[.agg #[aA,aB,.slice p n cap,free,step,aE,aF,aC,aG,.slice q m c2],id] w fun w' e w''=>e= .returned (.int .i64 (-1))∧Ext w' w''):
  Calls Tryz.prog 44 #[.agg #[aA,aB,.slice p n cap,free,step,aE,aF,aC,aG,.slice q m c2],id] w fun e w'=>e= .returned (.tuple #[.agg #[(),(),()],.bool false])∧Ext w w':=by
 go_enter Tryz.func44,Tryz.ntmps44
 go_wp2_with fail
 refine(HV.out _ (by exact .alloc (.alloc (.refl _) _) _)).mono ?_
 rintro e w1 ⟨rfl,hh1⟩
 have BA1:Blk w1 w.heap.size 35 #[aA,aB,.slice p n cap,free,step,aE,aF,aC,aG,.slice q m c2]:=((Blk.new w _ _).alloc _).ext hh1
 have BS1:Blk w1 (w.heap.size+1) 66 #[(),(),()]:=by have:=(Blk.new (w.alloc (.cells #[aA,aB,.slice p n cap,free,step,aE,aF,aC,aG,.slice q m c2] 35)) 66 #[(),(),()]).ext hh1;simpa using this
 have X1:Ext w w1:=(((Ext.refl w).alloc _).alloc _).trans hh1
 have s1:w.heap.size+1<w1.heap.size:=BS1.lt
 replace BA1:=xQ BA1
 replace BS1:=xQ BS1
 clear hh1
 obtain⟨e1_0,e1_1,e1_2,e1_3,e1_4,e1_5,e1_6,e1_7,e1_8,e1_9⟩:=(BA1.out).ten
 obtain⟨z1_0,y1_0,z1_1,y1_1,z1_2,y1_2⟩:=(BS1.out).trif
 go_wp2_with fail
 refine(HX.out _ (by exact X1)).mono ?_
 rintro e w2 ⟨rfl,hh2⟩
 have BA2:=xQ (BA1.out.ext hh2)
 have BS2:=xQ (BS1.out.ext hh2)
 have X2:Ext w w2:=X1.trans hh2
 have s2:w.heap.size+1<w2.heap.size:=BS2.out.lt
 clear e1_0 e1_1 e1_2 e1_3 e1_4 e1_5 e1_6 e1_7 e1_8 e1_9 z1_0 z1_1 z1_2 y1_0 y1_1 y1_2 hh2 BA1 BS1 s1
 obtain⟨e2_0,e2_1,e2_2,e2_3,e2_4,e2_5,e2_6,e2_7,e2_8,e2_9⟩:=(BA2.out).ten
 obtain⟨z2_0,y2_0,z2_1,y2_1,z2_2,y2_2⟩:=(BS2.out).trif
 go_wp2
 exact bodyPost_ret (v:= .tuple #[.agg #[(),(),()],.bool false]) (by simp[results,Tryz.results44,go_sem, *]) rfl ⟨rfl,xE⟩
theorem yT (aA aB free step aE aF aC aG id:Int)(p:OA)(n cap:Nat)(q:OA)(m c2:Nat)(w:World)
  (k:Nat)(a1 a2 a3:Int)(vs:List aQ)(HK:Hid (vs[k]? =some (id,a1,a2,a3))) (hk:k<m) (hm:m≤9223372036854775807) (HS:Hid (Sl w q m c2 4 (vs.flatMap aD)))
  (HV:xB 30 #[.agg #[aA,aB,.slice p n cap,free,step,aE,aF,aC,aG,.slice q m c2]] w true)
  (HX:xC 94 #[.agg #[aA,aB,.slice p n cap,free,step,aE,aF,aC,aG,.slice q m c2],id] w fun w' e w''=>e= .returned (.int .i64 k)∧Ext w' w''):
  Calls Tryz.prog 44 #[.agg #[aA,aB,.slice p n cap,free,step,aE,aF,aC,aG,.slice q m c2],id] w fun e w'=>e= .returned (.tuple #[.agg #[a1,a2,a3],.bool true])∧Ext w w':=by
 go_enter Tryz.func44,Tryz.ntmps44
 go_wp2_with fail
 refine(HV.out _ (by exact .alloc (.alloc (.refl _) _) _)).mono ?_
 rintro e w1 ⟨rfl,hh1⟩
 have BA1:Blk w1 w.heap.size 35 #[aA,aB,.slice p n cap,free,step,aE,aF,aC,aG,.slice q m c2]:=((Blk.new w _ _).alloc _).ext hh1
 have BS1:Blk w1 (w.heap.size+1) 66 #[(),(),()]:=by have:=(Blk.new (w.alloc (.cells #[aA,aB,.slice p n cap,free,step,aE,aF,aC,aG,.slice q m c2] 35)) 66 #[(),(),()]).ext hh1;simpa using this
 have X1:Ext w w1:=(((Ext.refl w).alloc _).alloc _).trans hh1
 have s1:w.heap.size+1<w1.heap.size:=BS1.lt
 replace BA1:=xQ BA1
 replace BS1:=xQ BS1
 clear hh1
 obtain⟨e1_0,e1_1,e1_2,e1_3,e1_4,e1_5,e1_6,e1_7,e1_8,e1_9⟩:=(BA1.out).ten
 obtain⟨z1_0,y1_0,z1_1,y1_1,z1_2,y1_2⟩:=(BS1.out).trif
 go_wp2_with fail
 refine(HX.out _ (by exact X1)).mono ?_
 rintro e w2 ⟨rfl,hh2⟩
 have BA2:=xQ (BA1.out.ext hh2)
 have BS2:=xQ (BS1.out.ext hh2)
 have X2:Ext w w2:=X1.trans hh2
 have s2:w.heap.size+1<w2.heap.size:=BS2.out.lt
 clear e1_0 e1_1 e1_2 e1_3 e1_4 e1_5 e1_6 e1_7 e1_8 e1_9 z1_0 z1_1 z1_2 y1_0 y1_1 y1_2 hh2 BA1 BS1 s1
 obtain⟨e2_0,e2_1,e2_2,e2_3,e2_4,e2_5,e2_6,e2_7,e2_8,e2_9⟩:=(BA2.out).ten
 obtain⟨z2_0,y2_0,z2_1,y2_1,z2_2,y2_2⟩:=(BS2.out).trif
 obtain⟨b,off,b0,b1,b2,b3,rfl,hv,hb,g0,g1,g2,g3⟩:=dP (HS.out.ext X2) hk
 obtain⟨rfl,rfl,rfl,rfl⟩:id=b0∧a1=b1∧a2=b2∧a3=b3:=by have t:=HK.out;rw[hv]at t;simp only[Option.some.injEq,Prod.mk.injEq]at t;exact⟨t.1.symm,t.2.1.symm,t.2.2.1.symm,t.2.2.2.symm⟩
 have hne:b≠w.heap.size+1:=by
  have hb0:=hb
  obtain⟨b',off',_,_,_,_,hq,_,hb',_⟩:=dP HS.out hk
  simp only[Option.some.injEq,Addr.mk.injEq]at hq
  omega
 have i1:(0:Int)≤(k:Int):=by omega
 have i2:(k:Int)<(m:Int):=by omega
 clear hv
 go_wp2
 exact bodyPost_ret (v:= .tuple #[.agg #[a1,a2,a3],.bool true]) (by simp[results,Tryz.results44,go_sem, *]) rfl ⟨rfl,xE⟩
theorem xD (aA aB free step aE aF aC aG id:Int)(p:OA)(n cap:Nat)(q:OA)(m c2:Nat)(w:World)
  (x:Int)
  (HX:xC 75 #[.agg #[aA,aB,.slice p n cap,free,step,aE,aF,aC,aG,.slice q m c2],id] w fun w' e w''=>e= .returned (.int .i64 x)∧Ext w' w'')
  (HV:xB 40 #[.agg #[aA,aB,.slice p n cap,free,step,aE,aF,aC,aG,.slice q m c2]] w false):
  Calls Tryz.prog 125 #[.agg #[aA,aB,.slice p n cap,free,step,aE,aF,aC,aG,.slice q m c2],id] w fun e w'=>e= .returned (.tuple #[.agg #[(),(),()],.bool false])∧Ext w w':=by
 go_enter Tryz.func125,Tryz.ntmps125
 go_wp2_with fail
 refine(HX.out _ (by exact .alloc (.alloc (.refl _) _) _)).mono ?_
 rintro e w1 ⟨rfl,hh1⟩
 have BA1:Blk w1 w.heap.size 35 #[aA,aB,.slice p n cap,free,step,aE,aF,aC,aG,.slice q m c2]:=((Blk.new w _ _).alloc _).ext hh1
 have BS1:Blk w1 (w.heap.size+1) 66 #[(),(),()]:=by have:=(Blk.new (w.alloc (.cells #[aA,aB,.slice p n cap,free,step,aE,aF,aC,aG,.slice q m c2] 35)) 66 #[(),(),()]).ext hh1;simpa using this
 have X1:Ext w w1:=(((Ext.refl w).alloc _).alloc _).trans hh1
 have s1:w.heap.size+1<w1.heap.size:=BS1.lt
 replace BA1:=xQ BA1
 replace BS1:=xQ BS1
 clear hh1
 obtain⟨e1_0,e1_1,e1_2,e1_3,e1_4,e1_5,e1_6,e1_7,e1_8,e1_9⟩:=(BA1.out).ten
 obtain⟨z1_0,y1_0,z1_1,y1_1,z1_2,y1_2⟩:=(BS1.out).trif
 go_wp2_with fail
 refine(HV.out _ (by exact X1)).mono ?_
 rintro e w2 ⟨rfl,hh2⟩
 have BA2:=xQ (BA1.out.ext hh2)
 have BS2:=xQ (BS1.out.ext hh2)
 have X2:Ext w w2:=X1.trans hh2
 have s2:w.heap.size+1<w2.heap.size:=BS2.out.lt
 clear e1_0 e1_1 e1_2 e1_3 e1_4 e1_5 e1_6 e1_7 e1_8 e1_9 z1_0 z1_1 z1_2 y1_0 y1_1 y1_2 hh2 BA1 BS1 s1
 obtain⟨e2_0,e2_1,e2_2,e2_3,e2_4,e2_5,e2_6,e2_7,e2_8,e2_9⟩:=(BA2.out).ten
 obtain⟨z2_0,y2_0,z2_1,y2_1,z2_2,y2_2⟩:=(BS2.out).trif
 go_wp2
 exact bodyPost_ret (v:= .tuple #[.agg #[(),(),()],.bool false]) (by simp[results,Tryz.results125,go_sem, *]) rfl ⟨rfl,xE⟩
theorem aAg (aA aB free step aE aF aC aG id:Int)(p:OA)(n cap:Nat)(q:OA)(m c2:Nat)(w:World)
  (HX:xC 75 #[.agg #[aA,aB,.slice p n cap,free,step,aE,aF,aC,aG,.slice q m c2],id] w fun w' e w''=>e= .returned (.int .i64 (-1))∧Ext w' w'')
  (HV:xB 40 #[.agg #[aA,aB,.slice p n cap,free,step,aE,aF,aC,aG,.slice q m c2]] w true):
  Calls Tryz.prog 125 #[.agg #[aA,aB,.slice p n cap,free,step,aE,aF,aC,aG,.slice q m c2],id] w fun e w'=>e= .returned (.tuple #[.agg #[(),(),()],.bool false])∧Ext w w':=by
 go_enter Tryz.func125,Tryz.ntmps125
 go_wp2_with fail
 refine(HX.out _ (by exact .alloc (.alloc (.refl _) _) _)).mono ?_
 rintro e w1 ⟨rfl,hh1⟩
 have BA1:Blk w1 w.heap.size 35 #[aA,aB,.slice p n cap,free,step,aE,aF,aC,aG,.slice q m c2]:=((Blk.new w _ _).alloc _).ext hh1
 have BS1:Blk w1 (w.heap.size+1) 66 #[(),(),()]:=by have:=(Blk.new (w.alloc (.cells #[aA,aB,.slice p n cap,free,step,aE,aF,aC,aG,.slice q m c2] 35)) 66 #[(),(),()]).ext hh1;simpa using this
 have X1:Ext w w1:=(((Ext.refl w).alloc _).alloc _).trans hh1
 have s1:w.heap.size+1<w1.heap.size:=BS1.lt
 replace BA1:=xQ BA1
 replace BS1:=xQ BS1
 clear hh1
 obtain⟨e1_0,e1_1,e1_2,e1_3,e1_4,e1_5,e1_6,e1_7,e1_8,e1_9⟩:=(BA1.out).ten
 obtain⟨z1_0,y1_0,z1_1,y1_1,z1_2,y1_2⟩:=(BS1.out).trif
 go_wp2_with fail
 refine(HV.out _ (by exact X1)).mono ?_
 rintro e w2 ⟨rfl,hh2⟩
 have BA2:=xQ (BA1.out.ext hh2)
 have BS2:=xQ (BS1.out.ext hh2)
 have X2:Ext w w2:=X1.trans hh2
 have s2:w.heap.size+1<w2.heap.size:=BS2.out.lt
 clear e1_0 e1_1 e1_2 e1_3 e1_4 e1_5 e1_6 e1_7 e1_8 e1_9 z1_0 z1_1 z1_2 y1_0 y1_1 y1_2 hh2 BA1 BS1 s1
 obtain⟨e2_0,e2_1,e2_2,e2_3,e2_4,e2_5,e2_6,e2_7,e2_8,e2_9⟩:=(BA2.out).ten
 obtain⟨z2_0,y2_0,z2_1,y2_1,z2_2,y2_2⟩:=(BS2.out).trif
 go_wp2
 exact bodyPost_ret (v:= .tuple #[.agg #[(),(),()],.bool false]) (by simp[results,Tryz.results125,go_sem, *]) rfl ⟨rfl,xE⟩
theorem xA (aA aB free step aE aF aC aG id:Int)(p:OA)(n cap:Nat)(q:OA)(m c2:Nat)(w:World)
  (k:Nat)(a1 a2 a3:Int)(vs:List aQ)(HK:Hid (vs[k]? =some (id,a1,a2,a3))) (hk:k<m) (hm:m≤9223372036854775807) (HS:Hid (Sl w q m c2 4 (vs.flatMap aD)))
  (HX:xC 75 #[.agg #[aA,aB,.slice p n cap,free,step,aE,aF,aC,aG,.slice q m c2],id] w fun w' e w''=>e= .returned (.int .i64 k)∧Ext w' w'')
  (HV:xB 40 #[.agg #[aA,aB,.slice p n cap,free,step,aE,aF,aC,aG,.slice q m c2]] w true):
  Calls Tryz.prog 125 #[.agg #[aA,aB,.slice p n cap,free,step,aE,aF,aC,aG,.slice q m c2],id] w fun e w'=>e= .returned (.tuple #[.agg #[a1,a2,a3],.bool true])∧Ext w w':=by
 go_enter Tryz.func125,Tryz.ntmps125
 go_wp2_with fail
 refine(HX.out _ (by exact .alloc (.alloc (.refl _) _) _)).mono ?_
 rintro e w1 ⟨rfl,hh1⟩
 have BA1:Blk w1 w.heap.size 35 #[aA,aB,.slice p n cap,free,step,aE,aF,aC,aG,.slice q m c2]:=((Blk.new w _ _).alloc _).ext hh1
 have BS1:Blk w1 (w.heap.size+1) 66 #[(),(),()]:=by have:=(Blk.new (w.alloc (.cells #[aA,aB,.slice p n cap,free,step,aE,aF,aC,aG,.slice q m c2] 35)) 66 #[(),(),()]).ext hh1;simpa using this
 have X1:Ext w w1:=(((Ext.refl w).alloc _).alloc _).trans hh1
 have s1:w.heap.size+1<w1.heap.size:=BS1.lt
 replace BA1:=xQ BA1
 replace BS1:=xQ BS1
 clear hh1
 obtain⟨e1_0,e1_1,e1_2,e1_3,e1_4,e1_5,e1_6,e1_7,e1_8,e1_9⟩:=(BA1.out).ten
 obtain⟨z1_0,y1_0,z1_1,y1_1,z1_2,y1_2⟩:=(BS1.out).trif
 go_wp2_with fail
 refine(HV.out _ (by exact X1)).mono ?_
 rintro e w2 ⟨rfl,hh2⟩
 have BA2:=xQ (BA1.out.ext hh2)
 have BS2:=xQ (BS1.out.ext hh2)
 have X2:Ext w w2:=X1.trans hh2
 have s2:w.heap.size+1<w2.heap.size:=BS2.out.lt
 clear e1_0 e1_1 e1_2 e1_3 e1_4 e1_5 e1_6 e1_7 e1_8 e1_9 z1_0 z1_1 z1_2 y1_0 y1_1 y1_2 hh2 BA1 BS1 s1
 obtain⟨e2_0,e2_1,e2_2,e2_3,e2_4,e2_5,e2_6,e2_7,e2_8,e2_9⟩:=(BA2.out).ten
 obtain⟨z2_0,y2_0,z2_1,y2_1,z2_2,y2_2⟩:=(BS2.out).trif
 obtain⟨b,off,b0,b1,b2,b3,rfl,hv,hb,g0,g1,g2,g3⟩:=dP (HS.out.ext X2) hk
 obtain⟨rfl,rfl,rfl,rfl⟩:id=b0∧a1=b1∧a2=b2∧a3=b3:=by have t:=HK.out;rw[hv]at t;simp only[Option.some.injEq,Prod.mk.injEq]at t;exact⟨t.1.symm,t.2.1.symm,t.2.2.1.symm,t.2.2.2.symm⟩
 have hne:b≠w.heap.size+1:=by
  have hb0:=hb
  obtain⟨b',off',_,_,_,_,hq,_,hb',_⟩:=dP HS.out hk
  simp only[Option.some.injEq,Addr.mk.injEq]at hq
  omega
 have i1:(0:Int)≤(k:Int):=by omega
 have i2:(k:Int)<(m:Int):=by omega
 clear hv
 go_wp2
 exact bodyPost_ret (v:= .tuple #[.agg #[a1,a2,a3],.bool true]) (by simp[results,Tryz.results125,go_sem, *]) rfl ⟨rfl,xE⟩
theorem aCi (h:aT)(id:Int)(p:OA)(n cap:Nat)(q:OA)(m c2:Nat)(w:World)(hi:IsHouse w h p n cap q m c2):
  Calls Tryz.prog 44 #[bS h p n cap q m c2,id] w fun e w'=>e= .returned (qD h id)∧Ext w w':=by
 have HV:=fun(w':World) (hx:Ext w w')=>mQ h p n cap q m c2 w' (hi.ext hx)
 have hvl:=hi.vlen
 obtain⟨aA,aB,cells,free,step,aE,aF,aC,aG,vs⟩:=h
 have HX:=fun(w':World) (hx:Ext w w')=>gW aA aB free step aE aF aC aG id p n cap q m c2 vs w' (hi.vs.ext hx)
 unfold qD dB
 simp only at hvl HV HX⊢
 cases hok:bK ⟨aA,aB,cells,free,step,aE,aF,aC,aG,vs⟩with
 |false=>
  rw[hok]at HV
  simpa using yU aA aB free step aE aF aC aG id p n cap q m c2 w HV
 |true=>
  rw[hok]at HV
  rcases kL id vs with⟨hx,hv⟩|⟨k,a1,a2,a3,hk,hx,hv,hf⟩
  ·rw[hx]at HX
   rw[hv]
   simpa using aBh aA aB free step aE aF aC aG id p n cap q m c2 w HV HX
  ·rw[hx]at HX
   rw[hf]
   simpa using yT aA aB free step aE aF aC aG id p n cap q m c2 w k a1 a2 a3 vs hv (by omega) hi.vs.bd hi.vs HV HX
theorem aCd (h:aT)(id:Int)(p:OA)(n cap:Nat)(q:OA)(m c2:Nat)(w:World)(hi:IsHouse w h p n cap q m c2):
  Calls Tryz.prog 125 #[bS h p n cap q m c2,id] w fun e w'=>e= .returned (qD h id)∧Ext w w':=by
 have HV:=fun(w':World) (hx:Ext w w')=>mI h p n cap q m c2 w' (hi.ext hx)
 have hvl:=hi.vlen
 obtain⟨aA,aB,cells,free,step,aE,aF,aC,aG,vs⟩:=h
 have HX:=fun(w':World) (hx:Ext w w')=>nM aA aB free step aE aF aC aG id p n cap q m c2 vs w' (hi.vs.ext hx)
 unfold qD dB
 simp only at hvl HV HX⊢
 cases hok:bK ⟨aA,aB,cells,free,step,aE,aF,aC,aG,vs⟩with
 |false=>
  rw[hok]at HV
  simpa using xD aA aB free step aE aF aC aG id p n cap q m c2 w _ HX HV
 |true=>
  rw[hok]at HV
  rcases kL id vs with⟨hx,hv⟩|⟨k,a1,a2,a3,hk,hx,hv,hf⟩
  ·rw[hx]at HX
   rw[hv]
   simpa using aAg aA aB free step aE aF aC aG id p n cap q m c2 w HX HV
  ·rw[hx]at HX
   rw[hf]
   simpa using xA aA aB free step aE aF aC aG id p n cap q m c2 w k a1 a2 a3 vs hv (by omega) hi.vs.bd hi.vs HX HV
theorem aE9 (aA aB free step aE aF aC aG id:Int)(p:OA)(n cap:Nat)(q:OA)(m c2:Nat)(w:World)
  (HST:xC 44 #[.agg #[aA,aB,.slice p n cap,free,step,aE,aF,aC,aG,.slice q m c2],id] w fun w' e w''=>e= .returned (.tuple #[.agg #[(),(),()],.bool false])∧Ext w' w''):
  Calls Tryz.prog 32 #[.agg #[aA,aB,.slice p n cap,free,step,aE,aF,aC,aG,.slice q m c2],id] w fun e w'=>e= .returned (.int .i64 (-1))∧Ext w w':=by
 go_enter Tryz.func32,Tryz.ntmps32
 go_wp2_with fail
 refine(HST.out _ (by exact .alloc (.refl _) _)).mono ?_
 rintro e w1 ⟨rfl,hh1⟩
 have BA1:Blk w1 w.heap.size 35 #[aA,aB,.slice p n cap,free,step,aE,aF,aC,aG,.slice q m c2]:=(Blk.new w _ _).ext hh1
 have X1:Ext w w1:=((Ext.refl w).alloc _).trans hh1
 have s1:w.heap.size<w1.heap.size:=BA1.lt
 replace BA1:=xQ BA1
 clear hh1
 obtain⟨e1_0,e1_1,e1_2,e1_3,e1_4,e1_5,e1_6,e1_7,e1_8,e1_9⟩:=(BA1.out).ten
 go_wp2
 go_ret
 exact⟨rfl,by exact .alloc X1 _⟩
theorem aBm (aA aB free step aE aF aC aG id:Int)(p:OA)(n cap:Nat)(q:OA)(m c2:Nat)(w:World)(a1 a2 a3:Int)(D:Int)
  (HST:xC 44 #[.agg #[aA,aB,.slice p n cap,free,step,aE,aF,aC,aG,.slice q m c2],id] w fun w' e w''=>e= .returned (.tuple #[.agg #[a1,a2,a3],.bool true])∧Ext w' w'')
  (HD:Hid (∀w',Calls Tryz.prog 84 #[aR free step aE aF,bL a1 a2 a3,aC] w' fun e w''=>e= .returned (.int .i64 D)∧Ext w' w'')):
  Calls Tryz.prog 32 #[.agg #[aA,aB,.slice p n cap,free,step,aE,aF,aC,aG,.slice q m c2],id] w fun e w'=>e= .returned (.int .i64 D)∧Ext w w':=by
 go_enter Tryz.func32,Tryz.ntmps32
 go_wp2_with fail
 refine(HST.out _ (by exact .alloc (.refl _) _)).mono ?_
 rintro e w1 ⟨rfl,hh1⟩
 have BA1:Blk w1 w.heap.size 35 #[aA,aB,.slice p n cap,free,step,aE,aF,aC,aG,.slice q m c2]:=(Blk.new w _ _).ext hh1
 have X1:Ext w w1:=((Ext.refl w).alloc _).trans hh1
 have s1:w.heap.size<w1.heap.size:=BA1.lt
 replace BA1:=xQ BA1
 clear hh1
 obtain⟨e1_0,e1_1,e1_2,e1_3,e1_4,e1_5,e1_6,e1_7,e1_8,e1_9⟩:=(BA1.out).ten
 go_wp2_with fail
 refine(HD.out _).mono ?_
 rintro e w2 ⟨rfl,hh2⟩
 go_wp2
 go_ret
 exact⟨rfl,by exact .trans (.alloc X1 _) hh2⟩
theorem aE7 (aA aB free step aE aF aC aG id:Int)(p:OA)(n cap:Nat)(q:OA)(m c2:Nat)(w:World)
  (HST:xC 44 #[.agg #[aA,aB,.slice p n cap,free,step,aE,aF,aC,aG,.slice q m c2],id] w fun w' e w''=>e= .returned (.tuple #[.agg #[(),(),()],.bool false])∧Ext w' w''):
  Calls Tryz.prog 115 #[.agg #[aA,aB,.slice p n cap,free,step,aE,aF,aC,aG,.slice q m c2],id] w fun e w'=>e= .returned (.bool false)∧Ext w w':=by
 go_enter Tryz.func115,Tryz.ntmps115
 go_wp2_with fail
 refine(HST.out _ (by exact .alloc (.refl _) _)).mono ?_
 rintro e w1 ⟨rfl,hh1⟩
 have BA1:Blk w1 w.heap.size 35 #[aA,aB,.slice p n cap,free,step,aE,aF,aC,aG,.slice q m c2]:=(Blk.new w _ _).ext hh1
 have X1:Ext w w1:=((Ext.refl w).alloc _).trans hh1
 have s1:w.heap.size<w1.heap.size:=BA1.lt
 replace BA1:=xQ BA1
 clear hh1
 obtain⟨e1_0,e1_1,e1_2,e1_3,e1_4,e1_5,e1_6,e1_7,e1_8,e1_9⟩:=(BA1.out).ten
 go_wp2
 go_ret
 exact⟨rfl,by exact .alloc X1 _⟩
theorem aBk (aA aB free step aE aF aC aG id:Int)(p:OA)(n cap:Nat)(q:OA)(m c2:Nat)(w:World)(a1 a2 a3:Int)(D:Bool)
  (HST:xC 44 #[.agg #[aA,aB,.slice p n cap,free,step,aE,aF,aC,aG,.slice q m c2],id] w fun w' e w''=>e= .returned (.tuple #[.agg #[a1,a2,a3],.bool true])∧Ext w' w'')
  (HD:Hid (∀w',Calls Tryz.prog 150 #[aR free step aE aF,bL a1 a2 a3,aC] w' fun e w''=>e= .returned (.bool D)∧Ext w' w'')):
  Calls Tryz.prog 115 #[.agg #[aA,aB,.slice p n cap,free,step,aE,aF,aC,aG,.slice q m c2],id] w fun e w'=>e= .returned (.bool D)∧Ext w w':=by
 go_enter Tryz.func115,Tryz.ntmps115
 go_wp2_with fail
 refine(HST.out _ (by exact .alloc (.refl _) _)).mono ?_
 rintro e w1 ⟨rfl,hh1⟩
 have BA1:Blk w1 w.heap.size 35 #[aA,aB,.slice p n cap,free,step,aE,aF,aC,aG,.slice q m c2]:=(Blk.new w _ _).ext hh1
 have X1:Ext w w1:=((Ext.refl w).alloc _).trans hh1
 have s1:w.heap.size<w1.heap.size:=BA1.lt
 replace BA1:=xQ BA1
 clear hh1
 obtain⟨e1_0,e1_1,e1_2,e1_3,e1_4,e1_5,e1_6,e1_7,e1_8,e1_9⟩:=(BA1.out).ten
 go_wp2_with fail
 refine(HD.out _).mono ?_
 rintro e w2 ⟨rfl,hh2⟩
 go_wp2
 go_ret
 exact⟨rfl,by exact .trans (.alloc X1 _) hh2⟩
theorem aDc (aA aB free step aE aF aC aG id:Int)(p:OA)(n cap:Nat)(q:OA)(m c2:Nat)(w:World)
  (HST:xC 125 #[.agg #[aA,aB,.slice p n cap,free,step,aE,aF,aC,aG,.slice q m c2],id] w fun w' e w''=>e= .returned (.tuple #[.agg #[(),(),()],.bool false])∧Ext w' w''):
  Calls Tryz.prog 85 #[.agg #[aA,aB,.slice p n cap,free,step,aE,aF,aC,aG,.slice q m c2],id] w fun e w'=>e= .returned (.int .i64 (-1))∧Ext w w':=by
 go_enter Tryz.func85,Tryz.ntmps85
 go_wp2_with fail
 refine(HST.out _ (by exact .alloc (.refl _) _)).mono ?_
 rintro e w1 ⟨rfl,hh1⟩
 have BA1:Blk w1 w.heap.size 35 #[aA,aB,.slice p n cap,free,step,aE,aF,aC,aG,.slice q m c2]:=(Blk.new w _ _).ext hh1
 have X1:Ext w w1:=((Ext.refl w).alloc _).trans hh1
 have s1:w.heap.size<w1.heap.size:=BA1.lt
 replace BA1:=xQ BA1
 clear hh1
 obtain⟨e1_0,e1_1,e1_2,e1_3,e1_4,e1_5,e1_6,e1_7,e1_8,e1_9⟩:=(BA1.out).ten
 go_wp2
 go_ret
 exact⟨rfl,by exact .alloc X1 _⟩
theorem aAm (aA aB free step aE aF aC aG id:Int)(p:OA)(n cap:Nat)(q:OA)(m c2:Nat)(w:World)(a1 a2 a3:Int)(D:Int)
  (HST:xC 125 #[.agg #[aA,aB,.slice p n cap,free,step,aE,aF,aC,aG,.slice q m c2],id] w fun w' e w''=>e= .returned (.tuple #[.agg #[a1,a2,a3],.bool true])∧Ext w' w'')
  (HD:Hid (∀w',Calls Tryz.prog 133 #[aR free step aE aF,bL a1 a2 a3,aC] w' fun e w''=>e= .returned (.int .i64 D)∧Ext w' w'')):
  Calls Tryz.prog 85 #[.agg #[aA,aB,.slice p n cap,free,step,aE,aF,aC,aG,.slice q m c2],id] w fun e w'=>e= .returned (.int .i64 D)∧Ext w w':=by
 go_enter Tryz.func85,Tryz.ntmps85
 go_wp2_with fail
 refine(HST.out _ (by exact .alloc (.refl _) _)).mono ?_
 rintro e w1 ⟨rfl,hh1⟩
 have BA1:Blk w1 w.heap.size 35 #[aA,aB,.slice p n cap,free,step,aE,aF,aC,aG,.slice q m c2]:=(Blk.new w _ _).ext hh1
 have X1:Ext w w1:=((Ext.refl w).alloc _).trans hh1
 have s1:w.heap.size<w1.heap.size:=BA1.lt
 replace BA1:=xQ BA1
 clear hh1
 obtain⟨e1_0,e1_1,e1_2,e1_3,e1_4,e1_5,e1_6,e1_7,e1_8,e1_9⟩:=(BA1.out).ten
 go_wp2_with fail
 refine(HD.out _).mono ?_
 rintro e w2 ⟨rfl,hh2⟩
 go_wp2
 go_ret
 exact⟨rfl,by exact .trans (.alloc X1 _) hh2⟩
theorem aDa (aA aB free step aE aF aC aG id:Int)(p:OA)(n cap:Nat)(q:OA)(m c2:Nat)(w:World)
  (HST:xC 125 #[.agg #[aA,aB,.slice p n cap,free,step,aE,aF,aC,aG,.slice q m c2],id] w fun w' e w''=>e= .returned (.tuple #[.agg #[(),(),()],.bool false])∧Ext w' w''):
  Calls Tryz.prog 76 #[.agg #[aA,aB,.slice p n cap,free,step,aE,aF,aC,aG,.slice q m c2],id] w fun e w'=>e= .returned (.bool false)∧Ext w w':=by
 go_enter Tryz.func76,Tryz.ntmps76
 go_wp2_with fail
 refine(HST.out _ (by exact .alloc (.refl _) _)).mono ?_
 rintro e w1 ⟨rfl,hh1⟩
 have BA1:Blk w1 w.heap.size 35 #[aA,aB,.slice p n cap,free,step,aE,aF,aC,aG,.slice q m c2]:=(Blk.new w _ _).ext hh1
 have X1:Ext w w1:=((Ext.refl w).alloc _).trans hh1
 have s1:w.heap.size<w1.heap.size:=BA1.lt
 replace BA1:=xQ BA1
 clear hh1
 obtain⟨e1_0,e1_1,e1_2,e1_3,e1_4,e1_5,e1_6,e1_7,e1_8,e1_9⟩:=(BA1.out).ten
 go_wp2
 go_ret
 exact⟨rfl,by exact .alloc X1 _⟩
theorem aAj (aA aB free step aE aF aC aG id:Int)(p:OA)(n cap:Nat)(q:OA)(m c2:Nat)(w:World)(a1 a2 a3:Int)(D:Bool)
  (HST:xC 125 #[.agg #[aA,aB,.slice p n cap,free,step,aE,aF,aC,aG,.slice q m c2],id] w fun w' e w''=>e= .returned (.tuple #[.agg #[a1,a2,a3],.bool true])∧Ext w' w'')
  (HD:Hid (∀w',Calls Tryz.prog 126 #[aR free step aE aF,bL a1 a2 a3,aC] w' fun e w''=>e= .returned (.bool D)∧Ext w' w'')):
  Calls Tryz.prog 76 #[.agg #[aA,aB,.slice p n cap,free,step,aE,aF,aC,aG,.slice q m c2],id] w fun e w'=>e= .returned (.bool D)∧Ext w w':=by
 go_enter Tryz.func76,Tryz.ntmps76
 go_wp2_with fail
 refine(HST.out _ (by exact .alloc (.refl _) _)).mono ?_
 rintro e w1 ⟨rfl,hh1⟩
 have BA1:Blk w1 w.heap.size 35 #[aA,aB,.slice p n cap,free,step,aE,aF,aC,aG,.slice q m c2]:=(Blk.new w _ _).ext hh1
 have X1:Ext w w1:=((Ext.refl w).alloc _).trans hh1
 have s1:w.heap.size<w1.heap.size:=BA1.lt
 replace BA1:=xQ BA1
 clear hh1
 obtain⟨e1_0,e1_1,e1_2,e1_3,e1_4,e1_5,e1_6,e1_7,e1_8,e1_9⟩:=(BA1.out).ten
 go_wp2_with fail
 refine(HD.out _).mono ?_
 rintro e w2 ⟨rfl,hh2⟩
 go_wp2
 go_ret
 exact⟨rfl,by exact .trans (.alloc X1 _) hh2⟩
theorem mH {h:aT}{id a1 a2 a3:Int}(hs:dB h id=some (a1,a2,a3)):bH h.free h.step h.aE h.aF=true∧cP a1 a2 a3=true∧a3≤h.aC∧h.aC≤9999:=by
 unfold dB at hs
 split at hs
 ·rename_i hok
  rw[Option.map_eq_some_iff]at hs
  obtain⟨v,hv,e⟩:=hs
  have hm:=List.mem_of_find?_eq_some hv
  simp only[bK,iV,Bool.and_eq_true,decide_eq_true_eq]at hok
  have:=(iX hok.2).2 v hm
  obtain⟨v0,v1,v2,v3⟩:=v
  simp only[Prod.mk.injEq]at e
  obtain⟨rfl,rfl,rfl⟩:=e
  simp only[eM,Bool.and_eq_true,decide_eq_true_eq]at this
  exact⟨hok.1.1.2,this.1,this.2,hok.1.2.2.1⟩
 ·simp at hs
theorem vW (h:aT)(id:Int)(p:OA)(n cap:Nat)(q:OA)(m c2:Nat)(w:World)(hi:IsHouse w h p n cap q m c2):
  Calls Tryz.prog 32 #[bS h p n cap q m c2,id] w fun e w'=>e= .returned (.int .i64 (cT h id))∧Ext w w':=by
 have HST:=fun(w':World) (hx:Ext w w')=>aCi h id p n cap q m c2 w' (hi.ext hx)
 unfold qD at HST
 unfold cT
 cases hs:dB h id with
 |none=>
  rw[hs]at HST
  exact aE9 h.aA h.aB h.free h.step h.aE h.aF h.aC h.aG id p n cap q m c2 w HST
 |some s=>
  obtain⟨a1,a2,a3⟩:=s
  rw[hs]at HST
  obtain⟨t,st,hc,h9⟩:=mH hs
  exact aBm h.aA h.aB h.free h.step h.aE h.aF h.aC h.aG id p n cap q m c2 w a1 a2 a3 _ HST (fun w'=>vT h.free h.step h.aE h.aF a1 a2 a3 h.aC w' t st hc h9)
theorem vU (h:aT)(id:Int)(p:OA)(n cap:Nat)(q:OA)(m c2:Nat)(w:World)(hi:IsHouse w h p n cap q m c2):
  Calls Tryz.prog 115 #[bS h p n cap q m c2,id] w fun e w'=>e= .returned (.bool (eC h id))∧Ext w w':=by
 have HST:=fun(w':World) (hx:Ext w w')=>aCi h id p n cap q m c2 w' (hi.ext hx)
 unfold qD at HST
 unfold eC
 cases hs:dB h id with
 |none=>
  rw[hs]at HST
  exact aE7 h.aA h.aB h.free h.step h.aE h.aF h.aC h.aG id p n cap q m c2 w HST
 |some s=>
  obtain⟨a1,a2,a3⟩:=s
  rw[hs]at HST
  obtain⟨t,st,hc,h9⟩:=mH hs
  exact aBk h.aA h.aB h.free h.step h.aE h.aF h.aC h.aG id p n cap q m c2 w a1 a2 a3 _ HST (fun w'=>aIw h.free h.step h.aE h.aF a1 a2 a3 h.aC w' t st hc h9)
theorem vC (h:aT)(id:Int)(p:OA)(n cap:Nat)(q:OA)(m c2:Nat)(w:World)(hi:IsHouse w h p n cap q m c2):
  Calls Tryz.prog 85 #[bS h p n cap q m c2,id] w fun e w'=>e= .returned (.int .i64 (cT h id))∧Ext w w':=by
 have HST:=fun(w':World) (hx:Ext w w')=>aCd h id p n cap q m c2 w' (hi.ext hx)
 unfold qD at HST
 unfold cT
 cases hs:dB h id with
 |none=>
  rw[hs]at HST
  exact aDc h.aA h.aB h.free h.step h.aE h.aF h.aC h.aG id p n cap q m c2 w HST
 |some s=>
  obtain⟨a1,a2,a3⟩:=s
  rw[hs]at HST
  obtain⟨t,st,hc,h9⟩:=mH hs
  exact aAm h.aA h.aB h.free h.step h.aE h.aF h.aC h.aG id p n cap q m c2 w a1 a2 a3 _ HST (fun w'=>uY h.free h.step h.aE h.aF a1 a2 a3 h.aC w' t st hc h9)
theorem vA (h:aT)(id:Int)(p:OA)(n cap:Nat)(q:OA)(m c2:Nat)(w:World)(hi:IsHouse w h p n cap q m c2):
  Calls Tryz.prog 76 #[bS h p n cap q m c2,id] w fun e w'=>e= .returned (.bool (eC h id))∧Ext w w':=by
 have HST:=fun(w':World) (hx:Ext w w')=>aCd h id p n cap q m c2 w' (hi.ext hx)
 unfold qD at HST
 unfold eC
 cases hs:dB h id with
 |none=>
  rw[hs]at HST
  exact aDa h.aA h.aB h.free h.step h.aE h.aF h.aC h.aG id p n cap q m c2 w HST
 |some s=>
  obtain⟨a1,a2,a3⟩:=s
  rw[hs]at HST
  obtain⟨t,st,hc,h9⟩:=mH hs
  exact aAj h.aA h.aB h.free h.step h.aE h.aF h.aC h.aG id p n cap q m c2 w a1 a2 a3 _ HST (fun w'=>aIk h.free h.step h.aE h.aF a1 a2 a3 h.aC w' t st hc h9)
abbrev THD:TypeId:=55
theorem vG (aA aB free step aE aF aC aG kind one two:Int)(p:OA)(n cap:Nat)(q:OA)(m c2:Nat)(xs:List Int)(vs:List aQ)(w:World)(h0:kind≠0)(h1:kind≠1)(h2:kind≠2)(h3:kind≠3)(h4:kind≠4)
  (HVd:xB 40 #[.agg #[aA,aB,.slice p n cap,free,step,aE,aF,aC,aG,.slice q m c2]] w true)
  (HL:xC 60 #[.agg #[aA,aB,.slice p n cap,free,step,aE,aF,aC,aG,.slice q m c2]] w fun w' e w''=> ∃p' cap' q' c2',e= .returned (.agg #[aA,aB,.slice p' n cap',free,step,aE,aF,aC,aG,.slice q' m c2'])∧w''.ownsRow w'.heap.size TI 1 (.slice p' n cap') n (ivs xs)∧w''.ownsRow w'.heap.size TV 4 (.slice q' m c2') m (vs.flatMap aD)∧Ext w' w''):
  Calls Tryz.prog 28 #[.agg #[aA,aB,.slice p n cap,free,step,aE,aF,aC,aG,.slice q m c2],.agg #[kind,one,two]] w fun e w'=> ∃p' cap' q' c2',e= .returned (.tuple #[.agg #[aA,aB,.slice p' n cap',free,step,aE,aF,aC,aG,.slice q' m c2'],(-1:Int),.bool false])∧w'.ownsRow w.heap.size TI 1 (.slice p' n cap') n (ivs xs)∧w'.ownsRow w.heap.size TV 4 (.slice q' m c2') m (vs.flatMap aD)∧Ext w w':=by
 go_enter Tryz.func28,Tryz.ntmps28
 go_wp2_with fail
 refine(HVd.out _ (Mem.b3 w).ext).mono ?_
 rintro e w1 ⟨rfl,hx1⟩
 have M1:=xQ ((Mem.b3 w).adv hx1)
 have lt1_0:=M1.out.hi 0
 have lt1_1:=M1.out.hi 1
 have lt1_2:=M1.out.hi 2
 clear hx1 HVd
 obtain⟨ce0,ce1,ce2,ce3,ce4,ce5,ce6,ce7,ce8,ce9⟩:=(M1.out.blk (i:=2) rfl).ten
 go_wp2_with fail
 clear ce0 ce1 ce2 ce3 ce4 ce5 ce6 ce7 ce8 ce9
 refine(HL.out _ (M1.out).ext).mono ?_
 rintro e w2 ⟨p1,cp1,q1,cq1,rfl,ho,hq,hx⟩
 have M2:=xQ ((M1.out).own2 hx ho hq (Nat.le_refl _) (by decide))
 clear M1 lt1_0 lt1_1 lt1_2
 have lt2_2:=M2.out.hi 2
 have lt2_3:=M2.out.hi 3
 have lt2_4:=M2.out.hi 4
 clear hx ho hq
 obtain⟨ce0,ce1,ce2,ce3,ce4,ce5,ce6,ce7,ce8,ce9⟩:=(M2.out.blk (i:=4) rfl).ten
 have de0:w2.cell? ⟨w.heap.size+1,0,none⟩=some (.int .i64 kind):=(M2.out.blk (i:=3) rfl).cell 0
 have k0:(kind==0)=false:=by simp;omega
 have k1:(kind==1)=false:=by simp;omega
 have k2:(kind==2)=false:=by simp;omega
 have k3:(kind==3)=false:=by simp;omega
 have k4:(kind==4)=false:=by simp;omega
 go_wp2_with fail
 clear ce0 ce1 ce2 ce3 ce4 ce5 ce6 ce7 ce8 ce9 de0
 refine(HL.out _ (((M2.out).blkNew aO #[aA,aB,.slice p1 n cp1,free,step,aE,aF,aC,aG,.slice q1 m cq1] (w2.heap.size) (by simp))).ext).mono ?_
 rintro e w9 ⟨p9,cp9,q9,cq9,rfl,ho,hq,hx⟩
 have M3:=xQ ((((M2.out).blkNew aO #[aA,aB,.slice p1 n cp1,free,step,aE,aF,aC,aG,.slice q1 m cq1] (w2.heap.size) (by simp))).own2 hx ho hq (Nat.le_refl _) (by decide))
 clear M2 lt2_2 lt2_3 lt2_4
 have lt3_2:=M3.out.hi 2
 have lt3_5:=M3.out.hi 5
 have lt3_6:=M3.out.hi 6
 have lt3_7:=M3.out.hi 7
 clear hx ho hq HL
 obtain⟨f0,ff0,f1,ff1,f2,ff2,f3,ff3,f4,ff4,f5,ff5,f6,ff6,f7,ff7,f8,ff8,f9,ff9⟩:=(M3.out.blk (i:=5) rfl).tenf
 go_wp2
 clear f0 ff0 f1 ff1 f2 ff2 f3 ff3 f4 ff4 f5 ff5 f6 ff6 f7 ff7 f8 ff8 f9 ff9 lt3_2 lt3_5 lt3_6 lt3_7
 have M4:=xQ (((M3.out).put10 (i:=5) rfl (.int .i64 aA) (.int .i64 aB) (.slice p9 n cp9) (.int .i64 free) (.int .i64 step) (.int .i64 aE) (.int .i64 aF) (.int .i64 aC) (.int .i64 aG) (.slice q9 m cq9)))
 generalize hwz:World.setCell _ _ _=wz
 rw[hwz]at M4
 clear hwz M3
 obtain⟨y0,y1,y2,y3,y4,y5,y6,y7,y8,y9⟩:=(M4.out.blk (i:=5) rfl).ten
 exact bodyPost_ret (v:= .tuple #[.agg #[aA,aB,.slice p9 n cp9,free,step,aE,aF,aC,aG,.slice q9 m cq9],(-1:Int),.bool false]) (by simp[results,Tryz.results28,go_sem, *]) rfl ⟨p9,cp9,q9,cq9,rfl,(M4.out.own (i:=0) rfl),(M4.out.own (i:=1) rfl),M4.out.ext⟩
theorem qN (aA aB free step aE aF aC aG one two:Int)(p:OA)(n cap:Nat)(q:OA)(m c2:Nat)(xs:List Int)(vs:List aQ)(w:World)(hc:0≤aC)(hc2:aC≤9999)(h1:1≤one)(h2:one≤9999-aC)
  (HVd:xB 40 #[.agg #[aA,aB,.slice p n cap,free,step,aE,aF,aC,aG,.slice q m c2]] w true)
  (HL:xC 60 #[.agg #[aA,aB,.slice p n cap,free,step,aE,aF,aC,aG,.slice q m c2]] w fun w' e w''=> ∃p' cap' q' c2',e= .returned (.agg #[aA,aB,.slice p' n cap',free,step,aE,aF,aC,aG,.slice q' m c2'])∧w''.ownsRow w'.heap.size TI 1 (.slice p' n cap') n (ivs xs)∧w''.ownsRow w'.heap.size TV 4 (.slice q' m c2') m (vs.flatMap aD)∧Ext w' w'')
  (HI:Hid (∀w',Calls Tryz.prog 77 #[one,.int .i64 1,(9999-aC:Int)] w' fun e w''=>e= .returned (.bool true)∧w'=w'')):
  Calls Tryz.prog 28 #[.agg #[aA,aB,.slice p n cap,free,step,aE,aF,aC,aG,.slice q m c2],.agg #[.int .i64 3,one,two]] w fun e w'=> ∃p' cap' q' c2',e= .returned (.tuple #[.agg #[aA,aB,.slice p' n cap',free,step,aE,aF,(aC+one:Int),aG,.slice q' m c2'],(aC+one:Int),.bool true])∧w'.ownsRow w.heap.size TI 1 (.slice p' n cap') n (ivs xs)∧w'.ownsRow w.heap.size TV 4 (.slice q' m c2') m (vs.flatMap aD)∧Ext w w':=by
 go_enter Tryz.func28,Tryz.ntmps28
 go_wp2_with fail
 refine(HVd.out _ (Mem.b3 w).ext).mono ?_
 rintro e w1 ⟨rfl,hx1⟩
 have M1:=xQ ((Mem.b3 w).adv hx1)
 have lt1_0:=M1.out.hi 0
 have lt1_1:=M1.out.hi 1
 have lt1_2:=M1.out.hi 2
 clear hx1 HVd
 obtain⟨ce0,ce1,ce2,ce3,ce4,ce5,ce6,ce7,ce8,ce9⟩:=(M1.out.blk (i:=2) rfl).ten
 go_wp2_with fail
 clear ce0 ce1 ce2 ce3 ce4 ce5 ce6 ce7 ce8 ce9
 refine(HL.out _ (M1.out).ext).mono ?_
 rintro e w2 ⟨p1,cp1,q1,cq1,rfl,ho,hq,hx⟩
 have M2:=xQ ((M1.out).own2 hx ho hq (Nat.le_refl _) (by decide))
 clear M1 lt1_0 lt1_1 lt1_2
 have lt2_2:=M2.out.hi 2
 have lt2_3:=M2.out.hi 3
 have lt2_4:=M2.out.hi 4
 clear hx ho hq
 obtain⟨ce0,ce1,ce2,ce3,ce4,ce5,ce6,ce7,ce8,ce9⟩:=(M2.out.blk (i:=4) rfl).ten
 obtain⟨de0,de1,de2⟩:=(M2.out.blk (i:=3) rfl).tri
 have k1:IntKind.i64.wrap (9999-aC)=9999-aC:=IntWalk.i64_in _ (by omega)
 go_wp2_with fail
 refine(HI.out _).mono ?_
 rintro e _ ⟨rfl,rfl⟩
 clear HI k1 ce0 ce1 ce2 ce3 ce4 ce5 ce6 ce7 ce8 ce9 de0 de1 de2
 have M3:=xQ (((M2.out).blkNew aO #[aA,aB,.slice p1 n cp1,free,step,aE,aF,aC,aG,.slice q1 m cq1] (w2.heap.size) (by simp)))
 generalize (w2.alloc (.cells #[aA,aB,.slice p1 n cp1,free,step,aE,aF,aC,aG,.slice q1 m cq1] aO))=w3 at M3⊢
 clear M2 lt2_2 lt2_3 lt2_4
 have lt3_0:=M3.out.hi 0
 have lt3_3:=M3.out.hi 3
 have lt3_4:=M3.out.hi 4
 have lt3_5:=M3.out.hi 5
 have ce7:w3.cell? ⟨w.heap.size,7,none⟩=some (.int .i64 aC):=(M3.out.blk (i:=5) rfl).cell 7
 have de1:w3.cell? ⟨w.heap.size+1,1,none⟩=some (.int .i64 one):=(M3.out.blk (i:=4) rfl).cell 1
 obtain⟨d0,df0,d1,df1,d2,df2,d3,df3,d4,df4,d5,df5,d6,df6,d7,df7,d8,df8,d9,df9⟩:=(M3.out.blk (i:=0) rfl).tenf
 obtain⟨f0,ff0,f1,ff1,f2,ff2,f3,ff3,f4,ff4,f5,ff5,f6,ff6,f7,ff7,f8,ff8,f9,ff9⟩:=(M3.out.blk (i:=3) rfl).tenf
 have ne0_1a: ¬(w.heap.size+1=w.heap.size):=M3.out.ne (i:=4) (j:=5) (by omega) rfl rfl rfl rfl
 have ne0_1b: ¬(w.heap.size=w.heap.size+1):=fun h=>ne0_1a h.symm
 have ne0_2a: ¬(w.heap.size+1+1=w.heap.size):=M3.out.ne (i:=3) (j:=5) (by omega) rfl rfl rfl rfl
 have ne0_2b: ¬(w.heap.size=w.heap.size+1+1):=fun h=>ne0_2a h.symm
 have ne0_3a: ¬(w2.heap.size=w.heap.size):=M3.out.ne (i:=0) (j:=5) (by omega) rfl rfl rfl rfl
 have ne0_3b: ¬(w.heap.size=w2.heap.size):=fun h=>ne0_3a h.symm
 have ne1_2a: ¬(w.heap.size+1+1=w.heap.size+1):=M3.out.ne (i:=3) (j:=4) (by omega) rfl rfl rfl rfl
 have ne1_2b: ¬(w.heap.size+1=w.heap.size+1+1):=fun h=>ne1_2a h.symm
 have ne1_3a: ¬(w2.heap.size=w.heap.size+1):=M3.out.ne (i:=0) (j:=4) (by omega) rfl rfl rfl rfl
 have ne1_3b: ¬(w.heap.size+1=w2.heap.size):=fun h=>ne1_3a h.symm
 have ne2_3a: ¬(w2.heap.size=w.heap.size+1+1):=M3.out.ne (i:=0) (j:=3) (by omega) rfl rfl rfl rfl
 have ne2_3b: ¬(w.heap.size+1+1=w2.heap.size):=fun h=>ne2_3a h.symm
 have k2:IntKind.i64.wrap (aC+one)=aC+one:=IntWalk.i64_in _ (by omega)
 have hd:decide (aC+one<0)=false:=by simp;omega
 clear HL
 have M4:=xQ (((M3.out).st 0 7 (.int .i64 (aC+one))))
 go_wp2
 clear ce7 de1 d0 df0 d1 df1 d2 df2 d3 df3 d4 df4 d5 df5 d6 df6 d7 df7 d8 df8 d9 df9 f0 ff0 f1 ff1 f2 ff2 f3 ff3 f4 ff4 f5 ff5 f6 ff6 f7 ff7 f8 ff8 f9 ff9 ne0_1a ne0_1b ne0_2a ne0_2b ne0_3a ne0_3b ne1_2a ne1_2b ne1_3a ne1_3b ne2_3a ne2_3b lt3_0 lt3_3 lt3_4 lt3_5
 have M5:=xQ (((M4.out).put10 (i:=3) rfl (.int .i64 aA) (.int .i64 aB) (.slice p1 n cp1) (.int .i64 free) (.int .i64 step) (.int .i64 aE) (.int .i64 aF) (.int .i64 (aC+one)) (.int .i64 aG) (.slice q1 m cq1)))
 generalize hwz:World.setCell _ _ _=wz
 rw[hwz]at M5
 clear hwz M3 M4
 obtain⟨y0,y1,y2,y3,y4,y5,y6,y7,y8,y9⟩:=(M5.out.blk (i:=3) rfl).ten
 exact bodyPost_ret (v:= .tuple #[.agg #[aA,aB,.slice p1 n cp1,free,step,aE,aF,(aC+one:Int),aG,.slice q1 m cq1],(aC+one:Int),.bool true]) (by simp[results,Tryz.results28,go_sem, *]) rfl ⟨p1,cp1,q1,cq1,rfl,(M5.out.own (i:=1) rfl),(M5.out.own (i:=2) rfl),M5.out.ext⟩
theorem rG (aA aB free step aE aF aC aG one two:Int)(p:OA)(n cap:Nat)(q:OA)(m c2:Nat)(xs:List Int)(vs:List aQ)(w:World)(hc:0≤aC)(hc2:aC≤9999)
  (HVd:xB 40 #[.agg #[aA,aB,.slice p n cap,free,step,aE,aF,aC,aG,.slice q m c2]] w true)
  (HL:xC 60 #[.agg #[aA,aB,.slice p n cap,free,step,aE,aF,aC,aG,.slice q m c2]] w fun w' e w''=> ∃p' cap' q' c2',e= .returned (.agg #[aA,aB,.slice p' n cap',free,step,aE,aF,aC,aG,.slice q' m c2'])∧w''.ownsRow w'.heap.size TI 1 (.slice p' n cap') n (ivs xs)∧w''.ownsRow w'.heap.size TV 4 (.slice q' m c2') m (vs.flatMap aD)∧Ext w' w'')
  (HI:Hid (∀w',Calls Tryz.prog 77 #[one,.int .i64 1,(9999-aC:Int)] w' fun e w''=>e= .returned (.bool false)∧w'=w'')):
  Calls Tryz.prog 28 #[.agg #[aA,aB,.slice p n cap,free,step,aE,aF,aC,aG,.slice q m c2],.agg #[.int .i64 3,one,two]] w fun e w'=> ∃p' cap' q' c2',e= .returned (.tuple #[.agg #[aA,aB,.slice p' n cap',free,step,aE,aF,aC,aG,.slice q' m c2'],(-1:Int),.bool false])∧w'.ownsRow w.heap.size TI 1 (.slice p' n cap') n (ivs xs)∧w'.ownsRow w.heap.size TV 4 (.slice q' m c2') m (vs.flatMap aD)∧Ext w w':=by
 go_enter Tryz.func28,Tryz.ntmps28
 go_wp2_with fail
 refine(HVd.out _ (Mem.b3 w).ext).mono ?_
 rintro e w1 ⟨rfl,hx1⟩
 have M1:=xQ ((Mem.b3 w).adv hx1)
 have lt1_0:=M1.out.hi 0
 have lt1_1:=M1.out.hi 1
 have lt1_2:=M1.out.hi 2
 clear hx1 HVd
 obtain⟨ce0,ce1,ce2,ce3,ce4,ce5,ce6,ce7,ce8,ce9⟩:=(M1.out.blk (i:=2) rfl).ten
 go_wp2_with fail
 clear ce0 ce1 ce2 ce3 ce4 ce5 ce6 ce7 ce8 ce9
 refine(HL.out _ (M1.out).ext).mono ?_
 rintro e w2 ⟨p1,cp1,q1,cq1,rfl,ho,hq,hx⟩
 have M2:=xQ ((M1.out).own2 hx ho hq (Nat.le_refl _) (by decide))
 clear M1 lt1_0 lt1_1 lt1_2
 have lt2_2:=M2.out.hi 2
 have lt2_3:=M2.out.hi 3
 have lt2_4:=M2.out.hi 4
 clear hx ho hq
 obtain⟨ce0,ce1,ce2,ce3,ce4,ce5,ce6,ce7,ce8,ce9⟩:=(M2.out.blk (i:=4) rfl).ten
 obtain⟨de0,de1,de2⟩:=(M2.out.blk (i:=3) rfl).tri
 have k1:IntKind.i64.wrap (9999-aC)=9999-aC:=IntWalk.i64_in _ (by omega)
 go_wp2_with fail
 refine(HI.out _).mono ?_
 rintro e _ ⟨rfl,rfl⟩
 clear HI k1 ce0 ce1 ce2 ce3 ce4 ce5 ce6 ce7 ce8 ce9 de0 de1 de2
 have M3:=xQ (((M2.out).blkNew aO #[aA,aB,.slice p1 n cp1,free,step,aE,aF,aC,aG,.slice q1 m cq1] (w2.heap.size) (by simp)))
 generalize (w2.alloc (.cells #[aA,aB,.slice p1 n cp1,free,step,aE,aF,aC,aG,.slice q1 m cq1] aO))=w3 at M3⊢
 clear M2 lt2_2 lt2_3 lt2_4
 have lt3_0:=M3.out.hi 0
 have lt3_3:=M3.out.hi 3
 have lt3_4:=M3.out.hi 4
 have lt3_5:=M3.out.hi 5
 obtain⟨ce0,ce1,ce2,ce3,ce4,ce5,ce6,ce7,ce8,ce9⟩:=(M3.out.blk (i:=5) rfl).ten
 go_wp2_with fail
 clear ce0 ce1 ce2 ce3 ce4 ce5 ce6 ce7 ce8 ce9
 refine(HL.out _ (M3.out).ext).mono ?_
 rintro e w9 ⟨p9,cp9,q9,cq9,rfl,ho,hq,hx⟩
 have M4:=xQ ((M3.out).own2 hx ho hq (Nat.le_refl _) (by decide))
 clear M3 lt3_0 lt3_3 lt3_4 lt3_5
 have lt4_2:=M4.out.hi 2
 have lt4_5:=M4.out.hi 5
 have lt4_6:=M4.out.hi 6
 have lt4_7:=M4.out.hi 7
 clear hx ho hq HL
 obtain⟨f0,ff0,f1,ff1,f2,ff2,f3,ff3,f4,ff4,f5,ff5,f6,ff6,f7,ff7,f8,ff8,f9,ff9⟩:=(M4.out.blk (i:=5) rfl).tenf
 go_wp2
 clear f0 ff0 f1 ff1 f2 ff2 f3 ff3 f4 ff4 f5 ff5 f6 ff6 f7 ff7 f8 ff8 f9 ff9 lt4_2 lt4_5 lt4_6 lt4_7
 have M5:=xQ (((M4.out).put10 (i:=5) rfl (.int .i64 aA) (.int .i64 aB) (.slice p9 n cp9) (.int .i64 free) (.int .i64 step) (.int .i64 aE) (.int .i64 aF) (.int .i64 aC) (.int .i64 aG) (.slice q9 m cq9)))
 generalize hwz:World.setCell _ _ _=wz
 rw[hwz]at M5
 clear hwz M4
 obtain⟨y0,y1,y2,y3,y4,y5,y6,y7,y8,y9⟩:=(M5.out.blk (i:=5) rfl).ten
 exact bodyPost_ret (v:= .tuple #[.agg #[aA,aB,.slice p9 n cp9,free,step,aE,aF,aC,aG,.slice q9 m cq9],(-1:Int),.bool false]) (by simp[results,Tryz.results28,go_sem, *]) rfl ⟨p9,cp9,q9,cq9,rfl,(M5.out.own (i:=0) rfl),(M5.out.own (i:=1) rfl),M5.out.ext⟩
end Go.Proofs.YtgnkoffndhmhpaaGreatDoor
