/-
  Texts of this proof, packed (@packed).
-/
import Derived.Test.YtbgkcehffiogcaaGreatDoorV17
namespace Go.Proofs.YtbgkcehffiogcaaGreatDoor
open Go.RowKit Go.Proofs.Tryz
set_option linter.unusedSimpArgs false
set_option linter.unusedVariables false
set_option maxHeartbeats 8000000
set_option maxRecDepth 100000
def sI (h:aO)(id:Int):Value:=match cX h id with
 |some s=> .tuple #[.agg #[s.1,s.2.1,s.2.2],.bool true]
 |none=> .tuple #[.agg #[(),(),()],.bool false]
theorem zG (aA aB a b aE aF aC aG id:Int)(p:OA)(n c:Nat)(q:OA)(m c2:Nat)(w:World)
  (HV:xB 16 #[.agg #[aA,aB,.slice p n c,a,b,aE,aF,aC,aG,.slice q m c2]] w false):
  U 14 #[.agg #[aA,aB,.slice p n c,a,b,aE,aF,aC,aG,.slice q m c2],id] w (O (.tuple #[.agg #[(),(),()],.bool false]) w):=by
 go_enter func14,ntmps14;go_wp2_with fail;refine Z (HV _ (by exact .alloc (.alloc (.refl _) _) _)) fun w1 d=>?_
 have g:Blk w1 w 30 #[aA,aB,.slice p n c,a,b,aE,aF,aC,aG,.slice q m c2]:=((Blk.new w _ _).alloc _).ext d;have f:Blk w1 (w.heap.size+1) 46 #[(),(),()]:=by have:=(Blk.new (w.alloc (.cells #[aA,aB,.slice p n c,a,b,aE,aF,aC,aG,.slice q m c2] 30)) 46 #[(),(),()]).ext d;simpa using this
 have X1:Ext w w1:=(((Ext.refl w).alloc _).alloc _).trans d;replace g:=xQ g;replace f:=xQ f;clear d;obtain⟨k,h,l,i,o,j⟩:=f.out.trif;go_wp2;exact bodyPost_ret (v:= .tuple #[.agg #[(),(),()],.bool false]) (by simp[results,results14,go_sem, *]) rfl ⟨rfl,xE⟩
theorem aBo (aA aB a b aE aF aC aG id:Int)(p:OA)(n c:Nat)(q:OA)(m c2:Nat)(w:World)
  (HV:xB 16 #[.agg #[aA,aB,.slice p n c,a,b,aE,aF,aC,aG,.slice q m c2]] w true)
  (HX:xC 38 #[.agg #[aA,aB,.slice p n c,a,b,aE,aF,aC,aG,.slice q m c2],id] w fun w' e w''=>e= .returned (I (-1))∧Ext w' w''):
  U 14 #[.agg #[aA,aB,.slice p n c,a,b,aE,aF,aC,aG,.slice q m c2],id] w (O (.tuple #[.agg #[(),(),()],.bool false]) w):=by
 go_enter func14,ntmps14;go_wp2_with fail;refine Z (HV _ (by exact .alloc (.alloc (.refl _) _) _)) fun w1 g=>?_
 have d:Blk w1 w 30 #[aA,aB,.slice p n c,a,b,aE,aF,aC,aG,.slice q m c2]:=((Blk.new w _ _).alloc _).ext g;have f:Blk w1 (w.heap.size+1) 46 #[(),(),()]:=by have:=(Blk.new (w.alloc (.cells #[aA,aB,.slice p n c,a,b,aE,aF,aC,aG,.slice q m c2] 30)) 46 #[(),(),()]).ext g;simpa using this
 have X1:Ext w w1:=(((Ext.refl w).alloc _).alloc _).trans g;replace d:=xQ d;replace f:=xQ f;clear g;obtain⟨i,j,k,l,o,r,s,t,u,x⟩:=d.out.ten;go_wp2_with fail;refine Z (HX _ (by exact X1)) fun w2 h=>?_
 have y:=xQ (f.out.ext h);have X2:Ext w w2:=X1.trans h;clear i j k l o r s t u x h d f;obtain⟨ad,z,ae,aa,af,ab⟩:=y.out.trif;go_wp2;exact bodyPost_ret (v:= .tuple #[.agg #[(),(),()],.bool false]) (by simp[results,results14,go_sem, *]) rfl ⟨rfl,xE⟩
theorem zF (aA aB a c aE aF aC aG id:Int)(p:OA)(n f:Nat)(q:OA)(m c2:Nat)(w:World)
  (k:Nat)(a1 a2 a3:Int)(vs:List aS)(HK:Hid (vs[k]? =some (id,a1,a2,a3))) (hk:k<m) (hm:m≤9223372036854775807) (HS:Hid (Sl w q m c2 4 (vs.flatMap aD)))
  (HV:xB 16 #[.agg #[aA,aB,.slice p n f,a,c,aE,aF,aC,aG,.slice q m c2]] w true)
  (HX:xC 38 #[.agg #[aA,aB,.slice p n f,a,c,aE,aF,aC,aG,.slice q m c2],id] w fun w' e w''=>e= .returned (I k)∧Ext w' w''):
  U 14 #[.agg #[aA,aB,.slice p n f,a,c,aE,aF,aC,aG,.slice q m c2],id] w (O (.tuple #[.agg #[a1,a2,a3],.bool true]) w):=by
 go_enter func14,ntmps14;go_wp2_with fail;refine Z (HV _ (by exact .alloc (.alloc (.refl _) _) _)) fun w1 h=>?_
 have d:Blk w1 w 30 #[aA,aB,.slice p n f,a,c,aE,aF,aC,aG,.slice q m c2]:=((Blk.new w _ _).alloc _).ext h;have g:Blk w1 (w.heap.size+1) 46 #[(),(),()]:=by have:=(Blk.new (w.alloc (.cells #[aA,aB,.slice p n f,a,c,aE,aF,aC,aG,.slice q m c2] 30)) 46 #[(),(),()]).ext h;simpa using this
 have X1:Ext w w1:=(((Ext.refl w).alloc _).alloc _).trans h;replace d:=xQ d;replace g:=xQ g;clear h;obtain⟨j,l,o,r,s,u,x,y,z,aa⟩:=d.out.ten;go_wp2_with fail;refine Z (HX _ (by exact X1)) fun w2 i=>?_
 have ab:=xQ (d.out.ext i);have ad:=xQ (g.out.ext i);have X2:Ext w w2:=X1.trans i;clear j l o r s u x y z aa i d g;obtain⟨ae,af,ag,ah,ai,aj,ak,al,am,an⟩:=ab.out.ten;obtain⟨ar,ao,au,ap,av,aq⟩:=ad.out.trif;obtain⟨b,aw,b0,b1,b2,b3,rfl,hv,hb,g0,g1,g2,g3⟩:=fL (HS.out.ext X2) hk;obtain⟨rfl,rfl,rfl,rfl⟩:id=b0∧a1=b1∧a2=b2∧a3=b3:=by have t:=HK.out;rw[hv]at t;simp only[aM2,aKx]at t;exact⟨t.1.symm,t.2.1.symm,t.2.2.1.symm,t.2.2.2.symm⟩
 have i1:(0:Int)≤(k:Int):=by omega
 have i2:(k:Int)<(m:Int):=by omega
 clear hv;go_wp2;exact bodyPost_ret (v:= .tuple #[.agg #[a1,a2,a3],.bool true]) (by simp[results,results14,go_sem, *]) rfl ⟨rfl,xE⟩
theorem yF (aA aB a b aE aF aC aG id:Int)(p:OA)(n c:Nat)(q:OA)(m c2:Nat)(w:World)
  (x:Int)
  (HX:xC 59 #[.agg #[aA,aB,.slice p n c,a,b,aE,aF,aC,aG,.slice q m c2],id] w fun w' e w''=>e= .returned (I x)∧Ext w' w'')
  (HV:xB 10 #[.agg #[aA,aB,.slice p n c,a,b,aE,aF,aC,aG,.slice q m c2]] w false):
  U 97 #[.agg #[aA,aB,.slice p n c,a,b,aE,aF,aC,aG,.slice q m c2],id] w (O (.tuple #[.agg #[(),(),()],.bool false]) w):=by
 go_enter func97,ntmps97;go_wp2_with fail;refine Z (HX _ (by exact .alloc (.alloc (.refl _) _) _)) fun w1 g=>?_
 have d:Blk w1 w 30 #[aA,aB,.slice p n c,a,b,aE,aF,aC,aG,.slice q m c2]:=((Blk.new w _ _).alloc _).ext g;have f:Blk w1 (w.heap.size+1) 46 #[(),(),()]:=by have:=(Blk.new (w.alloc (.cells #[aA,aB,.slice p n c,a,b,aE,aF,aC,aG,.slice q m c2] 30)) 46 #[(),(),()]).ext g;simpa using this
 have X1:Ext w w1:=(((Ext.refl w).alloc _).alloc _).trans g;replace d:=xQ d;replace f:=xQ f;clear g;obtain⟨i,j,k,l,o,r,s,t,u,y⟩:=d.out.ten;go_wp2_with fail;refine Z (HV _ (by exact X1)) fun w2 h=>?_
 have z:=xQ (f.out.ext h);have X2:Ext w w2:=X1.trans h;clear i j k l o r s t u y h d f;obtain⟨ae,aa,af,ab,ag,ad⟩:=z.out.trif;go_wp2;exact bodyPost_ret (v:= .tuple #[.agg #[(),(),()],.bool false]) (by simp[results,results97,go_sem, *]) rfl ⟨rfl,xE⟩
theorem aAg (aA aB a b aE aF aC aG id:Int)(p:OA)(n c:Nat)(q:OA)(m c2:Nat)(w:World)
  (HX:xC 59 #[.agg #[aA,aB,.slice p n c,a,b,aE,aF,aC,aG,.slice q m c2],id] w fun w' e w''=>e= .returned (I (-1))∧Ext w' w'')
  (HV:xB 10 #[.agg #[aA,aB,.slice p n c,a,b,aE,aF,aC,aG,.slice q m c2]] w true):
  U 97 #[.agg #[aA,aB,.slice p n c,a,b,aE,aF,aC,aG,.slice q m c2],id] w (O (.tuple #[.agg #[(),(),()],.bool false]) w):=by
 go_enter func97,ntmps97;go_wp2_with fail;refine Z (HX _ (by exact .alloc (.alloc (.refl _) _) _)) fun w1 g=>?_
 have d:Blk w1 w 30 #[aA,aB,.slice p n c,a,b,aE,aF,aC,aG,.slice q m c2]:=((Blk.new w _ _).alloc _).ext g;have f:Blk w1 (w.heap.size+1) 46 #[(),(),()]:=by have:=(Blk.new (w.alloc (.cells #[aA,aB,.slice p n c,a,b,aE,aF,aC,aG,.slice q m c2] 30)) 46 #[(),(),()]).ext g;simpa using this
 have X1:Ext w w1:=(((Ext.refl w).alloc _).alloc _).trans g;replace d:=xQ d;replace f:=xQ f;clear g;obtain⟨i,j,k,l,o,r,s,t,u,x⟩:=d.out.ten;go_wp2_with fail;refine Z (HV _ (by exact X1)) fun w2 h=>?_
 have y:=xQ (f.out.ext h);have X2:Ext w w2:=X1.trans h;clear i j k l o r s t u x h d f;obtain⟨ad,z,ae,aa,af,ab⟩:=y.out.trif;go_wp2;exact bodyPost_ret (v:= .tuple #[.agg #[(),(),()],.bool false]) (by simp[results,results97,go_sem, *]) rfl ⟨rfl,xE⟩
theorem yE (aA aB a c aE aF aC aG id:Int)(p:OA)(n f:Nat)(q:OA)(m c2:Nat)(w:World)
  (k:Nat)(a1 a2 a3:Int)(vs:List aS)(HK:Hid (vs[k]? =some (id,a1,a2,a3))) (hk:k<m) (hm:m≤9223372036854775807) (HS:Hid (Sl w q m c2 4 (vs.flatMap aD)))
  (HX:xC 59 #[.agg #[aA,aB,.slice p n f,a,c,aE,aF,aC,aG,.slice q m c2],id] w fun w' e w''=>e= .returned (I k)∧Ext w' w'')
  (HV:xB 10 #[.agg #[aA,aB,.slice p n f,a,c,aE,aF,aC,aG,.slice q m c2]] w true):
  U 97 #[.agg #[aA,aB,.slice p n f,a,c,aE,aF,aC,aG,.slice q m c2],id] w (O (.tuple #[.agg #[a1,a2,a3],.bool true]) w):=by
 go_enter func97,ntmps97;go_wp2_with fail;refine Z (HX _ (by exact .alloc (.alloc (.refl _) _) _)) fun w1 h=>?_
 have d:Blk w1 w 30 #[aA,aB,.slice p n f,a,c,aE,aF,aC,aG,.slice q m c2]:=((Blk.new w _ _).alloc _).ext h;have g:Blk w1 (w.heap.size+1) 46 #[(),(),()]:=by have:=(Blk.new (w.alloc (.cells #[aA,aB,.slice p n f,a,c,aE,aF,aC,aG,.slice q m c2] 30)) 46 #[(),(),()]).ext h;simpa using this
 have X1:Ext w w1:=(((Ext.refl w).alloc _).alloc _).trans h;replace d:=xQ d;replace g:=xQ g;clear h;obtain⟨j,l,o,r,s,u,x,y,z,aa⟩:=d.out.ten;go_wp2_with fail;refine Z (HV _ (by exact X1)) fun w2 i=>?_
 have ab:=xQ (d.out.ext i);have ad:=xQ (g.out.ext i);have X2:Ext w w2:=X1.trans i;clear j l o r s u x y z aa i d g;obtain⟨ae,af,ag,ah,ai,aj,ak,al,am,an⟩:=ab.out.ten;obtain⟨ar,ao,au,ap,av,aq⟩:=ad.out.trif;obtain⟨b,aw,b0,b1,b2,b3,rfl,hv,hb,g0,g1,g2,g3⟩:=fL (HS.out.ext X2) hk;obtain⟨rfl,rfl,rfl,rfl⟩:id=b0∧a1=b1∧a2=b2∧a3=b3:=by have t:=HK.out;rw[hv]at t;simp only[aM2,aKx]at t;exact⟨t.1.symm,t.2.1.symm,t.2.2.1.symm,t.2.2.2.symm⟩
 have i1:(0:Int)≤(k:Int):=by omega
 have i2:(k:Int)<(m:Int):=by omega
 clear hv;go_wp2;exact bodyPost_ret (v:= .tuple #[.agg #[a1,a2,a3],.bool true]) (by simp[results,results97,go_sem, *]) rfl ⟨rfl,xE⟩
theorem aCt (h:aO)(id:Int)(p:OA)(n c:Nat)(q:OA)(m c2:Nat)(w:World)(hi:IsHouse w h p n c q m c2):
  U 14 #[bN h p n c q m c2,id] w (O (sI h id) w):=by
 have HV:=fun(w':World) (hx:Ext w w')=>lJ h p n c q m c2 w' (hi.ext hx)
 have f:=hi.vlen;obtain⟨aA,aB,d,a,b,aE,aF,aC,aG,vs⟩:=h;have HX:=fun(w':World) (hx:Ext w w')=>iC aA aB a b aE aF aC aG id p n c q m c2 vs w' (hi.vs.ext hx)
 unfold sI cX;simp only at f HV HX⊢;cases hok:bB ⟨aA,aB,d,a,b,aE,aF,aC,aG,vs⟩with
 |false=>rw[hok]at HV;simpa using zG aA aB a b aE aF aC aG id p n c q m c2 w HV
 |true=>
  rw[hok]at HV;rcases kX id vs with⟨hx,hv⟩|⟨k,a1,a2,a3,hk,hx,hv,hf⟩
  ·rw[hx]at HX;rw[hv];simpa using aBo aA aB a b aE aF aC aG id p n c q m c2 w HV HX
  rw[hx]at HX;rw[hf];simpa using zF aA aB a b aE aF aC aG id p n c q m c2 w k a1 a2 a3 vs hv (by omega) hi.vs.bd hi.vs HV HX
theorem aHz (h:aO)(id:Int)(p:OA)(n c:Nat)(q:OA)(m c2:Nat)(w:World)(hi:IsHouse w h p n c q m c2):
  U 97 #[bN h p n c q m c2,id] w (O (sI h id) w):=by
 have HV:=fun(w':World) (hx:Ext w w')=>kY h p n c q m c2 w' (hi.ext hx)
 have f:=hi.vlen;obtain⟨aA,aB,d,a,b,aE,aF,aC,aG,vs⟩:=h;have HX:=fun(w':World) (hx:Ext w w')=>oL aA aB a b aE aF aC aG id p n c q m c2 vs w' (hi.vs.ext hx)
 unfold sI cX;simp only at f HV HX⊢;cases hok:bB ⟨aA,aB,d,a,b,aE,aF,aC,aG,vs⟩with
 |false=>rw[hok]at HV;simpa using yF aA aB a b aE aF aC aG id p n c q m c2 w _ HX HV
 |true=>
  rw[hok]at HV;rcases kX id vs with⟨hx,hv⟩|⟨k,a1,a2,a3,hk,hx,hv,hf⟩
  ·rw[hx]at HX;rw[hv];simpa using aAg aA aB a b aE aF aC aG id p n c q m c2 w HX HV
  rw[hx]at HX;rw[hf];simpa using yE aA aB a b aE aF aC aG id p n c q m c2 w k a1 a2 a3 vs hv (by omega) hi.vs.bd hi.vs HX HV
theorem aEh (aA aB a b aE aF aC aG id:Int)(p:OA)(n c:Nat)(q:OA)(m c2:Nat)(w:World)
  (g:xC 14 #[.agg #[aA,aB,.slice p n c,a,b,aE,aF,aC,aG,.slice q m c2],id] w fun w' e w''=>e= .returned (.tuple #[.agg #[(),(),()],.bool false])∧Ext w' w''):
  U 72 #[.agg #[aA,aB,.slice p n c,a,b,aE,aF,aC,aG,.slice q m c2],id] w (O (.bool false) w):=by
 go_enter func72,ntmps72;go_wp2_with fail;refine Z (g _ xE) fun w1 d=>?_
 have f:Blk w1 w 30 #[aA,aB,.slice p n c,a,b,aE,aF,aC,aG,.slice q m c2]:=(Blk.new w _ _).ext d;have X1:Ext w w1:=((Ext.refl w).alloc _).trans d;replace f:=xQ f;clear d;go_wp2;go_ret;exact⟨rfl,xE⟩
theorem aBr (aA aB a b aE aF aC aG id:Int)(p:OA)(n d:Nat)(q:OA)(m c2:Nat)(w:World)(a1 a2 a3:Int)(D:Bool)
  (g:xC 14 #[.agg #[aA,aB,.slice p n d,a,b,aE,aF,aC,aG,.slice q m c2],id] w fun w' e w''=>e= .returned (.tuple #[.agg #[a1,a2,a3],.bool true])∧Ext w' w'')
  (HD:Hid (∀w',U 108 #[aP a b aE aF,bO a1 a2 a3,aC] w' (O (.bool D) w'))):
  U 72 #[.agg #[aA,aB,.slice p n d,a,b,aE,aF,aC,aG,.slice q m c2],id] w (O (.bool D) w):=by
 go_enter func72,ntmps72;go_wp2_with fail;refine Z (g _ xE) fun w1 f=>?_
 have c:Blk w1 w 30 #[aA,aB,.slice p n d,a,b,aE,aF,aC,aG,.slice q m c2]:=(Blk.new w _ _).ext f;have X1:Ext w w1:=((Ext.refl w).alloc _).trans f;have s1:(w:Nat)<w1:=c.lt;replace c:=xQ c;clear f;obtain⟨h,i,j,k,l,o,r,s,t,u⟩:=c.out.ten;go_wp2_with fail;refine Z (HD _) fun w2 v=>?_
 go_wp2;go_ret;exact⟨rfl,xE⟩
theorem aDl (aA aB a b aE aF aC aG id:Int)(p:OA)(n c:Nat)(q:OA)(m c2:Nat)(w:World)
  (g:xC 97 #[.agg #[aA,aB,.slice p n c,a,b,aE,aF,aC,aG,.slice q m c2],id] w fun w' e w''=>e= .returned (.tuple #[.agg #[(),(),()],.bool false])∧Ext w' w''):
  U 60 #[.agg #[aA,aB,.slice p n c,a,b,aE,aF,aC,aG,.slice q m c2],id] w (O (.bool false) w):=by
 go_enter func60,ntmps60;go_wp2_with fail;refine Z (g _ xE) fun w1 d=>?_
 have f:Blk w1 w 30 #[aA,aB,.slice p n c,a,b,aE,aF,aC,aG,.slice q m c2]:=(Blk.new w _ _).ext d;have X1:Ext w w1:=((Ext.refl w).alloc _).trans d;replace f:=xQ f;clear d;go_wp2;go_ret;exact⟨rfl,xE⟩
theorem aAm (aA aB a b aE aF aC aG id:Int)(p:OA)(n d:Nat)(q:OA)(m c2:Nat)(w:World)(a1 a2 a3:Int)(D:Bool)
  (g:xC 97 #[.agg #[aA,aB,.slice p n d,a,b,aE,aF,aC,aG,.slice q m c2],id] w fun w' e w''=>e= .returned (.tuple #[.agg #[a1,a2,a3],.bool true])∧Ext w' w'')
  (HD:Hid (∀w',U 98 #[aP a b aE aF,bO a1 a2 a3,aC] w' (O (.bool D) w'))):
  U 60 #[.agg #[aA,aB,.slice p n d,a,b,aE,aF,aC,aG,.slice q m c2],id] w (O (.bool D) w):=by
 go_enter func60,ntmps60;go_wp2_with fail;refine Z (g _ xE) fun w1 f=>?_
 have c:Blk w1 w 30 #[aA,aB,.slice p n d,a,b,aE,aF,aC,aG,.slice q m c2]:=(Blk.new w _ _).ext f;have X1:Ext w w1:=((Ext.refl w).alloc _).trans f;have s1:(w:Nat)<w1:=c.lt;replace c:=xQ c;clear f;obtain⟨h,i,j,k,l,o,r,s,t,u⟩:=c.out.ten;go_wp2_with fail;refine Z (HD _) fun w2 v=>?_
 go_wp2;go_ret;exact⟨rfl,xE⟩
theorem uR {h:aO}{id a1 a2 a3:Int}(hs:cX h id=some (a1,a2,a3)):bC h.free h.step h.aE h.aF=true∧cN a1 a2 a3=true∧a3≤h.aC∧h.aC≤9999:=by
 unfold cX at hs;split at hs
 ·rename_i hok;rw[Option.map_eq_some_iff]at hs;obtain⟨v,hv,e⟩:=hs;have hm:=aLe hv;simp only[bB,sZ,aKg,decide_eq_true_eq]at hok;have:=(oV hok.2).2 v hm;obtain⟨v0,v1,v2,v3⟩:=v;simp only[aKx]at e;obtain⟨rfl,rfl,rfl⟩:=e;simp only[fA,aKg,decide_eq_true_eq]at this;exact⟨hok.1.1.2,this.1,this.2,hok.1.2.2.1⟩
 simp at hs
theorem wW (h:aO)(id:Int)(p:OA)(n b:Nat)(q:OA)(m c2:Nat)(w:World)(hi:IsHouse w h p n b q m c2):
  U 72 #[bN h p n b q m c2,id] w (O (.bool (dB h id)) w):=by
 have a:=fun(w':World) (hx:Ext w w')=>aCt h id p n b q m c2 w' (hi.ext hx)
 unfold sI at a;unfold dB;cases hs:cX h id with
 |none=>rw[hs]at a;exact aEh h.aA h.aB h.free h.step h.aE h.aF h.aC h.aG id p n b q m c2 w a
 |some s=>obtain⟨a1,a2,a3⟩:=s;rw[hs]at a;obtain⟨t,st,hc,h9⟩:=uR hs;exact aBr h.aA h.aB h.free h.step h.aE h.aF h.aC h.aG id p n b q m c2 w a1 a2 a3 _ a (fun w'=>aJc h.free h.step h.aE h.aF a1 a2 a3 h.aC w' t st hc h9)
theorem wD (h:aO)(id:Int)(p:OA)(n b:Nat)(q:OA)(m c2:Nat)(w:World)(hi:IsHouse w h p n b q m c2):
  U 60 #[bN h p n b q m c2,id] w (O (.bool (dB h id)) w):=by
 have a:=fun(w':World) (hx:Ext w w')=>aHz h id p n b q m c2 w' (hi.ext hx)
 unfold sI at a;unfold dB;cases hs:cX h id with
 |none=>rw[hs]at a;exact aDl h.aA h.aB h.free h.step h.aE h.aF h.aC h.aG id p n b q m c2 w a
 |some s=>obtain⟨a1,a2,a3⟩:=s;rw[hs]at a;obtain⟨t,st,hc,h9⟩:=uR hs;exact aAm h.aA h.aB h.free h.step h.aE h.aF h.aC h.aG id p n b q m c2 w a1 a2 a3 _ a (fun w'=>aJ0 h.free h.step h.aE h.aF a1 a2 a3 h.aC w' t st hc h9)
abbrev THD:TypeId:=44
theorem aAr (aA aB a b aE aF aC aG c f g:Int)(p:OA)(n d:Nat)(q:OA)(m c2:Nat)(xs:List Int)(vs:List aS)(w:World)
  (h:xB 10 #[.agg #[aA,aB,.slice p n d,a,b,aE,aF,aC,aG,.slice q m c2]] w false):
  U 26 #[.agg #[aA,aB,.slice p n d,a,b,aE,aF,aC,aG,.slice q m c2],.agg #[c,f,g]] w (O (.tuple #[.agg #[(),(),((),()),(),(),(),(),(),(),((),())],(-1:Int),.bool false]) w):=by
 go_enter func26,ntmps26;go_wp2_with fail;refine Z (h _ ((((Mem.start w).c0 aL #[aA,aB,.slice p n d,a,b,aE,aF,aC,aG,.slice q m c2]).c1 THD #[c,f,g]).c2 aL zT).ext) fun w1 k=>?_
 have M1:=(((((Mem.start w).c0 aL #[aA,aB,.slice p n d,a,b,aE,aF,aC,aG,.slice q m c2]).c1 THD #[c,f,g]).c2 aL zT).adv k)
 clear k h;obtain⟨f0,l,f1,o,f2,r,f3,s,f4,t,f5,u,f6,x,f7,y,f8,z,f9,aa⟩:=(M1.bk 0).tenf;go_wp2;clear f0 l f1 o f2 r f3 s f4 t f5 u f6 x f7 y f8 z f9 aa;have M2:=(M1.put10 (i:=0) rfl (I 0) (I 0) (.slice none 0 0) (I 0) (I 0) (I 0) (I 0) (I 0) (I 0) (.slice none 0 0))
 generalize j:World.setCell _ _ _=wz;rw[j]at M2;clear j M1;obtain⟨y0,y1,y2,y3,y4,y5,y6,y7,y8,y9⟩:=(M2.bk 0).ten;exact bodyPost_ret (v:= .tuple #[.agg #[(),(),((),()),(),(),(),(),(),(),((),())],(-1:Int),.bool false]) (by simp[results,results26,go_sem, *]) rfl ⟨rfl,M2.ext⟩
theorem wF (aA aB b c aE aF aC aG a aa ab:Int)(p:OA)(n d:Nat)(q:OA)(m c2:Nat)(xs:List Int)(vs:List aS)(w:World)(h0:a≠0)(h1:a≠1)(h2:a≠2)(h3:a≠3)(h4:a≠4)
  (ad:xB 10 #[.agg #[aA,aB,.slice p n d,b,c,aE,aF,aC,aG,.slice q m c2]] w true)
  (HL:xC 25 #[.agg #[aA,aB,.slice p n d,b,c,aE,aF,aC,aG,.slice q m c2]] w fun w' e w''=> ∃p' cap' q' c2',e= .returned (.agg #[aA,aB,.slice p' n cap',b,c,aE,aF,aC,aG,.slice q' m c2'])∧w''.ownsRow w' TI 1 (.slice p' n cap') n (ivs xs)∧w''.ownsRow w' TV 4 (.slice q' m c2') m (vs.flatMap aD)∧Ext w' w''):
  U 26 #[.agg #[aA,aB,.slice p n d,b,c,aE,aF,aC,aG,.slice q m c2],.agg #[a,aa,ab]] w fun e w'=> ∃p' cap' q' c2',e= .returned (.tuple #[.agg #[aA,aB,.slice p' n cap',b,c,aE,aF,aC,aG,.slice q' m c2'],(-1:Int),.bool false])∧w'.ownsRow w TI 1 (.slice p' n cap') n (ivs xs)∧w'.ownsRow w TV 4 (.slice q' m c2') m (vs.flatMap aD)∧Ext w w':=by
 go_enter func26,ntmps26;go_wp2_with fail;refine Z (ad _ ((((Mem.start w).c0 aL #[aA,aB,.slice p n d,b,c,aE,aF,aC,aG,.slice q m c2]).c1 THD #[a,aa,ab]).c2 aL zT).ext) fun w1 ah=>?_
 have M1:=(((((Mem.start w).c0 aL #[aA,aB,.slice p n d,b,c,aE,aF,aC,aG,.slice q m c2]).c1 THD #[a,aa,ab]).c2 aL zT).adv ah)
 clear ah ad;obtain⟨f,g,h,j,k,l,o,r,s,t⟩:=(M1.bk 2).ten;go_wp2_with fail;clear f g h j k l o r s t;refine(HL _ M1.ext).mono ?_;rintro e w2 ⟨p1,ae,q1,af,rfl,ho,hq,hx⟩;have M2:=(M1.own2 hx ho hq (aK1 _) (by decide))
 clear M1 hx ho hq;have y:=M2.hi 3;have z:=M2.hi 4;obtain⟨f,g,h,j,k,l,o,r,s,t⟩:=(M2.bk 4).ten;have ai:=(M2.bk 3).cl 0;have k0:(a==0)=false:=by simp;omega
 have k1:(a==1)=false:=by simp;omega
 have k2:(a==2)=false:=by simp;omega
 have k3:(a==3)=false:=by simp;omega
 have k4:(a==4)=false:=by simp;omega
 go_wp2_with fail;clear f g h j k l o r s t ai;refine(HL _ (M2.c0 aL #[aA,aB,.slice p1 n ae,b,c,aE,aF,aC,aG,.slice q1 m af]).ext).mono ?_;rintro e w9 ⟨p9,u,q9,x,rfl,ho,hq,hx⟩;have M3:=((M2.c0 aL #[aA,aB,.slice p1 n ae,b,c,aE,aF,aC,aG,.slice q1 m af]).own2 hx ho hq (aK1 _) (by decide))
 clear M2 y z hx ho hq HL;obtain⟨f0,aj,f1,ak,f2,al,f3,am,f4,an,f5,ao,f6,ap,f7,aq,f8,ar,f9,au⟩:=(M3.bk 5).tenf;go_wp2;clear f0 aj f1 ak f2 al f3 am f4 an f5 ao f6 ap f7 aq f8 ar f9 au;have M4:=(M3.put10 (i:=5) rfl (I aA) (I aB) (.slice p9 n u) (I b) (I c) (I aE) (I aF) (I aC) (I aG) (.slice q9 m x))
 generalize ag:World.setCell _ _ _=wz;rw[ag]at M4;clear ag M3;obtain⟨y0,y1,y2,y3,y4,y5,y6,y7,y8,y9⟩:=(M4.bk 5).ten;exact bodyPost_ret (v:= .tuple #[.agg #[aA,aB,.slice p9 n u,b,c,aE,aF,aC,aG,.slice q9 m x],(-1:Int),.bool false]) (by simp[results,results26,go_sem, *]) rfl ⟨p9,u,q9,x,rfl,(M4.ow 0),(M4.ow 1),M4.ext⟩
theorem rR (aA aB a b aE aF aC aG c ae:Int)(p:OA)(n d:Nat)(q:OA)(m c2:Nat)(xs:List Int)(vs:List aS)(w:World)(hc:0≤aC)(a6:aC≤9999)(h1:1≤c)(h2:c≤9999-aC)
  (af:xB 10 #[.agg #[aA,aB,.slice p n d,a,b,aE,aF,aC,aG,.slice q m c2]] w true)
  (HL:xC 25 #[.agg #[aA,aB,.slice p n d,a,b,aE,aF,aC,aG,.slice q m c2]] w fun w' e w''=> ∃p' cap' q' c2',e= .returned (.agg #[aA,aB,.slice p' n cap',a,b,aE,aF,aC,aG,.slice q' m c2'])∧w''.ownsRow w' TI 1 (.slice p' n cap') n (ivs xs)∧w''.ownsRow w' TV 4 (.slice q' m c2') m (vs.flatMap aD)∧Ext w' w'')
  (HI:Hid (∀w',U 31 #[c,I 1,(9999-aC:Int)] w' fun e w''=>e= .returned (.bool true)∧w'=w'')):
  U 26 #[.agg #[aA,aB,.slice p n d,a,b,aE,aF,aC,aG,.slice q m c2],.agg #[I 3,c,ae]] w fun e w'=> ∃p' cap' q' c2',e= .returned (.tuple #[.agg #[aA,aB,.slice p' n cap',a,b,aE,aF,(aC+c:Int),aG,.slice q' m c2'],(aC+c:Int),.bool true])∧w'.ownsRow w TI 1 (.slice p' n cap') n (ivs xs)∧w'.ownsRow w TV 4 (.slice q' m c2') m (vs.flatMap aD)∧Ext w w':=by
 go_enter func26,ntmps26;go_wp2_with fail;refine Z (af _ ((((Mem.start w).c0 aL #[aA,aB,.slice p n d,a,b,aE,aF,aC,aG,.slice q m c2]).c1 THD #[I 3,c,ae]).c2 aL zT).ext) fun w1 ah=>?_
 have M1:=(((((Mem.start w).c0 aL #[aA,aB,.slice p n d,a,b,aE,aF,aC,aG,.slice q m c2]).c1 THD #[I 3,c,ae]).c2 aL zT).adv ah)
 clear ah af;obtain⟨l,o,r,s,t,u,x,f,y,z⟩:=(M1.bk 2).ten;go_wp2_with fail;clear l o r s t u x f y z;refine(HL _ M1.ext).mono ?_;rintro e w2 ⟨p1,g,q1,h,rfl,ho,hq,hx⟩;have M2:=(M1.own2 hx ho hq (aK1 _) (by decide))
 clear M1 hx ho hq;have ab:=M2.hi 3;have ad:=M2.hi 4;obtain⟨l,o,r,s,t,u,x,f,y,z⟩:=(M2.bk 4).ten;obtain⟨ai,aa,aj⟩:=(M2.bk 3).tri;have k1:IntKind.i64.wrap (9999-aC)=9999-aC:=aK3 _ (by omega);go_wp2_with fail;refine(HI _).mono ?_;rintro e _ ⟨rfl,rfl⟩;clear HI k1 l o r s t u x f y z ai aa aj;have M3:=(M2.c0 aL #[aA,aB,.slice p1 n g,a,b,aE,aF,aC,aG,.slice q1 m h])
 generalize (w2.alloc (.cells #[aA,aB,.slice p1 n g,a,b,aE,aF,aC,aG,.slice q1 m h] aL))=w3 at M3⊢;clear M2 ab ad;have f:=(M3.bk 5).cl 7;have aa:=(M3.bk 4).cl 1;obtain⟨d0,ak,d1,al,d2,am,d3,an,d4,ao,d5,ap,d6,aq,d7,ar,d8,au,d9,av⟩:=(M3.bk 0).tenf;obtain⟨f0,aw,f1,ax,f2,ay,f3,az,f4,a0,f5,a1,f6,a2,f7,a3,f8,a4,f9,a5⟩:=(M3.bk 3).tenf;obtain⟨j,k⟩:=M3.nq 0 3;have k2:IntKind.i64.wrap (aC+c)=aC+c:=aK3 _ (by omega);have hd:decide (aC+c<0)=false:=by simp;omega
 clear HL;have M4:=(M3.st 0 7 (I (aC+c)))
 go_wp2;clear f aa d0 ak d1 al d2 am d3 an d4 ao d5 ap d6 aq d7 ar d8 au d9 av f0 aw f1 ax f2 ay f3 az f4 a0 f5 a1 f6 a2 f7 a3 f8 a4 f9 a5 j k;have M5:=(M4.put10 (i:=3) rfl (I aA) (I aB) (.slice p1 n g) (I a) (I b) (I aE) (I aF) (I (aC+c)) (I aG) (.slice q1 m h))
 generalize ag:World.setCell _ _ _=wz;rw[ag]at M5;clear ag M3 M4;obtain⟨y0,y1,y2,y3,y4,y5,y6,y7,y8,y9⟩:=(M5.bk 3).ten;exact bodyPost_ret (v:= .tuple #[.agg #[aA,aB,.slice p1 n g,a,b,aE,aF,(aC+c:Int),aG,.slice q1 m h],(aC+c:Int),.bool true]) (by simp[results,results26,go_sem, *]) rfl ⟨p1,g,q1,h,rfl,(M5.ow 1),(M5.ow 2),M5.ext⟩
theorem sO (aA aB a b aE aF aC aG t aa:Int)(p:OA)(n c:Nat)(q:OA)(m c2:Nat)(xs:List Int)(vs:List aS)(w:World)(hc:0≤aC)(aw:aC≤9999)
  (ab:xB 10 #[.agg #[aA,aB,.slice p n c,a,b,aE,aF,aC,aG,.slice q m c2]] w true)
  (HL:xC 25 #[.agg #[aA,aB,.slice p n c,a,b,aE,aF,aC,aG,.slice q m c2]] w fun w' e w''=> ∃p' cap' q' c2',e= .returned (.agg #[aA,aB,.slice p' n cap',a,b,aE,aF,aC,aG,.slice q' m c2'])∧w''.ownsRow w' TI 1 (.slice p' n cap') n (ivs xs)∧w''.ownsRow w' TV 4 (.slice q' m c2') m (vs.flatMap aD)∧Ext w' w'')
  (HI:Hid (∀w',U 31 #[t,I 1,(9999-aC:Int)] w' fun e w''=>e= .returned (.bool false)∧w'=w'')):
  U 26 #[.agg #[aA,aB,.slice p n c,a,b,aE,aF,aC,aG,.slice q m c2],.agg #[I 3,t,aa]] w fun e w'=> ∃p' cap' q' c2',e= .returned (.tuple #[.agg #[aA,aB,.slice p' n cap',a,b,aE,aF,aC,aG,.slice q' m c2'],(-1:Int),.bool false])∧w'.ownsRow w TI 1 (.slice p' n cap') n (ivs xs)∧w'.ownsRow w TV 4 (.slice q' m c2') m (vs.flatMap aD)∧Ext w w':=by
 go_enter func26,ntmps26;go_wp2_with fail;refine Z (ab _ ((((Mem.start w).c0 aL #[aA,aB,.slice p n c,a,b,aE,aF,aC,aG,.slice q m c2]).c1 THD #[I 3,t,aa]).c2 aL zT).ext) fun w1 ag=>?_
 have M1:=(((((Mem.start w).c0 aL #[aA,aB,.slice p n c,a,b,aE,aF,aC,aG,.slice q m c2]).c1 THD #[I 3,t,aa]).c2 aL zT).adv ag)
 clear ag ab;obtain⟨d,f,g,h,j,k,l,o,r,s⟩:=(M1.bk 2).ten;go_wp2_with fail;clear d f g h j k l o r s;refine(HL _ M1.ext).mono ?_;rintro e w2 ⟨p1,ad,q1,ae,rfl,ho,hq,hx⟩;have M2:=(M1.own2 hx ho hq (aK1 _) (by decide))
 clear M1 hx ho hq;have y:=M2.hi 3;have z:=M2.hi 4;obtain⟨d,f,g,h,j,k,l,o,r,s⟩:=(M2.bk 4).ten;obtain⟨ah,ai,aj⟩:=(M2.bk 3).tri;have k1:IntKind.i64.wrap (9999-aC)=9999-aC:=aK3 _ (by omega);go_wp2_with fail;refine(HI _).mono ?_;rintro e _ ⟨rfl,rfl⟩;clear HI k1 d f g h j k l o r s ah ai aj;have M3:=(M2.c0 aL #[aA,aB,.slice p1 n ad,a,b,aE,aF,aC,aG,.slice q1 m ae])
 generalize (w2.alloc (.cells #[aA,aB,.slice p1 n ad,a,b,aE,aF,aC,aG,.slice q1 m ae] aL))=w3 at M3⊢;clear M2 y z;obtain⟨d,f,g,h,j,k,l,o,r,s⟩:=(M3.bk 5).ten;go_wp2_with fail;clear d f g h j k l o r s;refine(HL _ M3.ext).mono ?_;rintro e w9 ⟨p9,u,q9,x,rfl,ho,hq,hx⟩;have M4:=(M3.own2 hx ho hq (aK1 _) (by decide))
 clear M3 hx ho hq HL;obtain⟨f0,ak,f1,al,f2,am,f3,an,f4,ao,f5,ap,f6,aq,f7,ar,f8,au,f9,av⟩:=(M4.bk 5).tenf;go_wp2;clear f0 ak f1 al f2 am f3 an f4 ao f5 ap f6 aq f7 ar f8 au f9 av;have M5:=(M4.put10 (i:=5) rfl (I aA) (I aB) (.slice p9 n u) (I a) (I b) (I aE) (I aF) (I aC) (I aG) (.slice q9 m x))
 generalize af:World.setCell _ _ _=wz;rw[af]at M5;clear af M4;obtain⟨y0,y1,y2,y3,y4,y5,y6,y7,y8,y9⟩:=(M5.bk 5).ten;exact bodyPost_ret (v:= .tuple #[.agg #[aA,aB,.slice p9 n u,a,b,aE,aF,aC,aG,.slice q9 m x],(-1:Int),.bool false]) (by simp[results,results26,go_sem, *]) rfl ⟨p9,u,q9,x,rfl,(M5.ow 0),(M5.ow 1),M5.ext⟩
theorem sP (aA aB a b aE aF aC aG c d k l:Int)(p:OA)(n f:Nat)(q:OA)(m c2:Nat)(xs:List Int)(vs ak:List aS)(w:World)(h0:0≤d)
  (ag:xB 10 #[.agg #[aA,aB,.slice p n f,a,b,aE,aF,aC,aG,.slice q m c2]] w true)
  (HL:xC 25 #[.agg #[aA,aB,.slice p n f,a,b,aE,aF,aC,aG,.slice q m c2]] w fun w' e w''=> ∃p' cap' q' c2',e= .returned (.agg #[aA,aB,.slice p' n cap',a,b,aE,aF,aC,aG,.slice q' m c2'])∧w''.ownsRow w' TI 1 (.slice p' n cap') n (ivs xs)∧w''.ownsRow w' TV 4 (.slice q' m c2') m (vs.flatMap aD)∧Ext w' w'')
  (HP:xC 57 #[.agg #[aA,aB,.slice p n f,a,b,aE,aF,aC,aG,.slice q m c2],k,l] w fun w' e w''=> ∃p' cap' q' c2',e= .returned (.tuple #[.agg #[aA,aB,.slice p' n cap',a,b,aE,aF,aC,c,.slice q' m c2'],d,.bool true])∧w''.ownsRow w' TI 1 (.slice p' n cap') n (ivs xs)∧w''.ownsRow w' TV 4 (.slice q' m c2') m (ak.flatMap aD)∧Ext w' w''):
  U 26 #[.agg #[aA,aB,.slice p n f,a,b,aE,aF,aC,aG,.slice q m c2],.agg #[I 1,k,l]] w fun e w'=> ∃p' cap' q' c2',e= .returned (.tuple #[.agg #[aA,aB,.slice p' n cap',a,b,aE,aF,aC,c,.slice q' m c2'],d,.bool true])∧w'.ownsRow w TI 1 (.slice p' n cap') n (ivs xs)∧w'.ownsRow w TV 4 (.slice q' m c2') m (ak.flatMap aD)∧Ext w w':=by
 go_enter func26,ntmps26;go_wp2_with fail;refine Z (ag _ ((((Mem.start w).c0 aL #[aA,aB,.slice p n f,a,b,aE,aF,aC,aG,.slice q m c2]).c1 THD #[I 1,k,l]).c2 aL zT).ext) fun w1 aj=>?_
 have M1:=(((((Mem.start w).c0 aL #[aA,aB,.slice p n f,a,b,aE,aF,aC,aG,.slice q m c2]).c1 THD #[I 1,k,l]).c2 aL zT).adv aj)
 clear aj ag;obtain⟨o,r,s,t,u,x,y,z,aa,ab⟩:=(M1.bk 2).ten;go_wp2_with fail;clear o r s t u x y z aa ab;refine(HL _ M1.ext).mono ?_;rintro e w2 ⟨p1,ah,q1,ai,rfl,ho,hq,hx⟩;have M2:=(M1.own2 hx ho hq (aK1 _) (by decide))
 clear M1 hx ho hq;have ad:=M2.hi 3;have ae:=M2.hi 4;obtain⟨o,r,s,t,u,x,y,z,aa,ab⟩:=(M2.bk 4).ten;obtain⟨al,am,an⟩:=(M2.bk 3).tri;go_wp2_with fail;clear o r s t u x y z aa ab al am an;refine(HP _ (M2.c0 aL #[aA,aB,.slice p1 n ah,a,b,aE,aF,aC,aG,.slice q1 m ai]).ext).mono ?_;rintro e w3 ⟨p5,g,q5,h,rfl,ho,hq,hx⟩;have M3:=((M2.c0 aL #[aA,aB,.slice p1 n ah,a,b,aE,aF,aC,aG,.slice q1 m ai]).own2 hx ho hq (aK1 _) (by decide))
 clear M2 ad ae hx ho hq HP HL;have af:=M3.hi 2;obtain⟨d0,ao,d1,ap,d2,aq,d3,ar,d4,au,d5,av,d6,aw,d7,ax,d8,ay,d9,az⟩:=(M3.bk 2).tenf;have hd:decide (d<0)=false:=by simp;omega
 go_upto_region 16 with fail;clear d0 ao d1 ap d2 aq d3 ar d4 au d5 av d6 aw d7 ax d8 ay d9 az af;have M4:=(M3.put10 (i:=2) rfl (I aA) (I aB) (.slice p5 n g) (I a) (I b) (I aE) (I aF) (I aC) (I c) (.slice q5 m h))
 generalize j:World.setCell _ _ _=w4;rw[j]at M4;clear j M3;have M5:=(M4.adv ((Ext.refl _).alloc (.cells #[aA,aB,.slice p5 n g,a,b,aE,aF,aC,c,.slice q5 m h] aL)))
 generalize (w4.alloc (.cells #[aA,aB,.slice p5 n g,a,b,aE,aF,aC,c,.slice q5 m h] aL))=w5 at M5⊢;clear M4;obtain⟨e0,e1,e2,e3,e4,e5,e6,e7,e8,e9⟩:=(M5.bk 2).ten;obtain⟨f0,a0,f1,a1,f2,a2,f3,a3,f4,a4,f5,a5,f6,a6,f7,a7,f8,a8,f9,a9⟩:=(M5.bk 5).tenf;go_wp2;clear e0 e1 e2 e3 e4 e5 e6 e7 e8 e9 f0 a0 f1 a1 f2 a2 f3 a3 f4 a4 f5 a5 f6 a6 f7 a7 f8 a8 f9 a9;have M6:=(M5.put10 (i:=5) rfl (I aA) (I aB) (.slice p5 n g) (I a) (I b) (I aE) (I aF) (I aC) (I c) (.slice q5 m h))
 generalize j:World.setCell _ _ _=wz;rw[j]at M6;clear j M5;obtain⟨y0,y1,y2,y3,y4,y5,y6,y7,y8,y9⟩:=(M6.bk 5).ten;exact bodyPost_ret (v:= .tuple #[.agg #[aA,aB,.slice p5 n g,a,b,aE,aF,aC,c,.slice q5 m h],d,.bool true]) (by simp[results,results26,go_sem, *]) rfl ⟨p5,g,q5,h,rfl,(M6.ow 0),(M6.ow 1),M6.ext⟩
theorem tZ (aA aB a c aE aF aC aG u x:Int)(p:OA)(n d:Nat)(q:OA)(m c2:Nat)(xs:List Int)(vs:List aS)(w:World)
  (ae:xB 10 #[.agg #[aA,aB,.slice p n d,a,c,aE,aF,aC,aG,.slice q m c2]] w true)
  (HL:xC 25 #[.agg #[aA,aB,.slice p n d,a,c,aE,aF,aC,aG,.slice q m c2]] w fun w' e w''=> ∃p' cap' q' c2',e= .returned (.agg #[aA,aB,.slice p' n cap',a,c,aE,aF,aC,aG,.slice q' m c2'])∧w''.ownsRow w' TI 1 (.slice p' n cap') n (ivs xs)∧w''.ownsRow w' TV 4 (.slice q' m c2') m (vs.flatMap aD)∧Ext w' w'')
  (HP:xC 57 #[.agg #[aA,aB,.slice p n d,a,c,aE,aF,aC,aG,.slice q m c2],u,x] w fun w' e w''=> ∃p' cap' q' c2' b,e= .returned (.tuple #[.agg #[aA,aB,.slice p' n cap',a,c,aE,aF,aC,aG,.slice q' m c2'],b,.bool false])∧Ext w' w''):
  U 26 #[.agg #[aA,aB,.slice p n d,a,c,aE,aF,aC,aG,.slice q m c2],.agg #[I 1,u,x]] w fun e w'=> ∃p' cap' q' c2',e= .returned (.tuple #[.agg #[aA,aB,.slice p' n cap',a,c,aE,aF,aC,aG,.slice q' m c2'],(-1:Int),.bool false])∧w'.ownsRow w TI 1 (.slice p' n cap') n (ivs xs)∧w'.ownsRow w TV 4 (.slice q' m c2') m (vs.flatMap aD)∧Ext w w':=by
 go_enter func26,ntmps26;go_wp2_with fail;refine Z (ae _ ((((Mem.start w).c0 aL #[aA,aB,.slice p n d,a,c,aE,aF,aC,aG,.slice q m c2]).c1 THD #[I 1,u,x]).c2 aL zT).ext) fun w1 ak=>?_
 have M1:=(((((Mem.start w).c0 aL #[aA,aB,.slice p n d,a,c,aE,aF,aC,aG,.slice q m c2]).c1 THD #[I 1,u,x]).c2 aL zT).adv ak)
 clear ak ae;obtain⟨f,g,h,j,k,l,o,r,s,t⟩:=(M1.bk 2).ten;go_wp2_with fail;clear f g h j k l o r s t;refine(HL _ M1.ext).mono ?_;rintro e w2 ⟨p1,af,q1,ah,rfl,ho,hq,hx⟩;have M2:=(M1.own2 hx ho hq (aK1 _) (by decide))
 clear M1 hx ho hq;have aa:=M2.hi 3;have ab:=M2.hi 4;obtain⟨f,g,h,j,k,l,o,r,s,t⟩:=(M2.bk 4).ten;obtain⟨al,am,an⟩:=(M2.bk 3).tri;go_wp2_with fail;clear f g h j k l o r s t al am an;refine(HP _ (M2.c0 aL #[aA,aB,.slice p1 n af,a,c,aE,aF,aC,aG,.slice q1 m ah]).ext).mono ?_;rintro e w3 ⟨p5,ag,q5,ai,b5,rfl,hx⟩;have M3:=((M2.c0 aL #[aA,aB,.slice p1 n af,a,c,aE,aF,aC,aG,.slice q1 m ah]).adv hx)
 clear M2 aa ab hx HP;have ad:=M3.hi 5;obtain⟨f,g,h,j,k,l,o,r,s,t⟩:=(M3.bk 5).ten;go_wp2_with fail;clear f g h j k l o r s t;refine(HL _ (M3.c0 aL #[aA,aB,.slice p5 n ag,a,c,aE,aF,aC,aG,.slice q5 m ai]).ext).mono ?_;rintro e w9 ⟨p9,y,q9,z,rfl,ho,hq,hx⟩;have M4:=((M3.c0 aL #[aA,aB,.slice p5 n ag,a,c,aE,aF,aC,aG,.slice q5 m ai]).own2 hx ho hq (aK1 _) (by decide))
 clear M3 ad hx ho hq HL;obtain⟨f0,ao,f1,ap,f2,aq,f3,ar,f4,au,f5,av,f6,aw,f7,ax,f8,ay,f9,az⟩:=(M4.bk 6).tenf;go_wp2;clear f0 ao f1 ap f2 aq f3 ar f4 au f5 av f6 aw f7 ax f8 ay f9 az;have M5:=(M4.put10 (i:=6) rfl (I aA) (I aB) (.slice p9 n y) (I a) (I c) (I aE) (I aF) (I aC) (I aG) (.slice q9 m z))
 generalize aj:World.setCell _ _ _=wz;rw[aj]at M5;clear aj M4;obtain⟨y0,y1,y2,y3,y4,y5,y6,y7,y8,y9⟩:=(M5.bk 6).ten;exact bodyPost_ret (v:= .tuple #[.agg #[aA,aB,.slice p9 n y,a,c,aE,aF,aC,aG,.slice q9 m z],(-1:Int),.bool false]) (by simp[results,results26,go_sem, *]) rfl ⟨p9,y,q9,z,rfl,(M5.ow 0),(M5.ow 1),M5.ext⟩
theorem qD (aA aB a b aE aF aC aG h j:Int)(p:OA)(n c:Nat)(q:OA)(m c2:Nat)(xs ys:List Int)(vs:List aS)(w:World)
  (ae:xB 10 #[.agg #[aA,aB,.slice p n c,a,b,aE,aF,aC,aG,.slice q m c2]] w true)
  (HL:xC 25 #[.agg #[aA,aB,.slice p n c,a,b,aE,aF,aC,aG,.slice q m c2]] w fun w' e w''=> ∃p' cap' q' c2',e= .returned (.agg #[aA,aB,.slice p' n cap',a,b,aE,aF,aC,aG,.slice q' m c2'])∧w''.ownsRow w' TI 1 (.slice p' n cap') n (ivs xs)∧w''.ownsRow w' TV 4 (.slice q' m c2') m (vs.flatMap aD)∧Ext w' w'')
  (HP:xC 61 #[aH aA aB p n c,dH h j] w fun w' e w''=> ∃p' cap',e= .returned (.tuple #[aH aA aB p' n cap',.bool true])∧w''.ownsRow w' TI 1 (.slice p' n cap') n (ivs ys)∧Ext w' w''):
  U 26 #[.agg #[aA,aB,.slice p n c,a,b,aE,aF,aC,aG,.slice q m c2],.agg #[I 4,h,j]] w fun e w'=> ∃p' cap' q' c2',e= .returned (.tuple #[.agg #[aA,aB,.slice p' n cap',a,b,aE,aF,aC,aG,.slice q' m c2'],(),.bool true])∧w'.ownsRow w TI 1 (.slice p' n cap') n (ivs ys)∧w'.ownsRow w TV 4 (.slice q' m c2') m (vs.flatMap aD)∧Ext w w':=by
 go_enter func26,ntmps26;go_wp2_with fail;refine Z (ae _ ((((Mem.start w).c0 aL #[aA,aB,.slice p n c,a,b,aE,aF,aC,aG,.slice q m c2]).c1 THD #[I 4,h,j]).c2 aL zT).ext) fun w1 ag=>?_
 have M1:=(((((Mem.start w).c0 aL #[aA,aB,.slice p n c,a,b,aE,aF,aC,aG,.slice q m c2]).c1 THD #[I 4,h,j]).c2 aL zT).adv ag)
 clear ag ae;obtain⟨k,l,o,r,s,t,u,x,y,z⟩:=(M1.bk 2).ten;go_wp2_with fail;clear k l o r s t u x y z;refine(HL _ M1.ext).mono ?_;rintro e w2 ⟨p1,af,q1,f,rfl,ho,hq,hx⟩;have M2:=(M1.own2 hx ho hq (aK1 _) (by decide))
 clear M1 hx ho hq;have aa:=M2.hi 3;have ab:=M2.hi 4;obtain⟨k,l,o,r,s,t,u,x,y,z⟩:=(M2.bk 4).ten;obtain⟨ah,ai,aj⟩:=(M2.bk 3).tri;go_wp2_with fail;clear k l o r s t u x y z ah ai aj;refine(HP _ (M2.c0 aL #[aA,aB,.slice p1 n af,a,b,aE,aF,aC,aG,.slice q1 m f]).ext).mono ?_;rintro e w3 ⟨p5,d,rfl,ho,hx⟩;have M3:=((M2.c0 aL #[aA,aB,.slice p1 n af,a,b,aE,aF,aC,aG,.slice q1 m f]).call hx ho)
 clear M2 aa ab hx ho HP HL;have ad:=M3.hi 1;obtain⟨d0,ak,d1,al,d2,am,d3,an,d4,ao,d5,ap,d6,aq,d7,ar,d8,au,d9,av⟩:=(M3.bk 1).tenf;have M4:=(((M3.st 1 0 (I aA)).st 1 1 (I aB)).st 1 2 (.slice p5 n d))
 go_upto_region 32 with fail;clear d0 ak d1 al d2 am d3 an d4 ao d5 ap d6 aq d7 ar d8 au d9 av ad;have M5:=(M4)
 generalize g:World.setCell _ _ _=w4;rw[g]at M5;clear g M3 M4;have M6:=(M5.adv ((Ext.refl _).alloc (.cells #[aA,aB,.slice p5 n d] TH3)))
 generalize (w4.alloc (.cells #[aA,aB,.slice p5 n d] TH3))=w5 at M6⊢;clear M5;obtain⟨e0,e1,e2,e3,e4,e5,e6,e7,e8,e9⟩:=(M6.bk 1).ten;obtain⟨f0,aw,f1,ax,f2,ay,f3,az,f4,a0,f5,a1,f6,a2,f7,a3,f8,a4,f9,a5⟩:=(M6.bk 4).tenf;go_wp2;clear e0 e1 e2 e3 e4 e5 e6 e7 e8 e9 f0 aw f1 ax f2 ay f3 az f4 a0 f5 a1 f6 a2 f7 a3 f8 a4 f9 a5;have M7:=(M6.put10 (i:=4) rfl (I aA) (I aB) (.slice p5 n d) (I a) (I b) (I aE) (I aF) (I aC) (I aG) (.slice q1 m f))
 generalize g:World.setCell _ _ _=wz;rw[g]at M7;clear g M6;obtain⟨y0,y1,y2,y3,y4,y5,y6,y7,y8,y9⟩:=(M7.bk 4).ten;exact bodyPost_ret (v:= .tuple #[.agg #[aA,aB,.slice p5 n d,a,b,aE,aF,aC,aG,.slice q1 m f],(),.bool true]) (by simp[results,results26,go_sem, *]) rfl ⟨p5,d,q1,f,rfl,(M7.ow 0),(M7.ow 3),M7.ext⟩
theorem rT (aA aB a b aE aF aC aG t u:Int)(p:OA)(n c:Nat)(q:OA)(m c2:Nat)(xs ys:List Int)(vs:List aS)(w:World)
  (ad:xB 10 #[.agg #[aA,aB,.slice p n c,a,b,aE,aF,aC,aG,.slice q m c2]] w true)
  (HL:xC 25 #[.agg #[aA,aB,.slice p n c,a,b,aE,aF,aC,aG,.slice q m c2]] w fun w' e w''=> ∃p' cap' q' c2',e= .returned (.agg #[aA,aB,.slice p' n cap',a,b,aE,aF,aC,aG,.slice q' m c2'])∧w''.ownsRow w' TI 1 (.slice p' n cap') n (ivs xs)∧w''.ownsRow w' TV 4 (.slice q' m c2') m (vs.flatMap aD)∧Ext w' w'')
  (HP:xC 61 #[aH aA aB p n c,dH t u] w fun w' e w''=> ∃p' cap',e= .returned (.tuple #[aH aA aB p' n cap',.bool false])∧w''.ownsRow w' TI 1 (.slice p' n cap') n (ivs ys)∧Ext w' w''):
  U 26 #[.agg #[aA,aB,.slice p n c,a,b,aE,aF,aC,aG,.slice q m c2],.agg #[I 4,t,u]] w fun e w'=> ∃p' cap' q' c2',e= .returned (.tuple #[.agg #[aA,aB,.slice p' n cap',a,b,aE,aF,aC,aG,.slice q' m c2'],(-1:Int),.bool false])∧w'.ownsRow w TI 1 (.slice p' n cap') n (ivs xs)∧w'.ownsRow w TV 4 (.slice q' m c2') m (vs.flatMap aD)∧Ext w w':=by
 go_enter func26,ntmps26;go_wp2_with fail;refine Z (ad _ ((((Mem.start w).c0 aL #[aA,aB,.slice p n c,a,b,aE,aF,aC,aG,.slice q m c2]).c1 THD #[I 4,t,u]).c2 aL zT).ext) fun w1 ai=>?_
 have M1:=(((((Mem.start w).c0 aL #[aA,aB,.slice p n c,a,b,aE,aF,aC,aG,.slice q m c2]).c1 THD #[I 4,t,u]).c2 aL zT).adv ai)
 clear ai ad;obtain⟨d,f,g,h,j,k,l,o,r,s⟩:=(M1.bk 2).ten;go_wp2_with fail;clear d f g h j k l o r s;refine(HL _ M1.ext).mono ?_;rintro e w2 ⟨p1,ae,q1,ag,rfl,ho,hq,hx⟩;have M2:=(M1.own2 hx ho hq (aK1 _) (by decide))
 clear M1 hx ho hq;have z:=M2.hi 3;have aa:=M2.hi 4;obtain⟨d,f,g,h,j,k,l,o,r,s⟩:=(M2.bk 4).ten;obtain⟨aj,ak,al⟩:=(M2.bk 3).tri;go_wp2_with fail;clear d f g h j k l o r s aj ak al;refine(HP _ (M2.c0 aL #[aA,aB,.slice p1 n ae,a,b,aE,aF,aC,aG,.slice q1 m ag]).ext).mono ?_;rintro e w3 ⟨p5,af,rfl,ho,hx⟩;have M3:=((M2.c0 aL #[aA,aB,.slice p1 n ae,a,b,aE,aF,aC,aG,.slice q1 m ag]).call hx ho)
 clear M2 z aa hx ho HP;have ab:=M3.hi 6;obtain⟨d,f,g,h,j,k,l,o,r,s⟩:=(M3.bk 6).ten;go_wp2_with fail;clear d f g h j k l o r s;refine(HL _ (M3.c0 TH3 #[aA,aB,.slice p5 n af]).ext).mono ?_;rintro e w9 ⟨p9,x,q9,y,rfl,ho,hq,hx⟩;have M4:=((M3.c0 TH3 #[aA,aB,.slice p5 n af]).own2 hx ho hq (aK1 _) (by decide))
 clear M3 ab hx ho hq HL;obtain⟨f0,am,f1,an,f2,ao,f3,ap,f4,aq,f5,ar,f6,au,f7,av,f8,aw,f9,ax⟩:=(M4.bk 7).tenf;go_wp2;clear f0 am f1 an f2 ao f3 ap f4 aq f5 ar f6 au f7 av f8 aw f9 ax;have M5:=(M4.put10 (i:=7) rfl (I aA) (I aB) (.slice p9 n x) (I a) (I b) (I aE) (I aF) (I aC) (I aG) (.slice q9 m y))
 generalize ah:World.setCell _ _ _=wz;rw[ah]at M5;clear ah M4;obtain⟨y0,y1,y2,y3,y4,y5,y6,y7,y8,y9⟩:=(M5.bk 7).ten;exact bodyPost_ret (v:= .tuple #[.agg #[aA,aB,.slice p9 n x,a,b,aE,aF,aC,aG,.slice q9 m y],(-1:Int),.bool false]) (by simp[results,results26,go_sem, *]) rfl ⟨p9,x,q9,y,rfl,(M5.ow 0),(M5.ow 1),M5.ext⟩
end Go.Proofs.YtbgkcehffiogcaaGreatDoor
