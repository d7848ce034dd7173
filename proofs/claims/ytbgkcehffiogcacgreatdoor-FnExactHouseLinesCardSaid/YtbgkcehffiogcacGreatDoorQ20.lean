/-
  Texts of this proof, packed (@packed).
-/
import Derived.Test.YtbgkcehffiogcacGreatDoorQ19
namespace Go.Proofs.YtbgkcehffiogcacGreatDoor
open Go.RowKit Go.Proofs.Tryz
set_option linter.unusedSimpArgs false
set_option linter.unusedVariables false
set_option maxHeartbeats 8000000
set_option maxRecDepth 100000
theorem aKp (aA aB a b aD aF aC aG id:Int)(p:OA)(n cap:Nat)(q:OA)(m c2:Nat)(w:World)
  (f:xC 134 #[.agg #[aA,aB,.slice p n cap,a,b,aD,aF,aC,aG,.slice q m c2],id] w fun w' e w''=>e= .returned (.tuple #[.agg #[(),(),()],.bool false])∧Ext w' w''):
  U 92 #[.agg #[aA,aB,.slice p n cap,a,b,aD,aF,aC,aG,.slice q m c2],id] w (O (I (-1)) w):=by
 go_enter func92,ntmps92;go_wp2_with fail;refine Z (f _ (by exact .alloc (.refl _) _)) fun w1 c=>?_
 have d:Blk w1 w 35 #[aA,aB,.slice p n cap,a,b,aD,aF,aC,aG,.slice q m c2]:=(Blk.new w _ _).ext c;have X1:Ext w w1:=((Ext.refl w).alloc _).trans c;replace d:=xQ d;clear c;go_wp2;go_ret;exact⟨rfl,by exact .alloc X1 _⟩
theorem aHd (aA aB a b aD aF aC aG id:Int)(p:OA)(n cap:Nat)(q:OA)(m c2:Nat)(w:World)(a1 a2 a3:Int)(D:Int)
  (f:xC 134 #[.agg #[aA,aB,.slice p n cap,a,b,aD,aF,aC,aG,.slice q m c2],id] w fun w' e w''=>e= .returned (.tuple #[.agg #[a1,a2,a3],.bool true])∧Ext w' w'')
  (HD:Hid (∀w',U 130 #[aT a b aD aF,bS a1 a2 a3,aC] w' (O (I D) w'))):
  U 92 #[.agg #[aA,aB,.slice p n cap,a,b,aD,aF,aC,aG,.slice q m c2],id] w (O (I D) w):=by
 go_enter func92,ntmps92;go_wp2_with fail;refine Z (f _ (by exact .alloc (.refl _) _)) fun w1 d=>?_
 have c:Blk w1 w 35 #[aA,aB,.slice p n cap,a,b,aD,aF,aC,aG,.slice q m c2]:=(Blk.new w _ _).ext d;have X1:Ext w w1:=((Ext.refl w).alloc _).trans d;have s1:(w:Nat)<w1:=c.lt;replace c:=xQ c;clear d;obtain⟨h,i,j,k,l,o,r,s,t,u⟩:=c.out.ten;go_wp2_with fail;refine Z (HD _) fun w2 g=>?_
 go_wp2;go_ret;exact⟨rfl,by exact .trans (.alloc X1 _) g⟩
theorem aKn (aA aB a b aD aF aC aG id:Int)(p:OA)(n cap:Nat)(q:OA)(m c2:Nat)(w:World)
  (f:xC 134 #[.agg #[aA,aB,.slice p n cap,a,b,aD,aF,aC,aG,.slice q m c2],id] w fun w' e w''=>e= .returned (.tuple #[.agg #[(),(),()],.bool false])∧Ext w' w''):
  U 93 #[.agg #[aA,aB,.slice p n cap,a,b,aD,aF,aC,aG,.slice q m c2],id] w (O (.bool false) w):=by
 go_enter func93,ntmps93;go_wp2_with fail;refine Z (f _ (by exact .alloc (.refl _) _)) fun w1 c=>?_
 have d:Blk w1 w 35 #[aA,aB,.slice p n cap,a,b,aD,aF,aC,aG,.slice q m c2]:=(Blk.new w _ _).ext c;have X1:Ext w w1:=((Ext.refl w).alloc _).trans c;replace d:=xQ d;clear c;go_wp2;go_ret;exact⟨rfl,by exact .alloc X1 _⟩
theorem aHb (aA aB a b aD aF aC aG id:Int)(p:OA)(n cap:Nat)(q:OA)(m c2:Nat)(w:World)(a1 a2 a3:Int)(D:Bool)
  (f:xC 134 #[.agg #[aA,aB,.slice p n cap,a,b,aD,aF,aC,aG,.slice q m c2],id] w fun w' e w''=>e= .returned (.tuple #[.agg #[a1,a2,a3],.bool true])∧Ext w' w'')
  (HD:Hid (∀w',U 135 #[aT a b aD aF,bS a1 a2 a3,aC] w' (O (.bool D) w'))):
  U 93 #[.agg #[aA,aB,.slice p n cap,a,b,aD,aF,aC,aG,.slice q m c2],id] w (O (.bool D) w):=by
 go_enter func93,ntmps93;go_wp2_with fail;refine Z (f _ (by exact .alloc (.refl _) _)) fun w1 d=>?_
 have c:Blk w1 w 35 #[aA,aB,.slice p n cap,a,b,aD,aF,aC,aG,.slice q m c2]:=(Blk.new w _ _).ext d;have X1:Ext w w1:=((Ext.refl w).alloc _).trans d;have s1:(w:Nat)<w1:=c.lt;replace c:=xQ c;clear d;obtain⟨h,i,j,k,l,o,r,s,t,u⟩:=c.out.ten;go_wp2_with fail;refine Z (HD _) fun w2 g=>?_
 go_wp2;go_ret;exact⟨rfl,by exact .trans (.alloc X1 _) g⟩
theorem aJm (aA aB a b aD aF aC aG id:Int)(p:OA)(n cap:Nat)(q:OA)(m c2:Nat)(w:World)
  (f:xC 107 #[.agg #[aA,aB,.slice p n cap,a,b,aD,aF,aC,aG,.slice q m c2],id] w fun w' e w''=>e= .returned (.tuple #[.agg #[(),(),()],.bool false])∧Ext w' w''):
  U 69 #[.agg #[aA,aB,.slice p n cap,a,b,aD,aF,aC,aG,.slice q m c2],id] w (O (I (-1)) w):=by
 go_enter func69,ntmps69;go_wp2_with fail;refine Z (f _ (by exact .alloc (.refl _) _)) fun w1 c=>?_
 have d:Blk w1 w 35 #[aA,aB,.slice p n cap,a,b,aD,aF,aC,aG,.slice q m c2]:=(Blk.new w _ _).ext c;have X1:Ext w w1:=((Ext.refl w).alloc _).trans c;replace d:=xQ d;clear c;go_wp2;go_ret;exact⟨rfl,by exact .alloc X1 _⟩
theorem aG2 (aA aB a b aD aF aC aG id:Int)(p:OA)(n cap:Nat)(q:OA)(m c2:Nat)(w:World)(a1 a2 a3:Int)(D:Int)
  (f:xC 107 #[.agg #[aA,aB,.slice p n cap,a,b,aD,aF,aC,aG,.slice q m c2],id] w fun w' e w''=>e= .returned (.tuple #[.agg #[a1,a2,a3],.bool true])∧Ext w' w'')
  (HD:Hid (∀w',U 113 #[aT a b aD aF,bS a1 a2 a3,aC] w' (O (I D) w'))):
  U 69 #[.agg #[aA,aB,.slice p n cap,a,b,aD,aF,aC,aG,.slice q m c2],id] w (O (I D) w):=by
 go_enter func69,ntmps69;go_wp2_with fail;refine Z (f _ (by exact .alloc (.refl _) _)) fun w1 d=>?_
 have c:Blk w1 w 35 #[aA,aB,.slice p n cap,a,b,aD,aF,aC,aG,.slice q m c2]:=(Blk.new w _ _).ext d;have X1:Ext w w1:=((Ext.refl w).alloc _).trans d;have s1:(w:Nat)<w1:=c.lt;replace c:=xQ c;clear d;obtain⟨h,i,j,k,l,o,r,s,t,u⟩:=c.out.ten;go_wp2_with fail;refine Z (HD _) fun w2 g=>?_
 go_wp2;go_ret;exact⟨rfl,by exact .trans (.alloc X1 _) g⟩
theorem aJk (aA aB a b aD aF aC aG id:Int)(p:OA)(n cap:Nat)(q:OA)(m c2:Nat)(w:World)
  (f:xC 107 #[.agg #[aA,aB,.slice p n cap,a,b,aD,aF,aC,aG,.slice q m c2],id] w fun w' e w''=>e= .returned (.tuple #[.agg #[(),(),()],.bool false])∧Ext w' w''):
  U 61 #[.agg #[aA,aB,.slice p n cap,a,b,aD,aF,aC,aG,.slice q m c2],id] w (O (.bool false) w):=by
 go_enter func61,ntmps61;go_wp2_with fail;refine Z (f _ (by exact .alloc (.refl _) _)) fun w1 c=>?_
 have d:Blk w1 w 35 #[aA,aB,.slice p n cap,a,b,aD,aF,aC,aG,.slice q m c2]:=(Blk.new w _ _).ext c;have X1:Ext w w1:=((Ext.refl w).alloc _).trans c;replace d:=xQ d;clear c;go_wp2;go_ret;exact⟨rfl,by exact .alloc X1 _⟩
theorem aFz (aA aB a b aD aF aC aG id:Int)(p:OA)(n cap:Nat)(q:OA)(m c2:Nat)(w:World)(a1 a2 a3:Int)(D:Bool)
  (f:xC 107 #[.agg #[aA,aB,.slice p n cap,a,b,aD,aF,aC,aG,.slice q m c2],id] w fun w' e w''=>e= .returned (.tuple #[.agg #[a1,a2,a3],.bool true])∧Ext w' w'')
  (HD:Hid (∀w',U 108 #[aT a b aD aF,bS a1 a2 a3,aC] w' (O (.bool D) w'))):
  U 61 #[.agg #[aA,aB,.slice p n cap,a,b,aD,aF,aC,aG,.slice q m c2],id] w (O (.bool D) w):=by
 go_enter func61,ntmps61;go_wp2_with fail;refine Z (f _ (by exact .alloc (.refl _) _)) fun w1 d=>?_
 have c:Blk w1 w 35 #[aA,aB,.slice p n cap,a,b,aD,aF,aC,aG,.slice q m c2]:=(Blk.new w _ _).ext d;have X1:Ext w w1:=((Ext.refl w).alloc _).trans d;have s1:(w:Nat)<w1:=c.lt;replace c:=xQ c;clear d;obtain⟨h,i,j,k,l,o,r,s,t,u⟩:=c.out.ten;go_wp2_with fail;refine Z (HD _) fun w2 g=>?_
 go_wp2;go_ret;exact⟨rfl,by exact .trans (.alloc X1 _) g⟩
theorem qD {h:aL}{id a1 a2 a3:Int}(hs:cV h id=some (a1,a2,a3)):bO h.free h.step h.aD h.aF=true∧dF a1 a2 a3=true∧a3≤h.aC∧h.aC≤9999:=by
 unfold cV at hs;split at hs
 ·rename_i hok;rw[Option.map_eq_some_iff]at hs;obtain⟨v,hv,e⟩:=hs;have hm:=aT6 hv;simp only[aR,rF,aRy,decide_eq_true_eq]at hok;have:=(jN hok.2).2 v hm;obtain⟨v0,v1,v2,v3⟩:=v;simp only[aSy]at e;obtain⟨rfl,rfl,rfl⟩:=e;simp only[fC,aRy,decide_eq_true_eq]at this;exact⟨hok.1.1.2,this.1,this.2,hok.1.2.2.1⟩
 simp at hs
theorem sO (h:aL)(id:Int)(p:OA)(n cap:Nat)(q:OA)(m c2:Nat)(w:World)(hi:IsHouse w h p n cap q m c2):
  U 92 #[bM h p n cap q m c2,id] w (O (I (bB h id)) w):=by
 have a:=fun(w':World) (hx:Ext w w')=>aId h id p n cap q m c2 w' (hi.ext hx)
 unfold uR at a;unfold bB;cases hs:cV h id with
 |none=>rw[hs]at a;exact aKp h.aA h.aB h.free h.step h.aD h.aF h.aC h.aG id p n cap q m c2 w a
 |some s=>obtain⟨a1,a2,a3⟩:=s;rw[hs]at a;obtain⟨t,st,hc,h9⟩:=qD hs;exact aHd h.aA h.aB h.free h.step h.aD h.aF h.aC h.aG id p n cap q m c2 w a1 a2 a3 _ a (fun w'=>xP h.free h.step h.aD h.aF a1 a2 a3 h.aC w' t st hc h9)
theorem sN (h:aL)(id:Int)(p:OA)(n cap:Nat)(q:OA)(m c2:Nat)(w:World)(hi:IsHouse w h p n cap q m c2):
  U 93 #[bM h p n cap q m c2,id] w (O (.bool (dQ h id)) w):=by
 have a:=fun(w':World) (hx:Ext w w')=>aId h id p n cap q m c2 w' (hi.ext hx)
 unfold uR at a;unfold dQ;cases hs:cV h id with
 |none=>rw[hs]at a;exact aKn h.aA h.aB h.free h.step h.aD h.aF h.aC h.aG id p n cap q m c2 w a
 |some s=>obtain⟨a1,a2,a3⟩:=s;rw[hs]at a;obtain⟨t,st,hc,h9⟩:=qD hs;exact aHb h.aA h.aB h.free h.step h.aD h.aF h.aC h.aG id p n cap q m c2 w a1 a2 a3 _ a (fun w'=>aQq h.free h.step h.aD h.aF a1 a2 a3 h.aC w' t st hc h9)
theorem nS (h:aL)(id:Int)(p:OA)(n cap:Nat)(q:OA)(m c2:Nat)(w:World)(hi:IsHouse w h p n cap q m c2):
  U 69 #[bM h p n cap q m c2,id] w (O (I (bB h id)) w):=by
 have a:=fun(w':World) (hx:Ext w w')=>aI7 h id p n cap q m c2 w' (hi.ext hx)
 unfold uR at a;unfold bB;cases hs:cV h id with
 |none=>rw[hs]at a;exact aJm h.aA h.aB h.free h.step h.aD h.aF h.aC h.aG id p n cap q m c2 w a
 |some s=>obtain⟨a1,a2,a3⟩:=s;rw[hs]at a;obtain⟨t,st,hc,h9⟩:=qD hs;exact aG2 h.aA h.aB h.free h.step h.aD h.aF h.aC h.aG id p n cap q m c2 w a1 a2 a3 _ a (fun w'=>aB7 h.free h.step h.aD h.aF a1 a2 a3 h.aC w' t st hc h9)
theorem rV (h:aL)(id:Int)(p:OA)(n cap:Nat)(q:OA)(m c2:Nat)(w:World)(hi:IsHouse w h p n cap q m c2):
  U 61 #[bM h p n cap q m c2,id] w (O (.bool (dQ h id)) w):=by
 have a:=fun(w':World) (hx:Ext w w')=>aI7 h id p n cap q m c2 w' (hi.ext hx)
 unfold uR at a;unfold dQ;cases hs:cV h id with
 |none=>rw[hs]at a;exact aJk h.aA h.aB h.free h.step h.aD h.aF h.aC h.aG id p n cap q m c2 w a
 |some s=>obtain⟨a1,a2,a3⟩:=s;rw[hs]at a;obtain⟨t,st,hc,h9⟩:=qD hs;exact aFz h.aA h.aB h.free h.step h.aD h.aF h.aC h.aG id p n cap q m c2 w a1 a2 a3 _ a (fun w'=>aQb h.free h.step h.aD h.aF a1 a2 a3 h.aC w' t st hc h9)
abbrev THD:TypeId:=53
theorem aG6 (aA aB a b aD aF aC aG c d f:Int)(p:OA)(n cap:Nat)(q:OA)(m c2:Nat)(xs:List Int)(vs:List aP)(w:World)
  (g:xB 21 #[.agg #[aA,aB,.slice p n cap,a,b,aD,aF,aC,aG,.slice q m c2]] w false):
  U 23 #[.agg #[aA,aB,.slice p n cap,a,b,aD,aF,aC,aG,.slice q m c2],.agg #[c,d,f]] w (O (.tuple #[.agg #[(),(),((),()),(),(),(),(),(),(),((),())],(-1:Int),.bool false]) w):=by
 go_enter func23,ntmps23;go_wp2_with fail;refine Z (g _ ((((Mem.start w).c0 aK #[aA,aB,.slice p n cap,a,b,aD,aF,aC,aG,.slice q m c2]).c1 THD #[c,d,f]).c2 aK zT).ext) fun w1 j=>?_
 have M1:=(((((Mem.start w).c0 aK #[aA,aB,.slice p n cap,a,b,aD,aF,aC,aG,.slice q m c2]).c1 THD #[c,d,f]).c2 aK zT).adv j)
 clear j g;obtain⟨f0,k,f1,l,f2,o,f3,r,f4,s,f5,t,f6,u,f7,x,f8,y,f9,z⟩:=(M1.bk 0).tenf;go_wp2;clear f0 k f1 l f2 o f3 r f4 s f5 t f6 u f7 x f8 y f9 z;have M2:=(M1.put10 (i:=0) rfl (I 0) (I 0) (.slice none 0 0) (I 0) (I 0) (I 0) (I 0) (I 0) (I 0) (.slice none 0 0))
 generalize h:World.setCell _ _ _=wz;rw[h]at M2;clear h M1;obtain⟨y0,y1,y2,y3,y4,y5,y6,y7,y8,y9⟩:=(M2.bk 0).ten;exact bodyPost_ret (v:= .tuple #[.agg #[(),(),((),()),(),(),(),(),(),(),((),())],(-1:Int),.bool false]) (by simp[results,results23,go_sem, *]) rfl ⟨rfl,M2.ext⟩
theorem aBg (aA aB b c aD aF aC aG a z aa:Int)(p:OA)(n cap:Nat)(q:OA)(m c2:Nat)(xs:List Int)(vs:List aP)(w:World)(h0:a≠0)(h1:a≠1)(h2:a≠2)(h3:a≠3)(h4:a≠4)
  (ab:xB 21 #[.agg #[aA,aB,.slice p n cap,b,c,aD,aF,aC,aG,.slice q m c2]] w true)
  (HL:xC 26 #[.agg #[aA,aB,.slice p n cap,b,c,aD,aF,aC,aG,.slice q m c2]] w fun w' e w''=> ∃p' cap' q' c2',e= .returned (.agg #[aA,aB,.slice p' n cap',b,c,aD,aF,aC,aG,.slice q' m c2'])∧w''.ownsRow w' TI 1 (.slice p' n cap') n (ivs xs)∧w''.ownsRow w' TV 4 (.slice q' m c2') m (vs.flatMap aE)∧Ext w' w''):
  U 23 #[.agg #[aA,aB,.slice p n cap,b,c,aD,aF,aC,aG,.slice q m c2],.agg #[a,z,aa]] w fun e w'=> ∃p' cap' q' c2',e= .returned (.tuple #[.agg #[aA,aB,.slice p' n cap',b,c,aD,aF,aC,aG,.slice q' m c2'],(-1:Int),.bool false])∧w'.ownsRow w TI 1 (.slice p' n cap') n (ivs xs)∧w'.ownsRow w TV 4 (.slice q' m c2') m (vs.flatMap aE)∧Ext w w':=by
 go_enter func23,ntmps23;go_wp2_with fail;refine Z (ab _ ((((Mem.start w).c0 aK #[aA,aB,.slice p n cap,b,c,aD,aF,aC,aG,.slice q m c2]).c1 THD #[a,z,aa]).c2 aK zT).ext) fun w1 ag=>?_
 have M1:=(((((Mem.start w).c0 aK #[aA,aB,.slice p n cap,b,c,aD,aF,aC,aG,.slice q m c2]).c1 THD #[a,z,aa]).c2 aK zT).adv ag)
 clear ag ab;obtain⟨d,f,g,h,j,k,l,o,r,s⟩:=(M1.bk 2).ten;go_wp2_with fail;clear d f g h j k l o r s;refine(HL _ M1.ext).mono ?_;rintro e w2 ⟨p1,ad,q1,ae,rfl,ho,hq,hx⟩;have M2:=(M1.own2 hx ho hq (aRp _) (by decide))
 clear M1 hx ho hq;have x:=M2.hi 3;have y:=M2.hi 4;obtain⟨d,f,g,h,j,k,l,o,r,s⟩:=(M2.bk 4).ten;have ah:=(M2.bk 3).cl 0;have k0:(a==0)=false:=by simp;omega
 have k1:(a==1)=false:=by simp;omega
 have k2:(a==2)=false:=by simp;omega
 have k3:(a==3)=false:=by simp;omega
 have k4:(a==4)=false:=by simp;omega
 go_wp2_with fail;clear d f g h j k l o r s ah;refine(HL _ (M2.c0 aK #[aA,aB,.slice p1 n ad,b,c,aD,aF,aC,aG,.slice q1 m ae]).ext).mono ?_;rintro e w9 ⟨p9,t,q9,u,rfl,ho,hq,hx⟩;have M3:=((M2.c0 aK #[aA,aB,.slice p1 n ad,b,c,aD,aF,aC,aG,.slice q1 m ae]).own2 hx ho hq (aRp _) (by decide))
 clear M2 x y hx ho hq HL;obtain⟨f0,ai,f1,aj,f2,ak,f3,al,f4,am,f5,an,f6,ao,f7,ap,f8,aq,f9,ar⟩:=(M3.bk 5).tenf;go_wp2;clear f0 ai f1 aj f2 ak f3 al f4 am f5 an f6 ao f7 ap f8 aq f9 ar;have M4:=(M3.put10 (i:=5) rfl (I aA) (I aB) (.slice p9 n t) (I b) (I c) (I aD) (I aF) (I aC) (I aG) (.slice q9 m u))
 generalize af:World.setCell _ _ _=wz;rw[af]at M4;clear af M3;obtain⟨y0,y1,y2,y3,y4,y5,y6,y7,y8,y9⟩:=(M4.bk 5).ten;exact bodyPost_ret (v:= .tuple #[.agg #[aA,aB,.slice p9 n t,b,c,aD,aF,aC,aG,.slice q9 m u],(-1:Int),.bool false]) (by simp[results,results23,go_sem, *]) rfl ⟨p9,t,q9,u,rfl,(M4.ow 0),(M4.ow 1),M4.ext⟩
theorem vO (aA aB a b aD aF aC aG c ad:Int)(p:OA)(n cap:Nat)(q:OA)(m c2:Nat)(xs:List Int)(vs:List aP)(w:World)(hc:0≤aC)(a5:aC≤9999)(h1:1≤c)(h2:c≤9999-aC)
  (ae:xB 21 #[.agg #[aA,aB,.slice p n cap,a,b,aD,aF,aC,aG,.slice q m c2]] w true)
  (HL:xC 26 #[.agg #[aA,aB,.slice p n cap,a,b,aD,aF,aC,aG,.slice q m c2]] w fun w' e w''=> ∃p' cap' q' c2',e= .returned (.agg #[aA,aB,.slice p' n cap',a,b,aD,aF,aC,aG,.slice q' m c2'])∧w''.ownsRow w' TI 1 (.slice p' n cap') n (ivs xs)∧w''.ownsRow w' TV 4 (.slice q' m c2') m (vs.flatMap aE)∧Ext w' w'')
  (HI:Hid (∀w',U 50 #[c,I 1,(9999-aC:Int)] w' fun e w''=>e= .returned (.bool true)∧w'=w'')):
  U 23 #[.agg #[aA,aB,.slice p n cap,a,b,aD,aF,aC,aG,.slice q m c2],.agg #[I 3,c,ad]] w fun e w'=> ∃p' cap' q' c2',e= .returned (.tuple #[.agg #[aA,aB,.slice p' n cap',a,b,aD,aF,(aC+c:Int),aG,.slice q' m c2'],(aC+c:Int),.bool true])∧w'.ownsRow w TI 1 (.slice p' n cap') n (ivs xs)∧w'.ownsRow w TV 4 (.slice q' m c2') m (vs.flatMap aE)∧Ext w w':=by
 go_enter func23,ntmps23;go_wp2_with fail;refine Z (ae _ ((((Mem.start w).c0 aK #[aA,aB,.slice p n cap,a,b,aD,aF,aC,aG,.slice q m c2]).c1 THD #[I 3,c,ad]).c2 aK zT).ext) fun w1 ag=>?_
 have M1:=(((((Mem.start w).c0 aK #[aA,aB,.slice p n cap,a,b,aD,aF,aC,aG,.slice q m c2]).c1 THD #[I 3,c,ad]).c2 aK zT).adv ag)
 clear ag ae;obtain⟨k,l,o,r,s,t,u,d,x,y⟩:=(M1.bk 2).ten;go_wp2_with fail;clear k l o r s t u d x y;refine(HL _ M1.ext).mono ?_;rintro e w2 ⟨p1,f,q1,g,rfl,ho,hq,hx⟩;have M2:=(M1.own2 hx ho hq (aRp _) (by decide))
 clear M1 hx ho hq;have aa:=M2.hi 3;have ab:=M2.hi 4;obtain⟨k,l,o,r,s,t,u,d,x,y⟩:=(M2.bk 4).ten;obtain⟨ah,z,ai⟩:=(M2.bk 3).tri;have k1:IntKind.i64.wrap (9999-aC)=9999-aC:=aRr _ (by omega);go_wp2_with fail;refine(HI _).mono ?_;rintro e _ ⟨rfl,rfl⟩;clear HI k1 k l o r s t u d x y ah z ai;have M3:=(M2.c0 aK #[aA,aB,.slice p1 n f,a,b,aD,aF,aC,aG,.slice q1 m g])
 generalize (w2.alloc (.cells #[aA,aB,.slice p1 n f,a,b,aD,aF,aC,aG,.slice q1 m g] aK))=w3 at M3⊢;clear M2 aa ab;have d:=(M3.bk 5).cl 7;have z:=(M3.bk 4).cl 1;obtain⟨d0,aj,d1,ak,d2,al,d3,am,d4,an,d5,ao,d6,ap,d7,aq,d8,ar,d9,au⟩:=(M3.bk 0).tenf;obtain⟨f0,av,f1,aw,f2,ax,f3,ay,f4,az,f5,a0,f6,a1,f7,a2,f8,a3,f9,a4⟩:=(M3.bk 3).tenf;obtain⟨h,j⟩:=M3.nq 0 3;have k2:IntKind.i64.wrap (aC+c)=aC+c:=aRr _ (by omega);have hd:decide (aC+c<0)=false:=by simp;omega
 clear HL;have M4:=(M3.st 0 7 (I (aC+c)))
 go_wp2;clear d z d0 aj d1 ak d2 al d3 am d4 an d5 ao d6 ap d7 aq d8 ar d9 au f0 av f1 aw f2 ax f3 ay f4 az f5 a0 f6 a1 f7 a2 f8 a3 f9 a4 h j;have M5:=(M4.put10 (i:=3) rfl (I aA) (I aB) (.slice p1 n f) (I a) (I b) (I aD) (I aF) (I (aC+c)) (I aG) (.slice q1 m g))
 generalize af:World.setCell _ _ _=wz;rw[af]at M5;clear af M3 M4;obtain⟨y0,y1,y2,y3,y4,y5,y6,y7,y8,y9⟩:=(M5.bk 3).ten;exact bodyPost_ret (v:= .tuple #[.agg #[aA,aB,.slice p1 n f,a,b,aD,aF,(aC+c:Int),aG,.slice q1 m g],(aC+c:Int),.bool true]) (by simp[results,results23,go_sem, *]) rfl ⟨p1,f,q1,g,rfl,(M5.ow 1),(M5.ow 2),M5.ext⟩
theorem wP (aA aB a b aD aF aC aG s z:Int)(p:OA)(n cap:Nat)(q:OA)(m c2:Nat)(xs:List Int)(vs:List aP)(w:World)(hc:0≤aC)(av:aC≤9999)
  (aa:xB 21 #[.agg #[aA,aB,.slice p n cap,a,b,aD,aF,aC,aG,.slice q m c2]] w true)
  (HL:xC 26 #[.agg #[aA,aB,.slice p n cap,a,b,aD,aF,aC,aG,.slice q m c2]] w fun w' e w''=> ∃p' cap' q' c2',e= .returned (.agg #[aA,aB,.slice p' n cap',a,b,aD,aF,aC,aG,.slice q' m c2'])∧w''.ownsRow w' TI 1 (.slice p' n cap') n (ivs xs)∧w''.ownsRow w' TV 4 (.slice q' m c2') m (vs.flatMap aE)∧Ext w' w'')
  (HI:Hid (∀w',U 50 #[s,I 1,(9999-aC:Int)] w' fun e w''=>e= .returned (.bool false)∧w'=w'')):
  U 23 #[.agg #[aA,aB,.slice p n cap,a,b,aD,aF,aC,aG,.slice q m c2],.agg #[I 3,s,z]] w fun e w'=> ∃p' cap' q' c2',e= .returned (.tuple #[.agg #[aA,aB,.slice p' n cap',a,b,aD,aF,aC,aG,.slice q' m c2'],(-1:Int),.bool false])∧w'.ownsRow w TI 1 (.slice p' n cap') n (ivs xs)∧w'.ownsRow w TV 4 (.slice q' m c2') m (vs.flatMap aE)∧Ext w w':=by
 go_enter func23,ntmps23;go_wp2_with fail;refine Z (aa _ ((((Mem.start w).c0 aK #[aA,aB,.slice p n cap,a,b,aD,aF,aC,aG,.slice q m c2]).c1 THD #[I 3,s,z]).c2 aK zT).ext) fun w1 af=>?_
 have M1:=(((((Mem.start w).c0 aK #[aA,aB,.slice p n cap,a,b,aD,aF,aC,aG,.slice q m c2]).c1 THD #[I 3,s,z]).c2 aK zT).adv af)
 clear af aa;obtain⟨c,d,f,g,h,j,k,l,o,r⟩:=(M1.bk 2).ten;go_wp2_with fail;clear c d f g h j k l o r;refine(HL _ M1.ext).mono ?_;rintro e w2 ⟨p1,ab,q1,ad,rfl,ho,hq,hx⟩;have M2:=(M1.own2 hx ho hq (aRp _) (by decide))
 clear M1 hx ho hq;have x:=M2.hi 3;have y:=M2.hi 4;obtain⟨c,d,f,g,h,j,k,l,o,r⟩:=(M2.bk 4).ten;obtain⟨ag,ah,ai⟩:=(M2.bk 3).tri;have k1:IntKind.i64.wrap (9999-aC)=9999-aC:=aRr _ (by omega);go_wp2_with fail;refine(HI _).mono ?_;rintro e _ ⟨rfl,rfl⟩;clear HI k1 c d f g h j k l o r ag ah ai;have M3:=(M2.c0 aK #[aA,aB,.slice p1 n ab,a,b,aD,aF,aC,aG,.slice q1 m ad])
 generalize (w2.alloc (.cells #[aA,aB,.slice p1 n ab,a,b,aD,aF,aC,aG,.slice q1 m ad] aK))=w3 at M3⊢;clear M2 x y;obtain⟨c,d,f,g,h,j,k,l,o,r⟩:=(M3.bk 5).ten;go_wp2_with fail;clear c d f g h j k l o r;refine(HL _ M3.ext).mono ?_;rintro e w9 ⟨p9,t,q9,u,rfl,ho,hq,hx⟩;have M4:=(M3.own2 hx ho hq (aRp _) (by decide))
 clear M3 hx ho hq HL;obtain⟨f0,aj,f1,ak,f2,al,f3,am,f4,an,f5,ao,f6,ap,f7,aq,f8,ar,f9,au⟩:=(M4.bk 5).tenf;go_wp2;clear f0 aj f1 ak f2 al f3 am f4 an f5 ao f6 ap f7 aq f8 ar f9 au;have M5:=(M4.put10 (i:=5) rfl (I aA) (I aB) (.slice p9 n t) (I a) (I b) (I aD) (I aF) (I aC) (I aG) (.slice q9 m u))
 generalize ae:World.setCell _ _ _=wz;rw[ae]at M5;clear ae M4;obtain⟨y0,y1,y2,y3,y4,y5,y6,y7,y8,y9⟩:=(M5.bk 5).ten;exact bodyPost_ret (v:= .tuple #[.agg #[aA,aB,.slice p9 n t,a,b,aD,aF,aC,aG,.slice q9 m u],(-1:Int),.bool false]) (by simp[results,results23,go_sem, *]) rfl ⟨p9,t,q9,u,rfl,(M5.ow 0),(M5.ow 1),M5.ext⟩
theorem wQ (aA aB a b aD aF aC aG c d j k:Int)(p:OA)(n cap:Nat)(q:OA)(m c2:Nat)(xs:List Int)(vs aj:List aP)(w:World)(h0:0≤d)
  (af:xB 21 #[.agg #[aA,aB,.slice p n cap,a,b,aD,aF,aC,aG,.slice q m c2]] w true)
  (HL:xC 26 #[.agg #[aA,aB,.slice p n cap,a,b,aD,aF,aC,aG,.slice q m c2]] w fun w' e w''=> ∃p' cap' q' c2',e= .returned (.agg #[aA,aB,.slice p' n cap',a,b,aD,aF,aC,aG,.slice q' m c2'])∧w''.ownsRow w' TI 1 (.slice p' n cap') n (ivs xs)∧w''.ownsRow w' TV 4 (.slice q' m c2') m (vs.flatMap aE)∧Ext w' w'')
  (HP:xC 58 #[.agg #[aA,aB,.slice p n cap,a,b,aD,aF,aC,aG,.slice q m c2],j,k] w fun w' e w''=> ∃p' cap' q' c2',e= .returned (.tuple #[.agg #[aA,aB,.slice p' n cap',a,b,aD,aF,aC,c,.slice q' m c2'],d,.bool true])∧w''.ownsRow w' TI 1 (.slice p' n cap') n (ivs xs)∧w''.ownsRow w' TV 4 (.slice q' m c2') m (aj.flatMap aE)∧Ext w' w''):
  U 23 #[.agg #[aA,aB,.slice p n cap,a,b,aD,aF,aC,aG,.slice q m c2],.agg #[I 1,j,k]] w fun e w'=> ∃p' cap' q' c2',e= .returned (.tuple #[.agg #[aA,aB,.slice p' n cap',a,b,aD,aF,aC,c,.slice q' m c2'],d,.bool true])∧w'.ownsRow w TI 1 (.slice p' n cap') n (ivs xs)∧w'.ownsRow w TV 4 (.slice q' m c2') m (aj.flatMap aE)∧Ext w w':=by
 go_enter func23,ntmps23;go_wp2_with fail;refine Z (af _ ((((Mem.start w).c0 aK #[aA,aB,.slice p n cap,a,b,aD,aF,aC,aG,.slice q m c2]).c1 THD #[I 1,j,k]).c2 aK zT).ext) fun w1 ai=>?_
 have M1:=(((((Mem.start w).c0 aK #[aA,aB,.slice p n cap,a,b,aD,aF,aC,aG,.slice q m c2]).c1 THD #[I 1,j,k]).c2 aK zT).adv ai)
 clear ai af;obtain⟨l,o,r,s,t,u,x,y,z,aa⟩:=(M1.bk 2).ten;go_wp2_with fail;clear l o r s t u x y z aa;refine(HL _ M1.ext).mono ?_;rintro e w2 ⟨p1,ag,q1,ah,rfl,ho,hq,hx⟩;have M2:=(M1.own2 hx ho hq (aRp _) (by decide))
 clear M1 hx ho hq;have ab:=M2.hi 3;have ad:=M2.hi 4;obtain⟨l,o,r,s,t,u,x,y,z,aa⟩:=(M2.bk 4).ten;obtain⟨ak,al,am⟩:=(M2.bk 3).tri;go_wp2_with fail;clear l o r s t u x y z aa ak al am;refine(HP _ (M2.c0 aK #[aA,aB,.slice p1 n ag,a,b,aD,aF,aC,aG,.slice q1 m ah]).ext).mono ?_;rintro e w3 ⟨p5,f,q5,g,rfl,ho,hq,hx⟩;have M3:=((M2.c0 aK #[aA,aB,.slice p1 n ag,a,b,aD,aF,aC,aG,.slice q1 m ah]).own2 hx ho hq (aRp _) (by decide))
 clear M2 ab ad hx ho hq HP HL;have ae:=M3.hi 2;obtain⟨d0,an,d1,ao,d2,ap,d3,aq,d4,ar,d5,au,d6,av,d7,aw,d8,ax,d9,ay⟩:=(M3.bk 2).tenf;have hd:decide (d<0)=false:=by simp;omega
 go_upto_region 16 with fail;clear d0 an d1 ao d2 ap d3 aq d4 ar d5 au d6 av d7 aw d8 ax d9 ay ae;have M4:=(M3.put10 (i:=2) rfl (I aA) (I aB) (.slice p5 n f) (I a) (I b) (I aD) (I aF) (I aC) (I c) (.slice q5 m g))
 generalize h:World.setCell _ _ _=w4;rw[h]at M4;clear h M3;have M5:=(M4.adv ((Ext.refl _).alloc (.cells #[aA,aB,.slice p5 n f,a,b,aD,aF,aC,c,.slice q5 m g] aK)))
 generalize (w4.alloc (.cells #[aA,aB,.slice p5 n f,a,b,aD,aF,aC,c,.slice q5 m g] aK))=w5 at M5⊢;clear M4;obtain⟨e0,e1,e2,e3,e4,e5,e6,e7,e8,e9⟩:=(M5.bk 2).ten;obtain⟨f0,az,f1,a0,f2,a1,f3,a2,f4,a3,f5,a4,f6,a5,f7,a6,f8,a7,f9,a8⟩:=(M5.bk 5).tenf;go_wp2;clear e0 e1 e2 e3 e4 e5 e6 e7 e8 e9 f0 az f1 a0 f2 a1 f3 a2 f4 a3 f5 a4 f6 a5 f7 a6 f8 a7 f9 a8;have M6:=(M5.put10 (i:=5) rfl (I aA) (I aB) (.slice p5 n f) (I a) (I b) (I aD) (I aF) (I aC) (I c) (.slice q5 m g))
 generalize h:World.setCell _ _ _=wz;rw[h]at M6;clear h M5;obtain⟨y0,y1,y2,y3,y4,y5,y6,y7,y8,y9⟩:=(M6.bk 5).ten;exact bodyPost_ret (v:= .tuple #[.agg #[aA,aB,.slice p5 n f,a,b,aD,aF,aC,c,.slice q5 m g],d,.bool true]) (by simp[results,results23,go_sem, *]) rfl ⟨p5,f,q5,g,rfl,(M6.ow 0),(M6.ow 1),M6.ext⟩
theorem yW (aA aB a c aD aF aC aG t u:Int)(p:OA)(n cap:Nat)(q:OA)(m c2:Nat)(xs:List Int)(vs:List aP)(w:World)
  (ad:xB 21 #[.agg #[aA,aB,.slice p n cap,a,c,aD,aF,aC,aG,.slice q m c2]] w true)
  (HL:xC 26 #[.agg #[aA,aB,.slice p n cap,a,c,aD,aF,aC,aG,.slice q m c2]] w fun w' e w''=> ∃p' cap' q' c2',e= .returned (.agg #[aA,aB,.slice p' n cap',a,c,aD,aF,aC,aG,.slice q' m c2'])∧w''.ownsRow w' TI 1 (.slice p' n cap') n (ivs xs)∧w''.ownsRow w' TV 4 (.slice q' m c2') m (vs.flatMap aE)∧Ext w' w'')
  (HP:xC 58 #[.agg #[aA,aB,.slice p n cap,a,c,aD,aF,aC,aG,.slice q m c2],t,u] w fun w' e w''=> ∃p' cap' q' c2' b,e= .returned (.tuple #[.agg #[aA,aB,.slice p' n cap',a,c,aD,aF,aC,aG,.slice q' m c2'],b,.bool false])∧Ext w' w''):
  U 23 #[.agg #[aA,aB,.slice p n cap,a,c,aD,aF,aC,aG,.slice q m c2],.agg #[I 1,t,u]] w fun e w'=> ∃p' cap' q' c2',e= .returned (.tuple #[.agg #[aA,aB,.slice p' n cap',a,c,aD,aF,aC,aG,.slice q' m c2'],(-1:Int),.bool false])∧w'.ownsRow w TI 1 (.slice p' n cap') n (ivs xs)∧w'.ownsRow w TV 4 (.slice q' m c2') m (vs.flatMap aE)∧Ext w w':=by
 go_enter func23,ntmps23;go_wp2_with fail;refine Z (ad _ ((((Mem.start w).c0 aK #[aA,aB,.slice p n cap,a,c,aD,aF,aC,aG,.slice q m c2]).c1 THD #[I 1,t,u]).c2 aK zT).ext) fun w1 aj=>?_
 have M1:=(((((Mem.start w).c0 aK #[aA,aB,.slice p n cap,a,c,aD,aF,aC,aG,.slice q m c2]).c1 THD #[I 1,t,u]).c2 aK zT).adv aj)
 clear aj ad;obtain⟨d,f,g,h,j,k,l,o,r,s⟩:=(M1.bk 2).ten;go_wp2_with fail;clear d f g h j k l o r s;refine(HL _ M1.ext).mono ?_;rintro e w2 ⟨p1,ae,q1,ag,rfl,ho,hq,hx⟩;have M2:=(M1.own2 hx ho hq (aRp _) (by decide))
 clear M1 hx ho hq;have z:=M2.hi 3;have aa:=M2.hi 4;obtain⟨d,f,g,h,j,k,l,o,r,s⟩:=(M2.bk 4).ten;obtain⟨ak,al,am⟩:=(M2.bk 3).tri;go_wp2_with fail;clear d f g h j k l o r s ak al am;refine(HP _ (M2.c0 aK #[aA,aB,.slice p1 n ae,a,c,aD,aF,aC,aG,.slice q1 m ag]).ext).mono ?_;rintro e w3 ⟨p5,af,q5,ah,b5,rfl,hx⟩;have M3:=((M2.c0 aK #[aA,aB,.slice p1 n ae,a,c,aD,aF,aC,aG,.slice q1 m ag]).adv hx)
 clear M2 z aa hx HP;have ab:=M3.hi 5;obtain⟨d,f,g,h,j,k,l,o,r,s⟩:=(M3.bk 5).ten;go_wp2_with fail;clear d f g h j k l o r s;refine(HL _ (M3.c0 aK #[aA,aB,.slice p5 n af,a,c,aD,aF,aC,aG,.slice q5 m ah]).ext).mono ?_;rintro e w9 ⟨p9,x,q9,y,rfl,ho,hq,hx⟩;have M4:=((M3.c0 aK #[aA,aB,.slice p5 n af,a,c,aD,aF,aC,aG,.slice q5 m ah]).own2 hx ho hq (aRp _) (by decide))
 clear M3 ab hx ho hq HL;obtain⟨f0,an,f1,ao,f2,ap,f3,aq,f4,ar,f5,au,f6,av,f7,aw,f8,ax,f9,ay⟩:=(M4.bk 6).tenf;go_wp2;clear f0 an f1 ao f2 ap f3 aq f4 ar f5 au f6 av f7 aw f8 ax f9 ay;have M5:=(M4.put10 (i:=6) rfl (I aA) (I aB) (.slice p9 n x) (I a) (I c) (I aD) (I aF) (I aC) (I aG) (.slice q9 m y))
 generalize ai:World.setCell _ _ _=wz;rw[ai]at M5;clear ai M4;obtain⟨y0,y1,y2,y3,y4,y5,y6,y7,y8,y9⟩:=(M5.bk 6).ten;exact bodyPost_ret (v:= .tuple #[.agg #[aA,aB,.slice p9 n x,a,c,aD,aF,aC,aG,.slice q9 m y],(-1:Int),.bool false]) (by simp[results,results23,go_sem, *]) rfl ⟨p9,x,q9,y,rfl,(M5.ow 0),(M5.ow 1),M5.ext⟩
theorem tP (aA aB a b aD aF aC aG g h:Int)(p:OA)(n cap:Nat)(q:OA)(m c2:Nat)(xs ys:List Int)(vs:List aP)(w:World)
  (ad:xB 21 #[.agg #[aA,aB,.slice p n cap,a,b,aD,aF,aC,aG,.slice q m c2]] w true)
  (HL:xC 26 #[.agg #[aA,aB,.slice p n cap,a,b,aD,aF,aC,aG,.slice q m c2]] w fun w' e w''=> ∃p' cap' q' c2',e= .returned (.agg #[aA,aB,.slice p' n cap',a,b,aD,aF,aC,aG,.slice q' m c2'])∧w''.ownsRow w' TI 1 (.slice p' n cap') n (ivs xs)∧w''.ownsRow w' TV 4 (.slice q' m c2') m (vs.flatMap aE)∧Ext w' w'')
  (HP:xC 62 #[aH aA aB p n cap,eI g h] w fun w' e w''=> ∃p' cap',e= .returned (.tuple #[aH aA aB p' n cap',.bool true])∧w''.ownsRow w' TI 1 (.slice p' n cap') n (ivs ys)∧Ext w' w''):
  U 23 #[.agg #[aA,aB,.slice p n cap,a,b,aD,aF,aC,aG,.slice q m c2],.agg #[I 4,g,h]] w fun e w'=> ∃p' cap' q' c2',e= .returned (.tuple #[.agg #[aA,aB,.slice p' n cap',a,b,aD,aF,aC,aG,.slice q' m c2'],(),.bool true])∧w'.ownsRow w TI 1 (.slice p' n cap') n (ivs ys)∧w'.ownsRow w TV 4 (.slice q' m c2') m (vs.flatMap aE)∧Ext w w':=by
 go_enter func23,ntmps23;go_wp2_with fail;refine Z (ad _ ((((Mem.start w).c0 aK #[aA,aB,.slice p n cap,a,b,aD,aF,aC,aG,.slice q m c2]).c1 THD #[I 4,g,h]).c2 aK zT).ext) fun w1 af=>?_
 have M1:=(((((Mem.start w).c0 aK #[aA,aB,.slice p n cap,a,b,aD,aF,aC,aG,.slice q m c2]).c1 THD #[I 4,g,h]).c2 aK zT).adv af)
 clear af ad;obtain⟨j,k,l,o,r,s,t,u,x,y⟩:=(M1.bk 2).ten;go_wp2_with fail;clear j k l o r s t u x y;refine(HL _ M1.ext).mono ?_;rintro e w2 ⟨p1,ae,q1,d,rfl,ho,hq,hx⟩;have M2:=(M1.own2 hx ho hq (aRp _) (by decide))
 clear M1 hx ho hq;have z:=M2.hi 3;have aa:=M2.hi 4;obtain⟨j,k,l,o,r,s,t,u,x,y⟩:=(M2.bk 4).ten;obtain⟨ag,ah,ai⟩:=(M2.bk 3).tri;go_wp2_with fail;clear j k l o r s t u x y ag ah ai;refine(HP _ (M2.c0 aK #[aA,aB,.slice p1 n ae,a,b,aD,aF,aC,aG,.slice q1 m d]).ext).mono ?_;rintro e w3 ⟨p5,c,rfl,ho,hx⟩;have M3:=((M2.c0 aK #[aA,aB,.slice p1 n ae,a,b,aD,aF,aC,aG,.slice q1 m d]).call hx ho)
 clear M2 z aa hx ho HP HL;have ab:=M3.hi 1;obtain⟨d0,aj,d1,ak,d2,al,d3,am,d4,an,d5,ao,d6,ap,d7,aq,d8,ar,d9,au⟩:=(M3.bk 1).tenf;have M4:=(((M3.st 1 0 (I aA)).st 1 1 (I aB)).st 1 2 (.slice p5 n c))
 go_upto_region 32 with fail;clear d0 aj d1 ak d2 al d3 am d4 an d5 ao d6 ap d7 aq d8 ar d9 au ab;have M5:=(M4)
 generalize f:World.setCell _ _ _=w4;rw[f]at M5;clear f M3 M4;have M6:=(M5.adv ((Ext.refl _).alloc (.cells #[aA,aB,.slice p5 n c] TH3)))
 generalize (w4.alloc (.cells #[aA,aB,.slice p5 n c] TH3))=w5 at M6⊢;clear M5;obtain⟨e0,e1,e2,e3,e4,e5,e6,e7,e8,e9⟩:=(M6.bk 1).ten;obtain⟨f0,av,f1,aw,f2,ax,f3,ay,f4,az,f5,a0,f6,a1,f7,a2,f8,a3,f9,a4⟩:=(M6.bk 4).tenf;go_wp2;clear e0 e1 e2 e3 e4 e5 e6 e7 e8 e9 f0 av f1 aw f2 ax f3 ay f4 az f5 a0 f6 a1 f7 a2 f8 a3 f9 a4;have M7:=(M6.put10 (i:=4) rfl (I aA) (I aB) (.slice p5 n c) (I a) (I b) (I aD) (I aF) (I aC) (I aG) (.slice q1 m d))
 generalize f:World.setCell _ _ _=wz;rw[f]at M7;clear f M6;obtain⟨y0,y1,y2,y3,y4,y5,y6,y7,y8,y9⟩:=(M7.bk 4).ten;exact bodyPost_ret (v:= .tuple #[.agg #[aA,aB,.slice p5 n c,a,b,aD,aF,aC,aG,.slice q1 m d],(),.bool true]) (by simp[results,results23,go_sem, *]) rfl ⟨p5,c,q1,d,rfl,(M7.ow 0),(M7.ow 3),M7.ext⟩
theorem vQ (aA aB a b aD aF aC aG s t:Int)(p:OA)(n cap:Nat)(q:OA)(m c2:Nat)(xs ys:List Int)(vs:List aP)(w:World)
  (ab:xB 21 #[.agg #[aA,aB,.slice p n cap,a,b,aD,aF,aC,aG,.slice q m c2]] w true)
  (HL:xC 26 #[.agg #[aA,aB,.slice p n cap,a,b,aD,aF,aC,aG,.slice q m c2]] w fun w' e w''=> ∃p' cap' q' c2',e= .returned (.agg #[aA,aB,.slice p' n cap',a,b,aD,aF,aC,aG,.slice q' m c2'])∧w''.ownsRow w' TI 1 (.slice p' n cap') n (ivs xs)∧w''.ownsRow w' TV 4 (.slice q' m c2') m (vs.flatMap aE)∧Ext w' w'')
  (HP:xC 62 #[aH aA aB p n cap,eI s t] w fun w' e w''=> ∃p' cap',e= .returned (.tuple #[aH aA aB p' n cap',.bool false])∧w''.ownsRow w' TI 1 (.slice p' n cap') n (ivs ys)∧Ext w' w''):
  U 23 #[.agg #[aA,aB,.slice p n cap,a,b,aD,aF,aC,aG,.slice q m c2],.agg #[I 4,s,t]] w fun e w'=> ∃p' cap' q' c2',e= .returned (.tuple #[.agg #[aA,aB,.slice p' n cap',a,b,aD,aF,aC,aG,.slice q' m c2'],(-1:Int),.bool false])∧w'.ownsRow w TI 1 (.slice p' n cap') n (ivs xs)∧w'.ownsRow w TV 4 (.slice q' m c2') m (vs.flatMap aE)∧Ext w w':=by
 go_enter func23,ntmps23;go_wp2_with fail;refine Z (ab _ ((((Mem.start w).c0 aK #[aA,aB,.slice p n cap,a,b,aD,aF,aC,aG,.slice q m c2]).c1 THD #[I 4,s,t]).c2 aK zT).ext) fun w1 ah=>?_
 have M1:=(((((Mem.start w).c0 aK #[aA,aB,.slice p n cap,a,b,aD,aF,aC,aG,.slice q m c2]).c1 THD #[I 4,s,t]).c2 aK zT).adv ah)
 clear ah ab;obtain⟨c,d,f,g,h,j,k,l,o,r⟩:=(M1.bk 2).ten;go_wp2_with fail;clear c d f g h j k l o r;refine(HL _ M1.ext).mono ?_;rintro e w2 ⟨p1,ad,q1,af,rfl,ho,hq,hx⟩;have M2:=(M1.own2 hx ho hq (aRp _) (by decide))
 clear M1 hx ho hq;have y:=M2.hi 3;have z:=M2.hi 4;obtain⟨c,d,f,g,h,j,k,l,o,r⟩:=(M2.bk 4).ten;obtain⟨ai,aj,ak⟩:=(M2.bk 3).tri;go_wp2_with fail;clear c d f g h j k l o r ai aj ak;refine(HP _ (M2.c0 aK #[aA,aB,.slice p1 n ad,a,b,aD,aF,aC,aG,.slice q1 m af]).ext).mono ?_;rintro e w3 ⟨p5,ae,rfl,ho,hx⟩;have M3:=((M2.c0 aK #[aA,aB,.slice p1 n ad,a,b,aD,aF,aC,aG,.slice q1 m af]).call hx ho)
 clear M2 y z hx ho HP;have aa:=M3.hi 6;obtain⟨c,d,f,g,h,j,k,l,o,r⟩:=(M3.bk 6).ten;go_wp2_with fail;clear c d f g h j k l o r;refine(HL _ (M3.c0 TH3 #[aA,aB,.slice p5 n ae]).ext).mono ?_;rintro e w9 ⟨p9,u,q9,x,rfl,ho,hq,hx⟩;have M4:=((M3.c0 TH3 #[aA,aB,.slice p5 n ae]).own2 hx ho hq (aRp _) (by decide))
 clear M3 aa hx ho hq HL;obtain⟨f0,al,f1,am,f2,an,f3,ao,f4,ap,f5,aq,f6,ar,f7,au,f8,av,f9,aw⟩:=(M4.bk 7).tenf;go_wp2;clear f0 al f1 am f2 an f3 ao f4 ap f5 aq f6 ar f7 au f8 av f9 aw;have M5:=(M4.put10 (i:=7) rfl (I aA) (I aB) (.slice p9 n u) (I a) (I b) (I aD) (I aF) (I aC) (I aG) (.slice q9 m x))
 generalize ag:World.setCell _ _ _=wz;rw[ag]at M5;clear ag M4;obtain⟨y0,y1,y2,y3,y4,y5,y6,y7,y8,y9⟩:=(M5.bk 7).ten;exact bodyPost_ret (v:= .tuple #[.agg #[aA,aB,.slice p9 n u,a,b,aD,aF,aC,aG,.slice q9 m x],(-1:Int),.bool false]) (by simp[results,results23,go_sem, *]) rfl ⟨p9,u,q9,x,rfl,(M5.ow 0),(M5.ow 1),M5.ext⟩
theorem tO (aA aB a b aD aF aC aG c k ai:Int)(p:OA)(n cap:Nat)(q:OA)(m c2:Nat)(xs ys:List Int)(vs ao:List aP)(w:World)(h0:0≤c)
  (aj:xB 21 #[.agg #[aA,aB,.slice p n cap,a,b,aD,aF,aC,aG,.slice q m c2]] w true)
  (HL:xC 26 #[.agg #[aA,aB,.slice p n cap,a,b,aD,aF,aC,aG,.slice q m c2]] w fun w' e w''=> ∃p' cap' q' c2',e= .returned (.agg #[aA,aB,.slice p' n cap',a,b,aD,aF,aC,aG,.slice q' m c2'])∧w''.ownsRow w' TI 1 (.slice p' n cap') n (ivs xs)∧w''.ownsRow w' TV 4 (.slice q' m c2') m (vs.flatMap aE)∧Ext w' w'')
  (HP:xC 56 #[aH aA aB p n cap,k] w fun w' e w''=> ∃p' cap',e= .returned (.tuple #[aH aA aB p' n cap',c])∧w''.ownsRow w' TI 1 (.slice p' n cap') n (ivs ys)∧Ext w' w'')
  (HQ:xC 57 #[.slice q m c2,.agg #[k,aC,(),aC]] w fun w' e w''=> ∃q' c',e= .returned (.slice q' (m+1) c')∧w''.ownsRow w' TV 4 (.slice q' (m+1) c') (m+1) (ao.flatMap aE)∧Ext w' w''):
  U 23 #[.agg #[aA,aB,.slice p n cap,a,b,aD,aF,aC,aG,.slice q m c2],.agg #[(),k,ai]] w fun e w'=> ∃p' cap' q' c2',e= .returned (.tuple #[.agg #[aA,aB,.slice p' n cap',a,b,aD,aF,aC,aG,.slice q' (m+1) c2'],c,.bool true])∧w'.ownsRow w TI 1 (.slice p' n cap') n (ivs ys)∧w'.ownsRow w TV 4 (.slice q' (m+1) c2') (m+1) (ao.flatMap aE)∧Ext w w':=by
 go_enter func23,ntmps23;go_wp2_with fail;refine Z (aj _ ((((Mem.start w).c0 aK #[aA,aB,.slice p n cap,a,b,aD,aF,aC,aG,.slice q m c2]).c1 THD #[(),k,ai]).c2 aK zT).ext) fun w1 an=>?_
 have M1:=(((((Mem.start w).c0 aK #[aA,aB,.slice p n cap,a,b,aD,aF,aC,aG,.slice q m c2]).c1 THD #[(),k,ai]).c2 aK zT).adv an)
 clear an aj;obtain⟨r,s,t,u,x,y,z,h,aa,j⟩:=(M1.bk 2).ten;go_wp2_with fail;clear r s t u x y z h aa j;refine(HL _ M1.ext).mono ?_;rintro e w2 ⟨p1,ak,q1,al,rfl,ho,hq,hx⟩;have M2:=(M1.own2 hx ho hq (aRp _) (by decide))
 clear M1 hx ho hq;have ad:=M2.hi 3;have ae:=M2.hi 4;obtain⟨r,s,t,u,x,y,z,h,aa,j⟩:=(M2.bk 4).ten;obtain⟨ap,ab,aq⟩:=(M2.bk 3).tri;go_wp2_with fail;clear r s t u x y z h aa j ap ab aq;refine(HP _ (M2.c0 aK #[aA,aB,.slice p1 n ak,a,b,aD,aF,aC,aG,.slice q1 m al]).ext).mono ?_;rintro e w3 ⟨p5,g,rfl,ho,hx⟩;have M3:=((M2.c0 aK #[aA,aB,.slice p1 n ak,a,b,aD,aF,aC,aG,.slice q1 m al]).call hx ho)
 clear M2 ad ae hx ho HP HL;have af:=M3.hi 1;have ag:=M3.hi 5;have ah:=M3.hi 6;have d0:=(M3.bk 1).cl 0;have ar:=(M3.bk 1).frozen 0;have d1:=(M3.bk 1).cl 1;have au:=(M3.bk 1).frozen 1;have d2:=(M3.bk 1).cl 2;have av:=(M3.bk 1).frozen 2;have h:=(M3.bk 6).cl 7;have j:=(M3.bk 6).cl 9;have ab:=(M3.bk 5).cl 1;obtain⟨d,f⟩:=M3.nq 5 6;obtain⟨l,o⟩:=M3.nq 1 5;have hd:decide (c<0)=false:=by simp;omega
 have M4:=(((M3.st 1 0 (I aA)).st 1 1 (I aB)).st 1 2 (.slice p5 n g))
 go_wp2_with fail;clear d0 ar d1 au d2 av h j ab d f l o;refine(HQ _ (M4.adv ((Ext.refl _).alloc (.cells #[aA,aB,.slice p5 n g] TH3))).ext).mono ?_;rintro e w4 ⟨q7,c7,rfl,ho,hx⟩;have M5:=((M4.adv ((Ext.refl _).alloc (.cells #[aA,aB,.slice p5 n g] TH3))).call hx ho)
 clear M3 af ag ah hx ho HQ;obtain⟨e0,aw,e1,ax,e2,ay,e3,az,e4,a0,e5,a1,e6,a2,e7,a3,e8,a4,e9,a5⟩:=(M5.bk 2).tenf;obtain⟨f0,a6,f1,a7,f2,a8,f3,a9,f4,ba,f5,bb,f6,bc,f7,bd,f8,be,f9,bf⟩:=(M5.bk 5).tenf;obtain⟨d,f⟩:=M5.nq 2 5;have M6:=(M5.st 2 9 (.slice q7 (m+1) c7))
 go_wp2;clear e0 aw e1 ax e2 ay e3 az e4 a0 e5 a1 e6 a2 e7 a3 e8 a4 e9 a5 f0 a6 f1 a7 f2 a8 f3 a9 f4 ba f5 bb f6 bc f7 bd f8 be f9 bf d f;have M7:=(M6.put10 (i:=5) rfl (I aA) (I aB) (.slice p5 n g) (I a) (I b) (I aD) (I aF) (I aC) (I aG) (.slice q7 (m+1) c7))
 generalize am:World.setCell _ _ _=wz;rw[am]at M7;clear am M5 M4 M6;obtain⟨y0,y1,y2,y3,y4,y5,y6,y7,y8,y9⟩:=(M7.bk 5).ten;exact bodyPost_ret (v:= .tuple #[.agg #[aA,aB,.slice p5 n g,a,b,aD,aF,aC,aG,.slice q7 (m+1) c7],c,.bool true]) (by simp[results,results23,go_sem, *]) rfl ⟨p5,g,q7,c7,rfl,(M7.ow 1),(M7.ow 0),M7.ext⟩
theorem vP (aA aB a b aD aF aC aG c t ab:Int)(p:OA)(n cap:Nat)(q:OA)(m c2:Nat)(xs ys:List Int)(vs:List aP)(w:World)(h0:c<0)
  (ad:xB 21 #[.agg #[aA,aB,.slice p n cap,a,b,aD,aF,aC,aG,.slice q m c2]] w true)
  (HL:xC 26 #[.agg #[aA,aB,.slice p n cap,a,b,aD,aF,aC,aG,.slice q m c2]] w fun w' e w''=> ∃p' cap' q' c2',e= .returned (.agg #[aA,aB,.slice p' n cap',a,b,aD,aF,aC,aG,.slice q' m c2'])∧w''.ownsRow w' TI 1 (.slice p' n cap') n (ivs xs)∧w''.ownsRow w' TV 4 (.slice q' m c2') m (vs.flatMap aE)∧Ext w' w'')
  (HP:xC 56 #[aH aA aB p n cap,t] w fun w' e w''=> ∃p' cap',e= .returned (.tuple #[aH aA aB p' n cap',c])∧w''.ownsRow w' TI 1 (.slice p' n cap') n (ivs ys)∧Ext w' w''):
  U 23 #[.agg #[aA,aB,.slice p n cap,a,b,aD,aF,aC,aG,.slice q m c2],.agg #[(),t,ab]] w fun e w'=> ∃p' cap' q' c2',e= .returned (.tuple #[.agg #[aA,aB,.slice p' n cap',a,b,aD,aF,aC,aG,.slice q' m c2'],(-1:Int),.bool false])∧w'.ownsRow w TI 1 (.slice p' n cap') n (ivs xs)∧w'.ownsRow w TV 4 (.slice q' m c2') m (vs.flatMap aE)∧Ext w w':=by
 go_enter func23,ntmps23;go_wp2_with fail;refine Z (ad _ ((((Mem.start w).c0 aK #[aA,aB,.slice p n cap,a,b,aD,aF,aC,aG,.slice q m c2]).c1 THD #[(),t,ab]).c2 aK zT).ext) fun w1 ai=>?_
 have M1:=(((((Mem.start w).c0 aK #[aA,aB,.slice p n cap,a,b,aD,aF,aC,aG,.slice q m c2]).c1 THD #[(),t,ab]).c2 aK zT).adv ai)
 clear ai ad;obtain⟨d,f,g,h,j,k,l,o,r,s⟩:=(M1.bk 2).ten;go_wp2_with fail;clear d f g h j k l o r s;refine(HL _ M1.ext).mono ?_;rintro e w2 ⟨p1,ae,q1,ag,rfl,ho,hq,hx⟩;have M2:=(M1.own2 hx ho hq (aRp _) (by decide))
 clear M1 hx ho hq;have y:=M2.hi 3;have z:=M2.hi 4;obtain⟨d,f,g,h,j,k,l,o,r,s⟩:=(M2.bk 4).ten;obtain⟨aj,ak,al⟩:=(M2.bk 3).tri;go_wp2_with fail;clear d f g h j k l o r s aj ak al;refine(HP _ (M2.c0 aK #[aA,aB,.slice p1 n ae,a,b,aD,aF,aC,aG,.slice q1 m ag]).ext).mono ?_;rintro e w3 ⟨p5,af,rfl,ho,hx⟩;have M3:=((M2.c0 aK #[aA,aB,.slice p1 n ae,a,b,aD,aF,aC,aG,.slice q1 m ag]).call hx ho)
 clear M2 y z hx ho HP;have aa:=M3.hi 6;have ay:decide (0≤c)=false:=by simp;omega
 obtain⟨d,f,g,h,j,k,l,o,r,s⟩:=(M3.bk 6).ten;go_wp2_with fail;clear d f g h j k l o r s;refine(HL _ (M3.c0 TH3 #[aA,aB,.slice p5 n af]).ext).mono ?_;rintro e w9 ⟨p9,u,q9,x,rfl,ho,hq,hx⟩;have M4:=((M3.c0 TH3 #[aA,aB,.slice p5 n af]).own2 hx ho hq (aRp _) (by decide))
 clear M3 aa hx ho hq HL;obtain⟨f0,am,f1,an,f2,ao,f3,ap,f4,aq,f5,ar,f6,au,f7,av,f8,aw,f9,ax⟩:=(M4.bk 7).tenf;go_wp2;clear f0 am f1 an f2 ao f3 ap f4 aq f5 ar f6 au f7 av f8 aw f9 ax;have M5:=(M4.put10 (i:=7) rfl (I aA) (I aB) (.slice p9 n u) (I a) (I b) (I aD) (I aF) (I aC) (I aG) (.slice q9 m x))
 generalize ah:World.setCell _ _ _=wz;rw[ah]at M5;clear ah M4;obtain⟨y0,y1,y2,y3,y4,y5,y6,y7,y8,y9⟩:=(M5.bk 7).ten;exact bodyPost_ret (v:= .tuple #[.agg #[aA,aB,.slice p9 n u,a,b,aD,aF,aC,aG,.slice q9 m x],(-1:Int),.bool false]) (by simp[results,results23,go_sem, *]) rfl ⟨p9,u,q9,x,rfl,(M5.ow 0),(M5.ow 1),M5.ext⟩
end Go.Proofs.YtbgkcehffiogcacGreatDoor
