/-
  Texts of this proof, packed (@packed).
-/
import Derived.Test.YthfmmibomhhmpaaGreatDoorY18
namespace Go.Proofs.YthfmmibomhhmpaaGreatDoor
open Go.RowKit Go.Proofs.Tryz
set_option linter.unusedSimpArgs false
set_option linter.unusedVariables false
set_option maxHeartbeats 8000000
set_option maxRecDepth 100000
theorem aM7 (aA aB a b aD aF aC aG id:Int)(p:OA)(n c:Nat)(q:OA)(m c2:Nat)(w:World)
  (g:xC 108 #[.agg #[aA,aB,.slice p n c,a,b,aD,aF,aC,aG,.slice q m c2],id] w fun w' e w''=>e= .returned (.tuple #[.agg #[(),(),()],.bool false])∧Ext w' w''):
  U 70 #[.agg #[aA,aB,.slice p n c,a,b,aD,aF,aC,aG,.slice q m c2],id] w (O (I (-1)) w):=by
 go_enter func70,ntmps70;go_wp2_with fail;refine Z (g _ (by exact .alloc (.refl _) _)) fun w1 d=>?_
 have f:Blk w1 w 30 #[aA,aB,.slice p n c,a,b,aD,aF,aC,aG,.slice q m c2]:=(Blk.new w _ _).ext d;have X1:Ext w w1:=((Ext.refl w).alloc _).trans d;replace f:=xQ f;clear d;go_wp2;go_ret;exact⟨rfl,by exact .alloc X1 _⟩
theorem aIr (aA aB a b aD aF aC aG id:Int)(p:OA)(n d:Nat)(q:OA)(m c2:Nat)(w:World)(a1 a2 a3:Int)(D:Int)
  (g:xC 108 #[.agg #[aA,aB,.slice p n d,a,b,aD,aF,aC,aG,.slice q m c2],id] w fun w' e w''=>e= .returned (.tuple #[.agg #[a1,a2,a3],.bool true])∧Ext w' w'')
  (HD:Hid (∀w',U 35 #[aS a b aD aF,bX a1 a2 a3,aC] w' (O (I D) w'))):
  U 70 #[.agg #[aA,aB,.slice p n d,a,b,aD,aF,aC,aG,.slice q m c2],id] w (O (I D) w):=by
 go_enter func70,ntmps70;go_wp2_with fail;refine Z (g _ (by exact .alloc (.refl _) _)) fun w1 f=>?_
 have c:Blk w1 w 30 #[aA,aB,.slice p n d,a,b,aD,aF,aC,aG,.slice q m c2]:=(Blk.new w _ _).ext f;have X1:Ext w w1:=((Ext.refl w).alloc _).trans f;have s1:(w:Nat)<w1:=c.lt;replace c:=xQ c;clear f;have i:=c.out.ten;go_wp2_with fail;refine Z (HD _) fun w2 h=>?_
 go_wp2;go_ret;exact⟨rfl,by exact .trans (.alloc X1 _) h⟩
theorem aM5 (aA aB a b aD aF aC aG id:Int)(p:OA)(n c:Nat)(q:OA)(m c2:Nat)(w:World)
  (g:xC 108 #[.agg #[aA,aB,.slice p n c,a,b,aD,aF,aC,aG,.slice q m c2],id] w fun w' e w''=>e= .returned (.tuple #[.agg #[(),(),()],.bool false])∧Ext w' w''):
  U 71 #[.agg #[aA,aB,.slice p n c,a,b,aD,aF,aC,aG,.slice q m c2],id] w (O (.bool false) w):=by
 go_enter func71,ntmps71;go_wp2_with fail;refine Z (g _ (by exact .alloc (.refl _) _)) fun w1 d=>?_
 have f:Blk w1 w 30 #[aA,aB,.slice p n c,a,b,aD,aF,aC,aG,.slice q m c2]:=(Blk.new w _ _).ext d;have X1:Ext w w1:=((Ext.refl w).alloc _).trans d;replace f:=xQ f;clear d;go_wp2;go_ret;exact⟨rfl,by exact .alloc X1 _⟩
theorem aIp (aA aB a b aD aF aC aG id:Int)(p:OA)(n d:Nat)(q:OA)(m c2:Nat)(w:World)(a1 a2 a3:Int)(D:Bool)
  (g:xC 108 #[.agg #[aA,aB,.slice p n d,a,b,aD,aF,aC,aG,.slice q m c2],id] w fun w' e w''=>e= .returned (.tuple #[.agg #[a1,a2,a3],.bool true])∧Ext w' w'')
  (HD:Hid (∀w',U 109 #[aS a b aD aF,bX a1 a2 a3,aC] w' (O (.bool D) w'))):
  U 71 #[.agg #[aA,aB,.slice p n d,a,b,aD,aF,aC,aG,.slice q m c2],id] w (O (.bool D) w):=by
 go_enter func71,ntmps71;go_wp2_with fail;refine Z (g _ (by exact .alloc (.refl _) _)) fun w1 f=>?_
 have c:Blk w1 w 30 #[aA,aB,.slice p n d,a,b,aD,aF,aC,aG,.slice q m c2]:=(Blk.new w _ _).ext f;have X1:Ext w w1:=((Ext.refl w).alloc _).trans f;have s1:(w:Nat)<w1:=c.lt;replace c:=xQ c;clear f;have i:=c.out.ten;go_wp2_with fail;refine Z (HD _) fun w2 h=>?_
 go_wp2;go_ret;exact⟨rfl,by exact .trans (.alloc X1 _) h⟩
theorem aL2 (aA aB a b aD aF aC aG id:Int)(p:OA)(n c:Nat)(q:OA)(m c2:Nat)(w:World)
  (g:xC 117 #[.agg #[aA,aB,.slice p n c,a,b,aD,aF,aC,aG,.slice q m c2],id] w fun w' e w''=>e= .returned (.tuple #[.agg #[(),(),()],.bool false])∧Ext w' w''):
  U 93 #[.agg #[aA,aB,.slice p n c,a,b,aD,aF,aC,aG,.slice q m c2],id] w (O (I (-1)) w):=by
 go_enter func93,ntmps93;go_wp2_with fail;refine Z (g _ (by exact .alloc (.refl _) _)) fun w1 d=>?_
 have f:Blk w1 w 30 #[aA,aB,.slice p n c,a,b,aD,aF,aC,aG,.slice q m c2]:=(Blk.new w _ _).ext d;have X1:Ext w w1:=((Ext.refl w).alloc _).trans d;replace f:=xQ f;clear d;go_wp2;go_ret;exact⟨rfl,by exact .alloc X1 _⟩
theorem aHf (aA aB a b aD aF aC aG id:Int)(p:OA)(n d:Nat)(q:OA)(m c2:Nat)(w:World)(a1 a2 a3:Int)(D:Int)
  (g:xC 117 #[.agg #[aA,aB,.slice p n d,a,b,aD,aF,aC,aG,.slice q m c2],id] w fun w' e w''=>e= .returned (.tuple #[.agg #[a1,a2,a3],.bool true])∧Ext w' w'')
  (HD:Hid (∀w',U 125 #[aS a b aD aF,bX a1 a2 a3,aC] w' (O (I D) w'))):
  U 93 #[.agg #[aA,aB,.slice p n d,a,b,aD,aF,aC,aG,.slice q m c2],id] w (O (I D) w):=by
 go_enter func93,ntmps93;go_wp2_with fail;refine Z (g _ (by exact .alloc (.refl _) _)) fun w1 f=>?_
 have c:Blk w1 w 30 #[aA,aB,.slice p n d,a,b,aD,aF,aC,aG,.slice q m c2]:=(Blk.new w _ _).ext f;have X1:Ext w w1:=((Ext.refl w).alloc _).trans f;have s1:(w:Nat)<w1:=c.lt;replace c:=xQ c;clear f;have i:=c.out.ten;go_wp2_with fail;refine Z (HD _) fun w2 h=>?_
 go_wp2;go_ret;exact⟨rfl,by exact .trans (.alloc X1 _) h⟩
theorem aKz (aA aB a b aD aF aC aG id:Int)(p:OA)(n c:Nat)(q:OA)(m c2:Nat)(w:World)
  (g:xC 117 #[.agg #[aA,aB,.slice p n c,a,b,aD,aF,aC,aG,.slice q m c2],id] w fun w' e w''=>e= .returned (.tuple #[.agg #[(),(),()],.bool false])∧Ext w' w''):
  U 79 #[.agg #[aA,aB,.slice p n c,a,b,aD,aF,aC,aG,.slice q m c2],id] w (O (.bool false) w):=by
 go_enter func79,ntmps79;go_wp2_with fail;refine Z (g _ (by exact .alloc (.refl _) _)) fun w1 d=>?_
 have f:Blk w1 w 30 #[aA,aB,.slice p n c,a,b,aD,aF,aC,aG,.slice q m c2]:=(Blk.new w _ _).ext d;have X1:Ext w w1:=((Ext.refl w).alloc _).trans d;replace f:=xQ f;clear d;go_wp2;go_ret;exact⟨rfl,by exact .alloc X1 _⟩
theorem aHb (aA aB a b aD aF aC aG id:Int)(p:OA)(n d:Nat)(q:OA)(m c2:Nat)(w:World)(a1 a2 a3:Int)(D:Bool)
  (g:xC 117 #[.agg #[aA,aB,.slice p n d,a,b,aD,aF,aC,aG,.slice q m c2],id] w fun w' e w''=>e= .returned (.tuple #[.agg #[a1,a2,a3],.bool true])∧Ext w' w'')
  (HD:Hid (∀w',U 118 #[aS a b aD aF,bX a1 a2 a3,aC] w' (O (.bool D) w'))):
  U 79 #[.agg #[aA,aB,.slice p n d,a,b,aD,aF,aC,aG,.slice q m c2],id] w (O (.bool D) w):=by
 go_enter func79,ntmps79;go_wp2_with fail;refine Z (g _ (by exact .alloc (.refl _) _)) fun w1 f=>?_
 have c:Blk w1 w 30 #[aA,aB,.slice p n d,a,b,aD,aF,aC,aG,.slice q m c2]:=(Blk.new w _ _).ext f;have X1:Ext w w1:=((Ext.refl w).alloc _).trans f;have s1:(w:Nat)<w1:=c.lt;replace c:=xQ c;clear f;have i:=c.out.ten;go_wp2_with fail;refine Z (HD _) fun w2 h=>?_
 go_wp2;go_ret;exact⟨rfl,by exact .trans (.alloc X1 _) h⟩
theorem rE {h:aL}{id a1 a2 a3:Int}(hs:cT h id=some (a1,a2,a3)):bJ h.free h.step h.aD h.aF=true∧dI a1 a2 a3=true∧a3≤h.aC∧h.aC≤9999:=by
 unfold cT at hs;split at hs
 ·rename_i hok;rw[Option.map_eq_some_iff]at hs;obtain⟨v,hv,e⟩:=hs;have hm:=aUa hv;simp only[aP,sP,aTf,decide_eq_true_eq]at hok;have:=(kD hok.2).2 v hm;obtain⟨v0,v1,v2,v3⟩:=v;simp only[aTu]at e;obtain⟨rfl,rfl,rfl⟩:=e;simp only[fP,aTf,decide_eq_true_eq]at this;exact⟨hok.1.1.2,this.1,this.2,hok.1.2.2.1⟩
 simp at hs
theorem tY (h:aL)(id:Int)(p:OA)(n b:Nat)(q:OA)(m c2:Nat)(w:World)(hi:IsHouse w h p n b q m c2):
  U 70 #[bG h p n b q m c2,id] w (O (I (aQ h id)) w):=by
 have a:=fun(w':World) (hx:Ext w w')=>aJr h id p n b q m c2 w' (hi.ext hx)
 unfold wH at a;unfold aQ;cases hs:cT h id with
 |none=>rw[hs]at a;exact aM7 h.aA h.aB h.free h.step h.aD h.aF h.aC h.aG id p n b q m c2 w a
 |some s=>obtain⟨a1,a2,a3⟩:=s;rw[hs]at a;obtain⟨t,st,hc,h9⟩:=rE hs;exact aIr h.aA h.aB h.free h.step h.aD h.aF h.aC h.aG id p n b q m c2 w a1 a2 a3 _ a (fun w'=>zD h.free h.step h.aD h.aF a1 a2 a3 h.aC w' t st hc h9)
theorem tX (h:aL)(id:Int)(p:OA)(n b:Nat)(q:OA)(m c2:Nat)(w:World)(hi:IsHouse w h p n b q m c2):
  U 71 #[bG h p n b q m c2,id] w (O (.bool (cZ h id)) w):=by
 have a:=fun(w':World) (hx:Ext w w')=>aJr h id p n b q m c2 w' (hi.ext hx)
 unfold wH at a;unfold cZ;cases hs:cT h id with
 |none=>rw[hs]at a;exact aM5 h.aA h.aB h.free h.step h.aD h.aF h.aC h.aG id p n b q m c2 w a
 |some s=>obtain⟨a1,a2,a3⟩:=s;rw[hs]at a;obtain⟨t,st,hc,h9⟩:=rE hs;exact aIp h.aA h.aB h.free h.step h.aD h.aF h.aC h.aG id p n b q m c2 w a1 a2 a3 _ a (fun w'=>aS7 h.free h.step h.aD h.aF a1 a2 a3 h.aC w' t st hc h9)
theorem oQ (h:aL)(id:Int)(p:OA)(n b:Nat)(q:OA)(m c2:Nat)(w:World)(hi:IsHouse w h p n b q m c2):
  U 93 #[bG h p n b q m c2,id] w (O (I (aQ h id)) w):=by
 have a:=fun(w':World) (hx:Ext w w')=>aJj h id p n b q m c2 w' (hi.ext hx)
 unfold wH at a;unfold aQ;cases hs:cT h id with
 |none=>rw[hs]at a;exact aL2 h.aA h.aB h.free h.step h.aD h.aF h.aC h.aG id p n b q m c2 w a
 |some s=>obtain⟨a1,a2,a3⟩:=s;rw[hs]at a;obtain⟨t,st,hc,h9⟩:=rE hs;exact aHf h.aA h.aB h.free h.step h.aD h.aF h.aC h.aG id p n b q m c2 w a1 a2 a3 _ a (fun w'=>aCc h.free h.step h.aD h.aF a1 a2 a3 h.aC w' t st hc h9)
theorem tH (h:aL)(id:Int)(p:OA)(n b:Nat)(q:OA)(m c2:Nat)(w:World)(hi:IsHouse w h p n b q m c2):
  U 79 #[bG h p n b q m c2,id] w (O (.bool (cZ h id)) w):=by
 have a:=fun(w':World) (hx:Ext w w')=>aJj h id p n b q m c2 w' (hi.ext hx)
 unfold wH at a;unfold cZ;cases hs:cT h id with
 |none=>rw[hs]at a;exact aKz h.aA h.aB h.free h.step h.aD h.aF h.aC h.aG id p n b q m c2 w a
 |some s=>obtain⟨a1,a2,a3⟩:=s;rw[hs]at a;obtain⟨t,st,hc,h9⟩:=rE hs;exact aHb h.aA h.aB h.free h.step h.aD h.aF h.aC h.aG id p n b q m c2 w a1 a2 a3 _ a (fun w'=>aRt h.free h.step h.aD h.aF a1 a2 a3 h.aC w' t st hc h9)
abbrev THD:TypeId:=62
theorem aHj (aA aB a b aD aF aC aG c f g:Int)(p:OA)(n d:Nat)(q:OA)(m c2:Nat)(xs:List Int)(vs:List aR)(w:World)
  (h:xB 9 #[.agg #[aA,aB,.slice p n d,a,b,aD,aF,aC,aG,.slice q m c2]] w false):
  U 38 #[.agg #[aA,aB,.slice p n d,a,b,aD,aF,aC,aG,.slice q m c2],.agg #[c,f,g]] w (O (.tuple #[.agg #[(),(),((),()),(),(),(),(),(),(),((),())],(-1:Int),.bool false]) w):=by
 go_enter func38,ntmps38;go_wp2_with fail;refine Z (h _ ((((Mem.start w).c0 aK #[aA,aB,.slice p n d,a,b,aD,aF,aC,aG,.slice q m c2]).c1 THD #[c,f,g]).c2 aK zT).ext) fun w1 k=>?_
 have M1:=(((((Mem.start w).c0 aK #[aA,aB,.slice p n d,a,b,aD,aF,aC,aG,.slice q m c2]).c1 THD #[c,f,g]).c2 aK zT).adv k)
 clear k h;have f_:=(M1.bk 0).tenf;go_wp2;clear f_;have M2:=(M1.put10 (i:=0) rfl (I 0) (I 0) (.slice none 0 0) (I 0) (I 0) (I 0) (I 0) (I 0) (I 0) (.slice none 0 0))
 generalize j:World.setCell _ _ _=wz;rw[j]at M2;clear j M1;have y_:=(M2.bk 0).ten;exact bodyPost_ret (v:= .tuple #[.agg #[(),(),((),()),(),(),(),(),(),(),((),())],(-1:Int),.bool false]) (by simp[results,results38,go_sem, *]) rfl ⟨rfl,M2.ext⟩
theorem aCl (aA aB b c aD aF aC aG a l o:Int)(p:OA)(n d:Nat)(q:OA)(m c2:Nat)(xs:List Int)(vs:List aR)(w:World)(h0:a≠0)(h1:a≠1)(h2:a≠2)(h3:a≠3)(h4:a≠4)
  (r:xB 9 #[.agg #[aA,aB,.slice p n d,b,c,aD,aF,aC,aG,.slice q m c2]] w true)
  (HL:xC 21 #[.agg #[aA,aB,.slice p n d,b,c,aD,aF,aC,aG,.slice q m c2]] w fun w' e w''=> ∃p' cap' q' c2',e= .returned (.agg #[aA,aB,.slice p' n cap',b,c,aD,aF,aC,aG,.slice q' m c2'])∧w''.ownsRow w' TI 1 (.slice p' n cap') n (ivs xs)∧w''.ownsRow w' TV 4 (.slice q' m c2') m (vs.flatMap aE)∧Ext w' w''):
  U 38 #[.agg #[aA,aB,.slice p n d,b,c,aD,aF,aC,aG,.slice q m c2],.agg #[a,l,o]] w fun e w'=> ∃p' cap' q' c2',e= .returned (.tuple #[.agg #[aA,aB,.slice p' n cap',b,c,aD,aF,aC,aG,.slice q' m c2'],(-1:Int),.bool false])∧w'.ownsRow w TI 1 (.slice p' n cap') n (ivs xs)∧w'.ownsRow w TV 4 (.slice q' m c2') m (vs.flatMap aE)∧Ext w w':=by
 go_enter func38,ntmps38;go_wp2_with fail;refine Z (r _ ((((Mem.start w).c0 aK #[aA,aB,.slice p n d,b,c,aD,aF,aC,aG,.slice q m c2]).c1 THD #[a,l,o]).c2 aK zT).ext) fun w1 x=>?_
 have M1:=(((((Mem.start w).c0 aK #[aA,aB,.slice p n d,b,c,aD,aF,aC,aG,.slice q m c2]).c1 THD #[a,l,o]).c2 aK zT).adv x)
 clear x r;have f:=(M1.bk 2).ten;go_wp2_with fail;clear f;refine(HL _ M1.ext).mono ?_;rintro e w2 ⟨p1,s,q1,t,rfl,ho,hq,hx⟩;have M2:=(M1.own2 hx ho hq (aT5 _) (by decide))
 clear M1 hx ho hq;have j:=M2.hi 3;have k:=M2.hi 4;have f:=(M2.bk 4).ten;have y:=(M2.bk 3).cl 0;have k0:(a==0)=false:=by simp;omega
 have k1:(a==1)=false:=by simp;omega
 have k2:(a==2)=false:=by simp;omega
 have k3:(a==3)=false:=by simp;omega
 have k4:(a==4)=false:=by simp;omega
 go_wp2_with fail;clear f y;refine(HL _ (M2.c0 aK #[aA,aB,.slice p1 n s,b,c,aD,aF,aC,aG,.slice q1 m t]).ext).mono ?_;rintro e w9 ⟨p9,g,q9,h,rfl,ho,hq,hx⟩;have M3:=((M2.c0 aK #[aA,aB,.slice p1 n s,b,c,aD,aF,aC,aG,.slice q1 m t]).own2 hx ho hq (aT5 _) (by decide))
 clear M2 j k hx ho hq HL;have f_:=(M3.bk 5).tenf;go_wp2;clear f_;have M4:=(M3.put10 (i:=5) rfl (I aA) (I aB) (.slice p9 n g) (I b) (I c) (I aD) (I aF) (I aC) (I aG) (.slice q9 m h))
 generalize u:World.setCell _ _ _=wz;rw[u]at M4;clear u M3;have y_:=(M4.bk 5).ten;exact bodyPost_ret (v:= .tuple #[.agg #[aA,aB,.slice p9 n g,b,c,aD,aF,aC,aG,.slice q9 m h],(-1:Int),.bool false]) (by simp[results,results38,go_sem, *]) rfl ⟨p9,g,q9,h,rfl,(M4.ow 0),(M4.ow 1),M4.ext⟩
theorem xD (aA aB a b aD aF aC aG c ae:Int)(p:OA)(n d:Nat)(q:OA)(m c2:Nat)(xs:List Int)(vs:List aR)(w:World)(hc:0≤aC)(ak:aC≤9999)(h1:1≤c)(h2:c≤9999-aC)
  (af:xB 9 #[.agg #[aA,aB,.slice p n d,a,b,aD,aF,aC,aG,.slice q m c2]] w true)
  (HL:xC 21 #[.agg #[aA,aB,.slice p n d,a,b,aD,aF,aC,aG,.slice q m c2]] w fun w' e w''=> ∃p' cap' q' c2',e= .returned (.agg #[aA,aB,.slice p' n cap',a,b,aD,aF,aC,aG,.slice q' m c2'])∧w''.ownsRow w' TI 1 (.slice p' n cap') n (ivs xs)∧w''.ownsRow w' TV 4 (.slice q' m c2') m (vs.flatMap aE)∧Ext w' w'')
  (HI:Hid (∀w',U 27 #[c,I 1,(9999-aC:Int)] w' fun e w''=>e= .returned (.bool true)∧w'=w'')):
  U 38 #[.agg #[aA,aB,.slice p n d,a,b,aD,aF,aC,aG,.slice q m c2],.agg #[I 3,c,ae]] w fun e w'=> ∃p' cap' q' c2',e= .returned (.tuple #[.agg #[aA,aB,.slice p' n cap',a,b,aD,aF,(aC+c:Int),aG,.slice q' m c2'],(aC+c:Int),.bool true])∧w'.ownsRow w TI 1 (.slice p' n cap') n (ivs xs)∧w'.ownsRow w TV 4 (.slice q' m c2') m (vs.flatMap aE)∧Ext w w':=by
 go_enter func38,ntmps38;go_wp2_with fail;refine Z (af _ ((((Mem.start w).c0 aK #[aA,aB,.slice p n d,a,b,aD,aF,aC,aG,.slice q m c2]).c1 THD #[I 3,c,ae]).c2 aK zT).ext) fun w1 ah=>?_
 have M1:=(((((Mem.start w).c0 aK #[aA,aB,.slice p n d,a,b,aD,aF,aC,aG,.slice q m c2]).c1 THD #[I 3,c,ae]).c2 aK zT).adv ah)
 clear ah af;obtain⟨l,o,r,s,t,u,x,f,y,z⟩:=(M1.bk 2).ten;go_wp2_with fail;clear l o r s t u x f y z;refine(HL _ M1.ext).mono ?_;rintro e w2 ⟨p1,g,q1,h,rfl,ho,hq,hx⟩;have M2:=(M1.own2 hx ho hq (aT5 _) (by decide))
 clear M1 hx ho hq;have ab:=M2.hi 3;have ad:=M2.hi 4;obtain⟨l,o,r,s,t,u,x,f,y,z⟩:=(M2.bk 4).ten;obtain⟨ai,aa,aj⟩:=(M2.bk 3).tri;have k1:=aVw (9999-aC);go_wp2_with fail;refine(HI _).mono ?_;rintro e _ ⟨rfl,rfl⟩;clear HI k1 l o r s t u x f y z ai aa aj;have M3:=(M2.c0 aK #[aA,aB,.slice p1 n g,a,b,aD,aF,aC,aG,.slice q1 m h])
 generalize (w2.alloc (.cells #[aA,aB,.slice p1 n g,a,b,aD,aF,aC,aG,.slice q1 m h] aK))=w3 at M3⊢;clear M2 ab ad;have f:=(M3.bk 5).cl 7;have aa:=(M3.bk 4).cl 1;have d_:=(M3.bk 0).tenf;have f_:=(M3.bk 3).tenf;obtain⟨j,k⟩:=M3.nq 0 3;have k2:=aVw (aC+c);have hd:decide (aC+c<0)=false:=by simp;omega
 clear HL;have M4:=(M3.st 0 7 (I (aC+c)))
 go_wp2;clear f aa d_ f_ j k;have M5:=(M4.put10 (i:=3) rfl (I aA) (I aB) (.slice p1 n g) (I a) (I b) (I aD) (I aF) (I (aC+c)) (I aG) (.slice q1 m h))
 generalize ag:World.setCell _ _ _=wz;rw[ag]at M5;clear ag M3 M4;have y_:=(M5.bk 3).ten;exact bodyPost_ret (v:= .tuple #[.agg #[aA,aB,.slice p1 n g,a,b,aD,aF,(aC+c:Int),aG,.slice q1 m h],(aC+c:Int),.bool true]) (by simp[results,results38,go_sem, *]) rfl ⟨p1,g,q1,h,rfl,(M5.ow 1),(M5.ow 2),M5.ext⟩
theorem yH (aA aB a b aD aF aC aG f l:Int)(p:OA)(n c:Nat)(q:OA)(m c2:Nat)(xs:List Int)(vs:List aR)(w:World)(hc:0≤aC)(y:aC≤9999)
  (o:xB 9 #[.agg #[aA,aB,.slice p n c,a,b,aD,aF,aC,aG,.slice q m c2]] w true)
  (HL:xC 21 #[.agg #[aA,aB,.slice p n c,a,b,aD,aF,aC,aG,.slice q m c2]] w fun w' e w''=> ∃p' cap' q' c2',e= .returned (.agg #[aA,aB,.slice p' n cap',a,b,aD,aF,aC,aG,.slice q' m c2'])∧w''.ownsRow w' TI 1 (.slice p' n cap') n (ivs xs)∧w''.ownsRow w' TV 4 (.slice q' m c2') m (vs.flatMap aE)∧Ext w' w'')
  (HI:Hid (∀w',U 27 #[f,I 1,(9999-aC:Int)] w' fun e w''=>e= .returned (.bool false)∧w'=w'')):
  U 38 #[.agg #[aA,aB,.slice p n c,a,b,aD,aF,aC,aG,.slice q m c2],.agg #[I 3,f,l]] w fun e w'=> ∃p' cap' q' c2',e= .returned (.tuple #[.agg #[aA,aB,.slice p' n cap',a,b,aD,aF,aC,aG,.slice q' m c2'],(-1:Int),.bool false])∧w'.ownsRow w TI 1 (.slice p' n cap') n (ivs xs)∧w'.ownsRow w TV 4 (.slice q' m c2') m (vs.flatMap aE)∧Ext w w':=by
 go_enter func38,ntmps38;go_wp2_with fail;refine Z (o _ ((((Mem.start w).c0 aK #[aA,aB,.slice p n c,a,b,aD,aF,aC,aG,.slice q m c2]).c1 THD #[I 3,f,l]).c2 aK zT).ext) fun w1 u=>?_
 have M1:=(((((Mem.start w).c0 aK #[aA,aB,.slice p n c,a,b,aD,aF,aC,aG,.slice q m c2]).c1 THD #[I 3,f,l]).c2 aK zT).adv u)
 clear u o;have d:=(M1.bk 2).ten;go_wp2_with fail;clear d;refine(HL _ M1.ext).mono ?_;rintro e w2 ⟨p1,r,q1,s,rfl,ho,hq,hx⟩;have M2:=(M1.own2 hx ho hq (aT5 _) (by decide))
 clear M1 hx ho hq;have j:=M2.hi 3;have k:=M2.hi 4;have d:=(M2.bk 4).ten;have x:=(M2.bk 3).tri;have k1:=aVw (9999-aC);go_wp2_with fail;refine(HI _).mono ?_;rintro e _ ⟨rfl,rfl⟩;clear HI k1 d x;have M3:=(M2.c0 aK #[aA,aB,.slice p1 n r,a,b,aD,aF,aC,aG,.slice q1 m s])
 generalize (w2.alloc (.cells #[aA,aB,.slice p1 n r,a,b,aD,aF,aC,aG,.slice q1 m s] aK))=w3 at M3⊢;clear M2 j k;have d:=(M3.bk 5).ten;go_wp2_with fail;clear d;refine(HL _ M3.ext).mono ?_;rintro e w9 ⟨p9,g,q9,h,rfl,ho,hq,hx⟩;have M4:=(M3.own2 hx ho hq (aT5 _) (by decide))
 clear M3 hx ho hq HL;have f_:=(M4.bk 5).tenf;go_wp2;clear f_;have M5:=(M4.put10 (i:=5) rfl (I aA) (I aB) (.slice p9 n g) (I a) (I b) (I aD) (I aF) (I aC) (I aG) (.slice q9 m h))
 generalize t:World.setCell _ _ _=wz;rw[t]at M5;clear t M4;have y_:=(M5.bk 5).ten;exact bodyPost_ret (v:= .tuple #[.agg #[aA,aB,.slice p9 n g,a,b,aD,aF,aC,aG,.slice q9 m h],(-1:Int),.bool false]) (by simp[results,results38,go_sem, *]) rfl ⟨p9,g,q9,h,rfl,(M5.ow 0),(M5.ow 1),M5.ext⟩
theorem yI (aA aB a b aD aF aC aG c d k l:Int)(p:OA)(n f:Nat)(q:OA)(m c2:Nat)(xs:List Int)(vs aa:List aR)(w:World)(h0:0≤d)
  (u:xB 9 #[.agg #[aA,aB,.slice p n f,a,b,aD,aF,aC,aG,.slice q m c2]] w true)
  (HL:xC 21 #[.agg #[aA,aB,.slice p n f,a,b,aD,aF,aC,aG,.slice q m c2]] w fun w' e w''=> ∃p' cap' q' c2',e= .returned (.agg #[aA,aB,.slice p' n cap',a,b,aD,aF,aC,aG,.slice q' m c2'])∧w''.ownsRow w' TI 1 (.slice p' n cap') n (ivs xs)∧w''.ownsRow w' TV 4 (.slice q' m c2') m (vs.flatMap aE)∧Ext w' w'')
  (HP:xC 76 #[.agg #[aA,aB,.slice p n f,a,b,aD,aF,aC,aG,.slice q m c2],k,l] w fun w' e w''=> ∃p' cap' q' c2',e= .returned (.tuple #[.agg #[aA,aB,.slice p' n cap',a,b,aD,aF,aC,c,.slice q' m c2'],d,.bool true])∧w''.ownsRow w' TI 1 (.slice p' n cap') n (ivs xs)∧w''.ownsRow w' TV 4 (.slice q' m c2') m (aa.flatMap aE)∧Ext w' w''):
  U 38 #[.agg #[aA,aB,.slice p n f,a,b,aD,aF,aC,aG,.slice q m c2],.agg #[I 1,k,l]] w fun e w'=> ∃p' cap' q' c2',e= .returned (.tuple #[.agg #[aA,aB,.slice p' n cap',a,b,aD,aF,aC,c,.slice q' m c2'],d,.bool true])∧w'.ownsRow w TI 1 (.slice p' n cap') n (ivs xs)∧w'.ownsRow w TV 4 (.slice q' m c2') m (aa.flatMap aE)∧Ext w w':=by
 go_enter func38,ntmps38;go_wp2_with fail;refine Z (u _ ((((Mem.start w).c0 aK #[aA,aB,.slice p n f,a,b,aD,aF,aC,aG,.slice q m c2]).c1 THD #[I 1,k,l]).c2 aK zT).ext) fun w1 z=>?_
 have M1:=(((((Mem.start w).c0 aK #[aA,aB,.slice p n f,a,b,aD,aF,aC,aG,.slice q m c2]).c1 THD #[I 1,k,l]).c2 aK zT).adv z)
 clear z u;have o:=(M1.bk 2).ten;go_wp2_with fail;clear o;refine(HL _ M1.ext).mono ?_;rintro e w2 ⟨p1,x,q1,y,rfl,ho,hq,hx⟩;have M2:=(M1.own2 hx ho hq (aT5 _) (by decide))
 clear M1 hx ho hq;have r:=M2.hi 3;have s:=M2.hi 4;have o:=(M2.bk 4).ten;have ab:=(M2.bk 3).tri;go_wp2_with fail;clear o ab;refine(HP _ (M2.c0 aK #[aA,aB,.slice p1 n x,a,b,aD,aF,aC,aG,.slice q1 m y]).ext).mono ?_;rintro e w3 ⟨p5,g,q5,h,rfl,ho,hq,hx⟩;have M3:=((M2.c0 aK #[aA,aB,.slice p1 n x,a,b,aD,aF,aC,aG,.slice q1 m y]).own2 hx ho hq (aT5 _) (by decide))
 clear M2 r s hx ho hq HP HL;have t:=M3.hi 2;have d_:=(M3.bk 2).tenf;have hd:decide (d<0)=false:=by simp;omega
 go_upto_region 16 with fail;clear d_ t;have M4:=(M3.put10 (i:=2) rfl (I aA) (I aB) (.slice p5 n g) (I a) (I b) (I aD) (I aF) (I aC) (I c) (.slice q5 m h))
 generalize j:World.setCell _ _ _=w4;rw[j]at M4;clear j M3;have M5:=(M4.adv ((Ext.refl _).alloc (.cells #[aA,aB,.slice p5 n g,a,b,aD,aF,aC,c,.slice q5 m h] aK)))
 generalize (w4.alloc (.cells #[aA,aB,.slice p5 n g,a,b,aD,aF,aC,c,.slice q5 m h] aK))=w5 at M5⊢;clear M4;have e_:=(M5.bk 2).ten;have f_:=(M5.bk 5).tenf;go_wp2;clear e_ f_;have M6:=(M5.put10 (i:=5) rfl (I aA) (I aB) (.slice p5 n g) (I a) (I b) (I aD) (I aF) (I aC) (I c) (.slice q5 m h))
 generalize j:World.setCell _ _ _=wz;rw[j]at M6;clear j M5;have y_:=(M6.bk 5).ten;exact bodyPost_ret (v:= .tuple #[.agg #[aA,aB,.slice p5 n g,a,b,aD,aF,aC,c,.slice q5 m h],d,.bool true]) (by simp[results,results38,go_sem, *]) rfl ⟨p5,g,q5,h,rfl,(M6.ow 0),(M6.ow 1),M6.ext⟩
theorem aA9 (aA aB a c aD aF aC aG g h:Int)(p:OA)(n d:Nat)(q:OA)(m c2:Nat)(xs:List Int)(vs:List aR)(w:World)
  (s:xB 9 #[.agg #[aA,aB,.slice p n d,a,c,aD,aF,aC,aG,.slice q m c2]] w true)
  (HL:xC 21 #[.agg #[aA,aB,.slice p n d,a,c,aD,aF,aC,aG,.slice q m c2]] w fun w' e w''=> ∃p' cap' q' c2',e= .returned (.agg #[aA,aB,.slice p' n cap',a,c,aD,aF,aC,aG,.slice q' m c2'])∧w''.ownsRow w' TI 1 (.slice p' n cap') n (ivs xs)∧w''.ownsRow w' TV 4 (.slice q' m c2') m (vs.flatMap aE)∧Ext w' w'')
  (HP:xC 76 #[.agg #[aA,aB,.slice p n d,a,c,aD,aF,aC,aG,.slice q m c2],g,h] w fun w' e w''=> ∃p' cap' q' c2' b,e= .returned (.tuple #[.agg #[aA,aB,.slice p' n cap',a,c,aD,aF,aC,aG,.slice q' m c2'],b,.bool false])∧Ext w' w''):
  U 38 #[.agg #[aA,aB,.slice p n d,a,c,aD,aF,aC,aG,.slice q m c2],.agg #[I 1,g,h]] w fun e w'=> ∃p' cap' q' c2',e= .returned (.tuple #[.agg #[aA,aB,.slice p' n cap',a,c,aD,aF,aC,aG,.slice q' m c2'],(-1:Int),.bool false])∧w'.ownsRow w TI 1 (.slice p' n cap') n (ivs xs)∧w'.ownsRow w TV 4 (.slice q' m c2') m (vs.flatMap aE)∧Ext w w':=by
 go_enter func38,ntmps38;go_wp2_with fail;refine Z (s _ ((((Mem.start w).c0 aK #[aA,aB,.slice p n d,a,c,aD,aF,aC,aG,.slice q m c2]).c1 THD #[I 1,g,h]).c2 aK zT).ext) fun w1 aa=>?_
 have M1:=(((((Mem.start w).c0 aK #[aA,aB,.slice p n d,a,c,aD,aF,aC,aG,.slice q m c2]).c1 THD #[I 1,g,h]).c2 aK zT).adv aa)
 clear aa s;have f:=(M1.bk 2).ten;go_wp2_with fail;clear f;refine(HL _ M1.ext).mono ?_;rintro e w2 ⟨p1,t,q1,x,rfl,ho,hq,hx⟩;have M2:=(M1.own2 hx ho hq (aT5 _) (by decide))
 clear M1 hx ho hq;have l:=M2.hi 3;have o:=M2.hi 4;have f:=(M2.bk 4).ten;have ab:=(M2.bk 3).tri;go_wp2_with fail;clear f ab;refine(HP _ (M2.c0 aK #[aA,aB,.slice p1 n t,a,c,aD,aF,aC,aG,.slice q1 m x]).ext).mono ?_;rintro e w3 ⟨p5,u,q5,y,b5,rfl,hx⟩;have M3:=((M2.c0 aK #[aA,aB,.slice p1 n t,a,c,aD,aF,aC,aG,.slice q1 m x]).adv hx)
 clear M2 l o hx HP;have r:=M3.hi 5;have f:=(M3.bk 5).ten;go_wp2_with fail;clear f;refine(HL _ (M3.c0 aK #[aA,aB,.slice p5 n u,a,c,aD,aF,aC,aG,.slice q5 m y]).ext).mono ?_;rintro e w9 ⟨p9,j,q9,k,rfl,ho,hq,hx⟩;have M4:=((M3.c0 aK #[aA,aB,.slice p5 n u,a,c,aD,aF,aC,aG,.slice q5 m y]).own2 hx ho hq (aT5 _) (by decide))
 clear M3 r hx ho hq HL;have f_:=(M4.bk 6).tenf;go_wp2;clear f_;have M5:=(M4.put10 (i:=6) rfl (I aA) (I aB) (.slice p9 n j) (I a) (I c) (I aD) (I aF) (I aC) (I aG) (.slice q9 m k))
 generalize z:World.setCell _ _ _=wz;rw[z]at M5;clear z M4;have y_:=(M5.bk 6).ten;exact bodyPost_ret (v:= .tuple #[.agg #[aA,aB,.slice p9 n j,a,c,aD,aF,aC,aG,.slice q9 m k],(-1:Int),.bool false]) (by simp[results,results38,go_sem, *]) rfl ⟨p9,j,q9,k,rfl,(M5.ow 0),(M5.ow 1),M5.ext⟩
theorem uY (aA aB a b aD aF aC aG h j:Int)(p:OA)(n c:Nat)(q:OA)(m c2:Nat)(xs ys:List Int)(vs:List aR)(w:World)
  (s:xB 9 #[.agg #[aA,aB,.slice p n c,a,b,aD,aF,aC,aG,.slice q m c2]] w true)
  (HL:xC 21 #[.agg #[aA,aB,.slice p n c,a,b,aD,aF,aC,aG,.slice q m c2]] w fun w' e w''=> ∃p' cap' q' c2',e= .returned (.agg #[aA,aB,.slice p' n cap',a,b,aD,aF,aC,aG,.slice q' m c2'])∧w''.ownsRow w' TI 1 (.slice p' n cap') n (ivs xs)∧w''.ownsRow w' TV 4 (.slice q' m c2') m (vs.flatMap aE)∧Ext w' w'')
  (HP:xC 80 #[aH aA aB p n c,eK h j] w fun w' e w''=> ∃p' cap',e= .returned (.tuple #[aH aA aB p' n cap',.bool true])∧w''.ownsRow w' TI 1 (.slice p' n cap') n (ivs ys)∧Ext w' w''):
  U 38 #[.agg #[aA,aB,.slice p n c,a,b,aD,aF,aC,aG,.slice q m c2],.agg #[I 4,h,j]] w fun e w'=> ∃p' cap' q' c2',e= .returned (.tuple #[.agg #[aA,aB,.slice p' n cap',a,b,aD,aF,aC,aG,.slice q' m c2'],(),.bool true])∧w'.ownsRow w TI 1 (.slice p' n cap') n (ivs ys)∧w'.ownsRow w TV 4 (.slice q' m c2') m (vs.flatMap aE)∧Ext w w':=by
 go_enter func38,ntmps38;go_wp2_with fail;refine Z (s _ ((((Mem.start w).c0 aK #[aA,aB,.slice p n c,a,b,aD,aF,aC,aG,.slice q m c2]).c1 THD #[I 4,h,j]).c2 aK zT).ext) fun w1 u=>?_
 have M1:=(((((Mem.start w).c0 aK #[aA,aB,.slice p n c,a,b,aD,aF,aC,aG,.slice q m c2]).c1 THD #[I 4,h,j]).c2 aK zT).adv u)
 clear u s;have k:=(M1.bk 2).ten;go_wp2_with fail;clear k;refine(HL _ M1.ext).mono ?_;rintro e w2 ⟨p1,t,q1,f,rfl,ho,hq,hx⟩;have M2:=(M1.own2 hx ho hq (aT5 _) (by decide))
 clear M1 hx ho hq;have l:=M2.hi 3;have o:=M2.hi 4;have k:=(M2.bk 4).ten;have x:=(M2.bk 3).tri;go_wp2_with fail;clear k x;refine(HP _ (M2.c0 aK #[aA,aB,.slice p1 n t,a,b,aD,aF,aC,aG,.slice q1 m f]).ext).mono ?_;rintro e w3 ⟨p5,d,rfl,ho,hx⟩;have M3:=((M2.c0 aK #[aA,aB,.slice p1 n t,a,b,aD,aF,aC,aG,.slice q1 m f]).call hx ho)
 clear M2 l o hx ho HP HL;have r:=M3.hi 1;have d_:=(M3.bk 1).tenf;have M4:=(((M3.st 1 0 (I aA)).st 1 1 (I aB)).st 1 2 (.slice p5 n d))
 go_upto_region 32 with fail;clear d_ r;have M5:=(M4)
 generalize g:World.setCell _ _ _=w4;rw[g]at M5;clear g M3 M4;have M6:=(M5.adv ((Ext.refl _).alloc (.cells #[aA,aB,.slice p5 n d] TH3)))
 generalize (w4.alloc (.cells #[aA,aB,.slice p5 n d] TH3))=w5 at M6⊢;clear M5;have e_:=(M6.bk 1).ten;have f_:=(M6.bk 4).tenf;go_wp2;clear e_ f_;have M7:=(M6.put10 (i:=4) rfl (I aA) (I aB) (.slice p5 n d) (I a) (I b) (I aD) (I aF) (I aC) (I aG) (.slice q1 m f))
 generalize g:World.setCell _ _ _=wz;rw[g]at M7;clear g M6;have y_:=(M7.bk 4).ten;exact bodyPost_ret (v:= .tuple #[.agg #[aA,aB,.slice p5 n d,a,b,aD,aF,aC,aG,.slice q1 m f],(),.bool true]) (by simp[results,results38,go_sem, *]) rfl ⟨p5,d,q1,f,rfl,(M7.ow 0),(M7.ow 3),M7.ext⟩
theorem xG (aA aB a b aD aF aC aG f g:Int)(p:OA)(n c:Nat)(q:OA)(m c2:Nat)(xs ys:List Int)(vs:List aR)(w:World)
  (r:xB 9 #[.agg #[aA,aB,.slice p n c,a,b,aD,aF,aC,aG,.slice q m c2]] w true)
  (HL:xC 21 #[.agg #[aA,aB,.slice p n c,a,b,aD,aF,aC,aG,.slice q m c2]] w fun w' e w''=> ∃p' cap' q' c2',e= .returned (.agg #[aA,aB,.slice p' n cap',a,b,aD,aF,aC,aG,.slice q' m c2'])∧w''.ownsRow w' TI 1 (.slice p' n cap') n (ivs xs)∧w''.ownsRow w' TV 4 (.slice q' m c2') m (vs.flatMap aE)∧Ext w' w'')
  (HP:xC 80 #[aH aA aB p n c,eK f g] w fun w' e w''=> ∃p' cap',e= .returned (.tuple #[aH aA aB p' n cap',.bool false])∧w''.ownsRow w' TI 1 (.slice p' n cap') n (ivs ys)∧Ext w' w''):
  U 38 #[.agg #[aA,aB,.slice p n c,a,b,aD,aF,aC,aG,.slice q m c2],.agg #[I 4,f,g]] w fun e w'=> ∃p' cap' q' c2',e= .returned (.tuple #[.agg #[aA,aB,.slice p' n cap',a,b,aD,aF,aC,aG,.slice q' m c2'],(-1:Int),.bool false])∧w'.ownsRow w TI 1 (.slice p' n cap') n (ivs xs)∧w'.ownsRow w TV 4 (.slice q' m c2') m (vs.flatMap aE)∧Ext w w':=by
 go_enter func38,ntmps38;go_wp2_with fail;refine Z (r _ ((((Mem.start w).c0 aK #[aA,aB,.slice p n c,a,b,aD,aF,aC,aG,.slice q m c2]).c1 THD #[I 4,f,g]).c2 aK zT).ext) fun w1 y=>?_
 have M1:=(((((Mem.start w).c0 aK #[aA,aB,.slice p n c,a,b,aD,aF,aC,aG,.slice q m c2]).c1 THD #[I 4,f,g]).c2 aK zT).adv y)
 clear y r;have d:=(M1.bk 2).ten;go_wp2_with fail;clear d;refine(HL _ M1.ext).mono ?_;rintro e w2 ⟨p1,s,q1,u,rfl,ho,hq,hx⟩;have M2:=(M1.own2 hx ho hq (aT5 _) (by decide))
 clear M1 hx ho hq;have k:=M2.hi 3;have l:=M2.hi 4;have d:=(M2.bk 4).ten;have z:=(M2.bk 3).tri;go_wp2_with fail;clear d z;refine(HP _ (M2.c0 aK #[aA,aB,.slice p1 n s,a,b,aD,aF,aC,aG,.slice q1 m u]).ext).mono ?_;rintro e w3 ⟨p5,t,rfl,ho,hx⟩;have M3:=((M2.c0 aK #[aA,aB,.slice p1 n s,a,b,aD,aF,aC,aG,.slice q1 m u]).call hx ho)
 clear M2 k l hx ho HP;have o:=M3.hi 6;have d:=(M3.bk 6).ten;go_wp2_with fail;clear d;refine(HL _ (M3.c0 TH3 #[aA,aB,.slice p5 n t]).ext).mono ?_;rintro e w9 ⟨p9,h,q9,j,rfl,ho,hq,hx⟩;have M4:=((M3.c0 TH3 #[aA,aB,.slice p5 n t]).own2 hx ho hq (aT5 _) (by decide))
 clear M3 o hx ho hq HL;have f_:=(M4.bk 7).tenf;go_wp2;clear f_;have M5:=(M4.put10 (i:=7) rfl (I aA) (I aB) (.slice p9 n h) (I a) (I b) (I aD) (I aF) (I aC) (I aG) (.slice q9 m j))
 generalize x:World.setCell _ _ _=wz;rw[x]at M5;clear x M4;have y_:=(M5.bk 7).ten;exact bodyPost_ret (v:= .tuple #[.agg #[aA,aB,.slice p9 n h,a,b,aD,aF,aC,aG,.slice q9 m j],(-1:Int),.bool false]) (by simp[results,results38,go_sem, *]) rfl ⟨p9,h,q9,j,rfl,(M5.ow 0),(M5.ow 1),M5.ext⟩
theorem uX (aA aB a b aD aF aC aG c l aj:Int)(p:OA)(n g:Nat)(q:OA)(m c2:Nat)(xs ys:List Int)(vs ap:List aR)(w:World)(h0:0≤c)
  (ak:xB 9 #[.agg #[aA,aB,.slice p n g,a,b,aD,aF,aC,aG,.slice q m c2]] w true)
  (HL:xC 21 #[.agg #[aA,aB,.slice p n g,a,b,aD,aF,aC,aG,.slice q m c2]] w fun w' e w''=> ∃p' cap' q' c2',e= .returned (.agg #[aA,aB,.slice p' n cap',a,b,aD,aF,aC,aG,.slice q' m c2'])∧w''.ownsRow w' TI 1 (.slice p' n cap') n (ivs xs)∧w''.ownsRow w' TV 4 (.slice q' m c2') m (vs.flatMap aE)∧Ext w' w'')
  (HP:xC 74 #[aH aA aB p n g,l] w fun w' e w''=> ∃p' cap',e= .returned (.tuple #[aH aA aB p' n cap',c])∧w''.ownsRow w' TI 1 (.slice p' n cap') n (ivs ys)∧Ext w' w'')
  (HQ:xC 75 #[.slice q m c2,.agg #[l,aC,(),aC]] w fun w' e w''=> ∃q' c',e= .returned (.slice q' (m+1) c')∧w''.ownsRow w' TV 4 (.slice q' (m+1) c') (m+1) (ap.flatMap aE)∧Ext w' w''):
  U 38 #[.agg #[aA,aB,.slice p n g,a,b,aD,aF,aC,aG,.slice q m c2],.agg #[(),l,aj]] w fun e w'=> ∃p' cap' q' c2',e= .returned (.tuple #[.agg #[aA,aB,.slice p' n cap',a,b,aD,aF,aC,aG,.slice q' (m+1) c2'],c,.bool true])∧w'.ownsRow w TI 1 (.slice p' n cap') n (ivs ys)∧w'.ownsRow w TV 4 (.slice q' (m+1) c2') (m+1) (ap.flatMap aE)∧Ext w w':=by
 go_enter func38,ntmps38;go_wp2_with fail;refine Z (ak _ ((((Mem.start w).c0 aK #[aA,aB,.slice p n g,a,b,aD,aF,aC,aG,.slice q m c2]).c1 THD #[(),l,aj]).c2 aK zT).ext) fun w1 ao=>?_
 have M1:=(((((Mem.start w).c0 aK #[aA,aB,.slice p n g,a,b,aD,aF,aC,aG,.slice q m c2]).c1 THD #[(),l,aj]).c2 aK zT).adv ao)
 clear ao ak;obtain⟨s,t,u,x,y,z,aa,j,ab,k⟩:=(M1.bk 2).ten;go_wp2_with fail;clear s t u x y z aa j ab k;refine(HL _ M1.ext).mono ?_;rintro e w2 ⟨p1,al,q1,am,rfl,ho,hq,hx⟩;have M2:=(M1.own2 hx ho hq (aT5 _) (by decide))
 clear M1 hx ho hq;have ae:=M2.hi 3;have af:=M2.hi 4;obtain⟨s,t,u,x,y,z,aa,j,ab,k⟩:=(M2.bk 4).ten;obtain⟨aq,ad,ar⟩:=(M2.bk 3).tri;go_wp2_with fail;clear s t u x y z aa j ab k aq ad ar;refine(HP _ (M2.c0 aK #[aA,aB,.slice p1 n al,a,b,aD,aF,aC,aG,.slice q1 m am]).ext).mono ?_;rintro e w3 ⟨p5,h,rfl,ho,hx⟩;have M3:=((M2.c0 aK #[aA,aB,.slice p1 n al,a,b,aD,aF,aC,aG,.slice q1 m am]).call hx ho)
 clear M2 ae af hx ho HP HL;have ag:=M3.hi 1;have ah:=M3.hi 5;have ai:=M3.hi 6;have d0:=(M3.bk 1).cl 0;have au:=(M3.bk 1).frozen 0;have d1:=(M3.bk 1).cl 1;have av:=(M3.bk 1).frozen 1;have d2:=(M3.bk 1).cl 2;have aw:=(M3.bk 1).frozen 2;have j:=(M3.bk 6).cl 7;have k:=(M3.bk 6).cl 9;have ad:=(M3.bk 5).cl 1;obtain⟨d,f⟩:=M3.nq 5 6;obtain⟨o,r⟩:=M3.nq 1 5;have hd:decide (c<0)=false:=by simp;omega
 have M4:=(((M3.st 1 0 (I aA)).st 1 1 (I aB)).st 1 2 (.slice p5 n h))
 go_wp2_with fail;clear d0 au d1 av d2 aw j k ad d f o r;refine(HQ _ (M4.adv ((Ext.refl _).alloc (.cells #[aA,aB,.slice p5 n h] TH3))).ext).mono ?_;rintro e w4 ⟨q7,c7,rfl,ho,hx⟩;have M5:=((M4.adv ((Ext.refl _).alloc (.cells #[aA,aB,.slice p5 n h] TH3))).call hx ho)
 clear M3 ag ah ai hx ho HQ;have e_:=(M5.bk 2).tenf;have f_:=(M5.bk 5).tenf;obtain⟨d,f⟩:=M5.nq 2 5;have M6:=(M5.st 2 9 (.slice q7 (m+1) c7))
 go_wp2;clear e_ f_ d f;have M7:=(M6.put10 (i:=5) rfl (I aA) (I aB) (.slice p5 n h) (I a) (I b) (I aD) (I aF) (I aC) (I aG) (.slice q7 (m+1) c7))
 generalize an:World.setCell _ _ _=wz;rw[an]at M7;clear an M5 M4 M6;have y_:=(M7.bk 5).ten;exact bodyPost_ret (v:= .tuple #[.agg #[aA,aB,.slice p5 n h,a,b,aD,aF,aC,aG,.slice q7 (m+1) c7],c,.bool true]) (by simp[results,results38,go_sem, *]) rfl ⟨p5,h,q7,c7,rfl,(M7.ow 1),(M7.ow 0),M7.ext⟩
theorem xF (aA aB a b aD aF aC aG c g r:Int)(p:OA)(n d:Nat)(q:OA)(m c2:Nat)(xs ys:List Int)(vs:List aR)(w:World)(h0:c<0)
  (s:xB 9 #[.agg #[aA,aB,.slice p n d,a,b,aD,aF,aC,aG,.slice q m c2]] w true)
  (HL:xC 21 #[.agg #[aA,aB,.slice p n d,a,b,aD,aF,aC,aG,.slice q m c2]] w fun w' e w''=> ∃p' cap' q' c2',e= .returned (.agg #[aA,aB,.slice p' n cap',a,b,aD,aF,aC,aG,.slice q' m c2'])∧w''.ownsRow w' TI 1 (.slice p' n cap') n (ivs xs)∧w''.ownsRow w' TV 4 (.slice q' m c2') m (vs.flatMap aE)∧Ext w' w'')
  (HP:xC 74 #[aH aA aB p n d,g] w fun w' e w''=> ∃p' cap',e= .returned (.tuple #[aH aA aB p' n cap',c])∧w''.ownsRow w' TI 1 (.slice p' n cap') n (ivs ys)∧Ext w' w''):
  U 38 #[.agg #[aA,aB,.slice p n d,a,b,aD,aF,aC,aG,.slice q m c2],.agg #[(),g,r]] w fun e w'=> ∃p' cap' q' c2',e= .returned (.tuple #[.agg #[aA,aB,.slice p' n cap',a,b,aD,aF,aC,aG,.slice q' m c2'],(-1:Int),.bool false])∧w'.ownsRow w TI 1 (.slice p' n cap') n (ivs xs)∧w'.ownsRow w TV 4 (.slice q' m c2') m (vs.flatMap aE)∧Ext w w':=by
 go_enter func38,ntmps38;go_wp2_with fail;refine Z (s _ ((((Mem.start w).c0 aK #[aA,aB,.slice p n d,a,b,aD,aF,aC,aG,.slice q m c2]).c1 THD #[(),g,r]).c2 aK zT).ext) fun w1 z=>?_
 have M1:=(((((Mem.start w).c0 aK #[aA,aB,.slice p n d,a,b,aD,aF,aC,aG,.slice q m c2]).c1 THD #[(),g,r]).c2 aK zT).adv z)
 clear z s;have f:=(M1.bk 2).ten;go_wp2_with fail;clear f;refine(HL _ M1.ext).mono ?_;rintro e w2 ⟨p1,t,q1,x,rfl,ho,hq,hx⟩;have M2:=(M1.own2 hx ho hq (aT5 _) (by decide))
 clear M1 hx ho hq;have k:=M2.hi 3;have l:=M2.hi 4;have f:=(M2.bk 4).ten;have aa:=(M2.bk 3).tri;go_wp2_with fail;clear f aa;refine(HP _ (M2.c0 aK #[aA,aB,.slice p1 n t,a,b,aD,aF,aC,aG,.slice q1 m x]).ext).mono ?_;rintro e w3 ⟨p5,u,rfl,ho,hx⟩;have M3:=((M2.c0 aK #[aA,aB,.slice p1 n t,a,b,aD,aF,aC,aG,.slice q1 m x]).call hx ho)
 clear M2 k l hx ho HP;have o:=M3.hi 6;have ab:decide (0≤c)=false:=by simp;omega
 have f:=(M3.bk 6).ten;go_wp2_with fail;clear f;refine(HL _ (M3.c0 TH3 #[aA,aB,.slice p5 n u]).ext).mono ?_;rintro e w9 ⟨p9,h,q9,j,rfl,ho,hq,hx⟩;have M4:=((M3.c0 TH3 #[aA,aB,.slice p5 n u]).own2 hx ho hq (aT5 _) (by decide))
 clear M3 o hx ho hq HL;have f_:=(M4.bk 7).tenf;go_wp2;clear f_;have M5:=(M4.put10 (i:=7) rfl (I aA) (I aB) (.slice p9 n h) (I a) (I b) (I aD) (I aF) (I aC) (I aG) (.slice q9 m j))
 generalize y:World.setCell _ _ _=wz;rw[y]at M5;clear y M4;have y_:=(M5.bk 7).ten;exact bodyPost_ret (v:= .tuple #[.agg #[aA,aB,.slice p9 n h,a,b,aD,aF,aC,aG,.slice q9 m j],(-1:Int),.bool false]) (by simp[results,results38,go_sem, *]) rfl ⟨p9,h,q9,j,rfl,(M5.ow 0),(M5.ow 1),M5.ext⟩
theorem xH (aA aB a b aD aF aC aG d ix j u:Int)(p:OA)(n f:Nat)(q:OA)(m c2:Nat)(xs ys:List Int)(vs:List aR)(w:World)(mb:Bool)(af:mb=true→d<0)
  (x:xB 9 #[.agg #[aA,aB,.slice p n f,a,b,aD,aF,aC,aG,.slice q m c2]] w true)
  (HL:xC 21 #[.agg #[aA,aB,.slice p n f,a,b,aD,aF,aC,aG,.slice q m c2]] w fun w' e w''=> ∃p' cap' q' c2',e= .returned (.agg #[aA,aB,.slice p' n cap',a,b,aD,aF,aC,aG,.slice q' m c2'])∧w''.ownsRow w' TI 1 (.slice p' n cap') n (ivs xs)∧w''.ownsRow w' TV 4 (.slice q' m c2') m (vs.flatMap aE)∧Ext w' w'')
  (HP:xC 77 #[aH aA aB p n f,j] w fun w' e w''=> ∃p' cap',e= .returned (.tuple #[aH aA aB p' n cap',d])∧w''.ownsRow w' TI 1 (.slice p' n cap') n (ivs ys)∧Ext w' w'')
  (HF:xC 78 #[.agg #[aA,aB,.slice p n f,a,b,aD,aF,aC,aG,.slice q m c2],j] w fun w' e w''=>e= .returned (I (ix))∧Ext w' w'')
  (HM:xB 79 #[.agg #[aA,aB,.slice p n f,a,b,aD,aF,aC,aG,.slice q m c2],j] w mb):
  U 38 #[.agg #[aA,aB,.slice p n f,a,b,aD,aF,aC,aG,.slice q m c2],.agg #[I 2,j,u]] w fun e w'=> ∃p' cap' q' c2',e= .returned (.tuple #[.agg #[aA,aB,.slice p' n cap',a,b,aD,aF,aC,aG,.slice q' m c2'],(-1:Int),.bool false])∧w'.ownsRow w TI 1 (.slice p' n cap') n (ivs xs)∧w'.ownsRow w TV 4 (.slice q' m c2') m (vs.flatMap aE)∧Ext w w':=by
 go_enter func38,ntmps38;go_wp2_with fail;refine Z (x _ ((((Mem.start w).c0 aK #[aA,aB,.slice p n f,a,b,aD,aF,aC,aG,.slice q m c2]).c1 THD #[I 2,j,u]).c2 aK zT).ext) fun w1 ab=>?_
 have M1:=(((((Mem.start w).c0 aK #[aA,aB,.slice p n f,a,b,aD,aF,aC,aG,.slice q m c2]).c1 THD #[I 2,j,u]).c2 aK zT).adv ab)
 clear ab x;have c:=(M1.bk 2).ten;go_wp2_with fail;clear c;refine(HL _ M1.ext).mono ?_;rintro e w2 ⟨p1,y,q1,aa,rfl,ho,hq,hx⟩;have M2:=(M1.own2 hx ho hq (aT5 _) (by decide))
 clear M1 hx ho hq;have o:=M2.hi 3;have r:=M2.hi 4;have c:=(M2.bk 4).ten;have k:=(M2.bk 3).tri;go_wp2_with fail;clear c k;refine(HP _ (M2.c0 aK #[aA,aB,.slice p1 n y,a,b,aD,aF,aC,aG,.slice q1 m aa]).ext).mono ?_;rintro e w3 ⟨p5,z,rfl,ho,hx⟩;have M3:=((M2.c0 aK #[aA,aB,.slice p1 n y,a,b,aD,aF,aC,aG,.slice q1 m aa]).call hx ho)
 clear M2 o r hx ho HP;have s:=M3.hi 5;have t:=M3.hi 6;have c:=(M3.bk 6).ten;have k:=(M3.bk 5).tri;go_wp2_with fail;clear c k;refine Z (HF _ (M3.c0 TH3 #[aA,aB,.slice p5 n z]).ext) fun w4 ad=>?_
 have M4:=((M3.c0 TH3 #[aA,aB,.slice p5 n z]).adv ad)
 clear M3 s t ad HF;have c:=(M4.bk 7).ten;have k:=(M4.bk 6).tri;go_wp2_with fail;clear c k;refine Z (HM _ M4.ext) fun w5 ae=>?_
 have M5:=(M4.adv ae)
 clear M4 ae HM;cases mb with
 |true=>
   have ag:decide (0≤d)=false:=by simp;have:=af rfl;omega
   have c:=(M5.bk 7).ten;go_wp2_with fail;clear c;refine(HL _ M5.ext).mono ?_;rintro e w9 ⟨p9,g,q9,h,rfl,ho,hq,hx⟩;have M6:=(M5.own2 hx ho hq (aT5 _) (by decide))
   clear M5 hx ho hq HL;have f_:=(M6.bk 7).tenf;go_wp2;clear f_;have M7:=(M6.put10 (i:=7) rfl (I aA) (I aB) (.slice p9 n g) (I a) (I b) (I aD) (I aF) (I aC) (I aG) (.slice q9 m h))
   generalize l:World.setCell _ _ _=wz;rw[l]at M7;clear l M6;have y_:=(M7.bk 7).ten;exact bodyPost_ret (v:= .tuple #[.agg #[aA,aB,.slice p9 n g,a,b,aD,aF,aC,aG,.slice q9 m h],(-1:Int),.bool false]) (by simp[results,results38,go_sem, *]) rfl ⟨p9,g,q9,h,rfl,(M7.ow 0),(M7.ow 1),M7.ext⟩
 |false=>
   have c:=(M5.bk 7).ten;go_wp2_with fail;clear c;refine(HL _ M5.ext).mono ?_;rintro e w9 ⟨p9,g,q9,h,rfl,ho,hq,hx⟩;have M6:=(M5.own2 hx ho hq (aT5 _) (by decide))
   clear M5 hx ho hq HL;have f_:=(M6.bk 7).tenf;go_wp2;clear f_;have M7:=(M6.put10 (i:=7) rfl (I aA) (I aB) (.slice p9 n g) (I a) (I b) (I aD) (I aF) (I aC) (I aG) (.slice q9 m h))
   generalize l:World.setCell _ _ _=wz;rw[l]at M7;clear l M6;have y_:=(M7.bk 7).ten;exact bodyPost_ret (v:= .tuple #[.agg #[aA,aB,.slice p9 n g,a,b,aD,aF,aC,aG,.slice q9 m h],(-1:Int),.bool false]) (by simp[results,results38,go_sem, *]) rfl ⟨p9,g,q9,h,rfl,(M7.ow 0),(M7.ow 1),M7.ext⟩
end Go.Proofs.YthfmmibomhhmpaaGreatDoor
