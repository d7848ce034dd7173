/-
  Texts of this proof, packed (@packed).
-/
import Derived.Test.YtbgkcehffiogcabGreatDoorX18
namespace Go.Proofs.YtbgkcehffiogcabGreatDoor
open Go.RowKit Go.Proofs.Tryz
set_option linter.unusedSimpArgs false
set_option linter.unusedVariables false
set_option maxHeartbeats 8000000
set_option maxRecDepth 100000
theorem wH (aA aB a b aE aF aC aG h j:Int)(p:OA)(n c:Nat)(q:OA)(m c2:Nat)(xs ys:List Int)(vs:List aU)(w:World)
  (ae:xB 15 #[.agg #[aA,aB,.slice p n c,a,b,aE,aF,aC,aG,.slice q m c2]] w true)
  (HL:xC 59 #[.agg #[aA,aB,.slice p n c,a,b,aE,aF,aC,aG,.slice q m c2]] w fun w' e w''=> ∃p' cap' q' c2',e= .returned (.agg #[aA,aB,.slice p' n cap',a,b,aE,aF,aC,aG,.slice q' m c2'])∧w''.ownsRow w' TI 1 (.slice p' n cap') n (ivs xs)∧w''.ownsRow w' TV 4 (.slice q' m c2') m (vs.flatMap aD)∧Ext w' w'')
  (HP:xC 107 #[aH aA aB p n c,eR h j] w fun w' e w''=> ∃p' cap',e= .returned (.tuple #[aH aA aB p' n cap',.bool true])∧w''.ownsRow w' TI 1 (.slice p' n cap') n (ivs ys)∧Ext w' w''):
  U 60 #[.agg #[aA,aB,.slice p n c,a,b,aE,aF,aC,aG,.slice q m c2],.agg #[I 4,h,j]] w fun e w'=> ∃p' cap' q' c2',e= .returned (.tuple #[.agg #[aA,aB,.slice p' n cap',a,b,aE,aF,aC,aG,.slice q' m c2'],(),.bool true])∧w'.ownsRow w TI 1 (.slice p' n cap') n (ivs ys)∧w'.ownsRow w TV 4 (.slice q' m c2') m (vs.flatMap aD)∧Ext w w':=by
 go_enter func60,ntmps60;go_wp2_with fail;refine Ω (ae _ ((((Mem.start w).c0 aN #[aA,aB,.slice p n c,a,b,aE,aF,aC,aG,.slice q m c2]).c1 THD #[I 4,h,j]).c2 aN zT).ext) fun w1 ag=>?_
 have M1:=(((((Mem.start w).c0 aN #[aA,aB,.slice p n c,a,b,aE,aF,aC,aG,.slice q m c2]).c1 THD #[I 4,h,j]).c2 aN zT).adv ag)
 clear ag ae;obtain⟨k,l,o,r,s,t,u,x,y,z⟩:=(M1.bk 2).ten;go_wp2_with fail;clear k l o r s t u x y z;refine(HL _ M1.ext).mono ?_;rintro e w2 ⟨p1,af,q1,f,rfl,ho,hq,hx⟩;have M2:=(M1.own2 hx ho hq (aT2 _) (by decide))
 clear M1 hx ho hq;have aa:=M2.hi 3;have ab:=M2.hi 4;obtain⟨k,l,o,r,s,t,u,x,y,z⟩:=(M2.bk 4).ten;obtain⟨ah,ai,aj⟩:=(M2.bk 3).tri;go_wp2_with fail;clear k l o r s t u x y z ah ai aj;refine(HP _ (M2.c0 aN #[aA,aB,.slice p1 n af,a,b,aE,aF,aC,aG,.slice q1 m f]).ext).mono ?_;rintro e w3 ⟨p5,d,rfl,ho,hx⟩;have M3:=((M2.c0 aN #[aA,aB,.slice p1 n af,a,b,aE,aF,aC,aG,.slice q1 m f]).call hx ho)
 clear M2 aa ab hx ho HP HL;have ad:=M3.hi 1;obtain⟨d0,ak,d1,al,d2,am,d3,an,d4,ao,d5,ap,d6,aq,d7,ar,d8,au,d9,av⟩:=(M3.bk 1).tenf;have M4:=(((M3.st 1 0 (I aA)).st 1 1 (I aB)).st 1 2 (.slice p5 n d))
 go_upto_region 32 with fail;clear d0 ak d1 al d2 am d3 an d4 ao d5 ap d6 aq d7 ar d8 au d9 av ad;have M5:=(M4)
 generalize g:World.setCell _ _ _=w4;rw[g]at M5;clear g M3 M4;have M6:=(M5.adv ((Ext.refl _).alloc (.cells #[aA,aB,.slice p5 n d] TH3)))
 generalize (w4.alloc (.cells #[aA,aB,.slice p5 n d] TH3))=w5 at M6⊢;clear M5;obtain⟨e0,e1,e2,e3,e4,e5,e6,e7,e8,e9⟩:=(M6.bk 1).ten;obtain⟨f0,aw,f1,ax,f2,ay,f3,az,f4,a0,f5,a1,f6,a2,f7,a3,f8,a4,f9,a5⟩:=(M6.bk 4).tenf;go_wp2;clear e0 e1 e2 e3 e4 e5 e6 e7 e8 e9 f0 aw f1 ax f2 ay f3 az f4 a0 f5 a1 f6 a2 f7 a3 f8 a4 f9 a5;have M7:=(M6.put10 (i:=4) rfl (I aA) (I aB) (.slice p5 n d) (I a) (I b) (I aE) (I aF) (I aC) (I aG) (.slice q1 m f))
 generalize g:World.setCell _ _ _=wz;rw[g]at M7;clear g M6;obtain⟨y0,y1,y2,y3,y4,y5,y6,y7,y8,y9⟩:=(M7.bk 4).ten;exact bodyPost_ret (v:= .tuple #[.agg #[aA,aB,.slice p5 n d,a,b,aE,aF,aC,aG,.slice q1 m f],(),.bool true]) (by simp[results,results60,go_sem, *]) rfl ⟨p5,d,q1,f,rfl,(M7.ow 0),(M7.ow 3),M7.ext⟩
theorem yJ (aA aB a b aE aF aC aG t u:Int)(p:OA)(n c:Nat)(q:OA)(m c2:Nat)(xs ys:List Int)(vs:List aU)(w:World)
  (ad:xB 15 #[.agg #[aA,aB,.slice p n c,a,b,aE,aF,aC,aG,.slice q m c2]] w true)
  (HL:xC 59 #[.agg #[aA,aB,.slice p n c,a,b,aE,aF,aC,aG,.slice q m c2]] w fun w' e w''=> ∃p' cap' q' c2',e= .returned (.agg #[aA,aB,.slice p' n cap',a,b,aE,aF,aC,aG,.slice q' m c2'])∧w''.ownsRow w' TI 1 (.slice p' n cap') n (ivs xs)∧w''.ownsRow w' TV 4 (.slice q' m c2') m (vs.flatMap aD)∧Ext w' w'')
  (HP:xC 107 #[aH aA aB p n c,eR t u] w fun w' e w''=> ∃p' cap',e= .returned (.tuple #[aH aA aB p' n cap',.bool false])∧w''.ownsRow w' TI 1 (.slice p' n cap') n (ivs ys)∧Ext w' w''):
  U 60 #[.agg #[aA,aB,.slice p n c,a,b,aE,aF,aC,aG,.slice q m c2],.agg #[I 4,t,u]] w fun e w'=> ∃p' cap' q' c2',e= .returned (.tuple #[.agg #[aA,aB,.slice p' n cap',a,b,aE,aF,aC,aG,.slice q' m c2'],(-1:Int),.bool false])∧w'.ownsRow w TI 1 (.slice p' n cap') n (ivs xs)∧w'.ownsRow w TV 4 (.slice q' m c2') m (vs.flatMap aD)∧Ext w w':=by
 go_enter func60,ntmps60;go_wp2_with fail;refine Ω (ad _ ((((Mem.start w).c0 aN #[aA,aB,.slice p n c,a,b,aE,aF,aC,aG,.slice q m c2]).c1 THD #[I 4,t,u]).c2 aN zT).ext) fun w1 ai=>?_
 have M1:=(((((Mem.start w).c0 aN #[aA,aB,.slice p n c,a,b,aE,aF,aC,aG,.slice q m c2]).c1 THD #[I 4,t,u]).c2 aN zT).adv ai)
 clear ai ad;obtain⟨d,f,g,h,j,k,l,o,r,s⟩:=(M1.bk 2).ten;go_wp2_with fail;clear d f g h j k l o r s;refine(HL _ M1.ext).mono ?_;rintro e w2 ⟨p1,ae,q1,ag,rfl,ho,hq,hx⟩;have M2:=(M1.own2 hx ho hq (aT2 _) (by decide))
 clear M1 hx ho hq;have z:=M2.hi 3;have aa:=M2.hi 4;obtain⟨d,f,g,h,j,k,l,o,r,s⟩:=(M2.bk 4).ten;obtain⟨aj,ak,al⟩:=(M2.bk 3).tri;go_wp2_with fail;clear d f g h j k l o r s aj ak al;refine(HP _ (M2.c0 aN #[aA,aB,.slice p1 n ae,a,b,aE,aF,aC,aG,.slice q1 m ag]).ext).mono ?_;rintro e w3 ⟨p5,af,rfl,ho,hx⟩;have M3:=((M2.c0 aN #[aA,aB,.slice p1 n ae,a,b,aE,aF,aC,aG,.slice q1 m ag]).call hx ho)
 clear M2 z aa hx ho HP;have ab:=M3.hi 6;obtain⟨d,f,g,h,j,k,l,o,r,s⟩:=(M3.bk 6).ten;go_wp2_with fail;clear d f g h j k l o r s;refine(HL _ (M3.c0 TH3 #[aA,aB,.slice p5 n af]).ext).mono ?_;rintro e w9 ⟨p9,x,q9,y,rfl,ho,hq,hx⟩;have M4:=((M3.c0 TH3 #[aA,aB,.slice p5 n af]).own2 hx ho hq (aT2 _) (by decide))
 clear M3 ab hx ho hq HL;obtain⟨f0,am,f1,an,f2,ao,f3,ap,f4,aq,f5,ar,f6,au,f7,av,f8,aw,f9,ax⟩:=(M4.bk 7).tenf;go_wp2;clear f0 am f1 an f2 ao f3 ap f4 aq f5 ar f6 au f7 av f8 aw f9 ax;have M5:=(M4.put10 (i:=7) rfl (I aA) (I aB) (.slice p9 n x) (I a) (I b) (I aE) (I aF) (I aC) (I aG) (.slice q9 m y))
 generalize ah:World.setCell _ _ _=wz;rw[ah]at M5;clear ah M4;obtain⟨y0,y1,y2,y3,y4,y5,y6,y7,y8,y9⟩:=(M5.bk 7).ten;exact bodyPost_ret (v:= .tuple #[.agg #[aA,aB,.slice p9 n x,a,b,aE,aF,aC,aG,.slice q9 m y],(-1:Int),.bool false]) (by simp[results,results60,go_sem, *]) rfl ⟨p9,x,q9,y,rfl,(M5.ow 0),(M5.ow 1),M5.ext⟩
theorem wG (aA aB a b aE aF aC aG c l aj:Int)(p:OA)(n g:Nat)(q:OA)(m c2:Nat)(xs ys:List Int)(vs ap:List aU)(w:World)(h0:0≤c)
  (ak:xB 15 #[.agg #[aA,aB,.slice p n g,a,b,aE,aF,aC,aG,.slice q m c2]] w true)
  (HL:xC 59 #[.agg #[aA,aB,.slice p n g,a,b,aE,aF,aC,aG,.slice q m c2]] w fun w' e w''=> ∃p' cap' q' c2',e= .returned (.agg #[aA,aB,.slice p' n cap',a,b,aE,aF,aC,aG,.slice q' m c2'])∧w''.ownsRow w' TI 1 (.slice p' n cap') n (ivs xs)∧w''.ownsRow w' TV 4 (.slice q' m c2') m (vs.flatMap aD)∧Ext w' w'')
  (HP:xC 101 #[aH aA aB p n g,l] w fun w' e w''=> ∃p' cap',e= .returned (.tuple #[aH aA aB p' n cap',c])∧w''.ownsRow w' TI 1 (.slice p' n cap') n (ivs ys)∧Ext w' w'')
  (HQ:xC 102 #[.slice q m c2,.agg #[l,aC,(),aC]] w fun w' e w''=> ∃q' c',e= .returned (.slice q' (m+1) c')∧w''.ownsRow w' TV 4 (.slice q' (m+1) c') (m+1) (ap.flatMap aD)∧Ext w' w''):
  U 60 #[.agg #[aA,aB,.slice p n g,a,b,aE,aF,aC,aG,.slice q m c2],.agg #[(),l,aj]] w fun e w'=> ∃p' cap' q' c2',e= .returned (.tuple #[.agg #[aA,aB,.slice p' n cap',a,b,aE,aF,aC,aG,.slice q' (m+1) c2'],c,.bool true])∧w'.ownsRow w TI 1 (.slice p' n cap') n (ivs ys)∧w'.ownsRow w TV 4 (.slice q' (m+1) c2') (m+1) (ap.flatMap aD)∧Ext w w':=by
 go_enter func60,ntmps60;go_wp2_with fail;refine Ω (ak _ ((((Mem.start w).c0 aN #[aA,aB,.slice p n g,a,b,aE,aF,aC,aG,.slice q m c2]).c1 THD #[(),l,aj]).c2 aN zT).ext) fun w1 ao=>?_
 have M1:=(((((Mem.start w).c0 aN #[aA,aB,.slice p n g,a,b,aE,aF,aC,aG,.slice q m c2]).c1 THD #[(),l,aj]).c2 aN zT).adv ao)
 clear ao ak;obtain⟨s,t,u,x,y,z,aa,j,ab,k⟩:=(M1.bk 2).ten;go_wp2_with fail;clear s t u x y z aa j ab k;refine(HL _ M1.ext).mono ?_;rintro e w2 ⟨p1,al,q1,am,rfl,ho,hq,hx⟩;have M2:=(M1.own2 hx ho hq (aT2 _) (by decide))
 clear M1 hx ho hq;have ae:=M2.hi 3;have af:=M2.hi 4;obtain⟨s,t,u,x,y,z,aa,j,ab,k⟩:=(M2.bk 4).ten;obtain⟨aq,ad,ar⟩:=(M2.bk 3).tri;go_wp2_with fail;clear s t u x y z aa j ab k aq ad ar;refine(HP _ (M2.c0 aN #[aA,aB,.slice p1 n al,a,b,aE,aF,aC,aG,.slice q1 m am]).ext).mono ?_;rintro e w3 ⟨p5,h,rfl,ho,hx⟩;have M3:=((M2.c0 aN #[aA,aB,.slice p1 n al,a,b,aE,aF,aC,aG,.slice q1 m am]).call hx ho)
 clear M2 ae af hx ho HP HL;have ag:=M3.hi 1;have ah:=M3.hi 5;have ai:=M3.hi 6;have d0:=(M3.bk 1).cl 0;have au:=(M3.bk 1).frozen 0;have d1:=(M3.bk 1).cl 1;have av:=(M3.bk 1).frozen 1;have d2:=(M3.bk 1).cl 2;have aw:=(M3.bk 1).frozen 2;have j:=(M3.bk 6).cl 7;have k:=(M3.bk 6).cl 9;have ad:=(M3.bk 5).cl 1;obtain⟨d,f⟩:=M3.nq 5 6;obtain⟨o,r⟩:=M3.nq 1 5;have hd:decide (c<0)=false:=by simp;omega
 have M4:=(((M3.st 1 0 (I aA)).st 1 1 (I aB)).st 1 2 (.slice p5 n h))
 go_wp2_with fail;clear d0 au d1 av d2 aw j k ad d f o r;refine(HQ _ (M4.adv ((Ext.refl _).alloc (.cells #[aA,aB,.slice p5 n h] TH3))).ext).mono ?_;rintro e w4 ⟨q7,c7,rfl,ho,hx⟩;have M5:=((M4.adv ((Ext.refl _).alloc (.cells #[aA,aB,.slice p5 n h] TH3))).call hx ho)
 clear M3 ag ah ai hx ho HQ;obtain⟨e0,ax,e1,ay,e2,az,e3,a0,e4,a1,e5,a2,e6,a3,e7,a4,e8,a5,e9,a6⟩:=(M5.bk 2).tenf;obtain⟨f0,a7,f1,a8,f2,a9,f3,ba,f4,bb,f5,bc,f6,bd,f7,be,f8,bf,f9,bg⟩:=(M5.bk 5).tenf;obtain⟨d,f⟩:=M5.nq 2 5;have M6:=(M5.st 2 9 (.slice q7 (m+1) c7))
 go_wp2;clear e0 ax e1 ay e2 az e3 a0 e4 a1 e5 a2 e6 a3 e7 a4 e8 a5 e9 a6 f0 a7 f1 a8 f2 a9 f3 ba f4 bb f5 bc f6 bd f7 be f8 bf f9 bg d f;have M7:=(M6.put10 (i:=5) rfl (I aA) (I aB) (.slice p5 n h) (I a) (I b) (I aE) (I aF) (I aC) (I aG) (.slice q7 (m+1) c7))
 generalize an:World.setCell _ _ _=wz;rw[an]at M7;clear an M5 M4 M6;obtain⟨y0,y1,y2,y3,y4,y5,y6,y7,y8,y9⟩:=(M7.bk 5).ten;exact bodyPost_ret (v:= .tuple #[.agg #[aA,aB,.slice p5 n h,a,b,aE,aF,aC,aG,.slice q7 (m+1) c7],c,.bool true]) (by simp[results,results60,go_sem, *]) rfl ⟨p5,h,q7,c7,rfl,(M7.ow 1),(M7.ow 0),M7.ext⟩
theorem yI (aA aB a b aE aF aC aG c u ad:Int)(p:OA)(n d:Nat)(q:OA)(m c2:Nat)(xs ys:List Int)(vs:List aU)(w:World)(h0:c<0)
  (ae:xB 15 #[.agg #[aA,aB,.slice p n d,a,b,aE,aF,aC,aG,.slice q m c2]] w true)
  (HL:xC 59 #[.agg #[aA,aB,.slice p n d,a,b,aE,aF,aC,aG,.slice q m c2]] w fun w' e w''=> ∃p' cap' q' c2',e= .returned (.agg #[aA,aB,.slice p' n cap',a,b,aE,aF,aC,aG,.slice q' m c2'])∧w''.ownsRow w' TI 1 (.slice p' n cap') n (ivs xs)∧w''.ownsRow w' TV 4 (.slice q' m c2') m (vs.flatMap aD)∧Ext w' w'')
  (HP:xC 101 #[aH aA aB p n d,u] w fun w' e w''=> ∃p' cap',e= .returned (.tuple #[aH aA aB p' n cap',c])∧w''.ownsRow w' TI 1 (.slice p' n cap') n (ivs ys)∧Ext w' w''):
  U 60 #[.agg #[aA,aB,.slice p n d,a,b,aE,aF,aC,aG,.slice q m c2],.agg #[(),u,ad]] w fun e w'=> ∃p' cap' q' c2',e= .returned (.tuple #[.agg #[aA,aB,.slice p' n cap',a,b,aE,aF,aC,aG,.slice q' m c2'],(-1:Int),.bool false])∧w'.ownsRow w TI 1 (.slice p' n cap') n (ivs xs)∧w'.ownsRow w TV 4 (.slice q' m c2') m (vs.flatMap aD)∧Ext w w':=by
 go_enter func60,ntmps60;go_wp2_with fail;refine Ω (ae _ ((((Mem.start w).c0 aN #[aA,aB,.slice p n d,a,b,aE,aF,aC,aG,.slice q m c2]).c1 THD #[(),u,ad]).c2 aN zT).ext) fun w1 aj=>?_
 have M1:=(((((Mem.start w).c0 aN #[aA,aB,.slice p n d,a,b,aE,aF,aC,aG,.slice q m c2]).c1 THD #[(),u,ad]).c2 aN zT).adv aj)
 clear aj ae;obtain⟨f,g,h,j,k,l,o,r,s,t⟩:=(M1.bk 2).ten;go_wp2_with fail;clear f g h j k l o r s t;refine(HL _ M1.ext).mono ?_;rintro e w2 ⟨p1,af,q1,ah,rfl,ho,hq,hx⟩;have M2:=(M1.own2 hx ho hq (aT2 _) (by decide))
 clear M1 hx ho hq;have z:=M2.hi 3;have aa:=M2.hi 4;obtain⟨f,g,h,j,k,l,o,r,s,t⟩:=(M2.bk 4).ten;obtain⟨ak,al,am⟩:=(M2.bk 3).tri;go_wp2_with fail;clear f g h j k l o r s t ak al am;refine(HP _ (M2.c0 aN #[aA,aB,.slice p1 n af,a,b,aE,aF,aC,aG,.slice q1 m ah]).ext).mono ?_;rintro e w3 ⟨p5,ag,rfl,ho,hx⟩;have M3:=((M2.c0 aN #[aA,aB,.slice p1 n af,a,b,aE,aF,aC,aG,.slice q1 m ah]).call hx ho)
 clear M2 z aa hx ho HP;have ab:=M3.hi 6;have az:decide (0≤c)=false:=by simp;omega
 obtain⟨f,g,h,j,k,l,o,r,s,t⟩:=(M3.bk 6).ten;go_wp2_with fail;clear f g h j k l o r s t;refine(HL _ (M3.c0 TH3 #[aA,aB,.slice p5 n ag]).ext).mono ?_;rintro e w9 ⟨p9,x,q9,y,rfl,ho,hq,hx⟩;have M4:=((M3.c0 TH3 #[aA,aB,.slice p5 n ag]).own2 hx ho hq (aT2 _) (by decide))
 clear M3 ab hx ho hq HL;obtain⟨f0,an,f1,ao,f2,ap,f3,aq,f4,ar,f5,au,f6,av,f7,aw,f8,ax,f9,ay⟩:=(M4.bk 7).tenf;go_wp2;clear f0 an f1 ao f2 ap f3 aq f4 ar f5 au f6 av f7 aw f8 ax f9 ay;have M5:=(M4.put10 (i:=7) rfl (I aA) (I aB) (.slice p9 n x) (I a) (I b) (I aE) (I aF) (I aC) (I aG) (.slice q9 m y))
 generalize ai:World.setCell _ _ _=wz;rw[ai]at M5;clear ai M4;obtain⟨y0,y1,y2,y3,y4,y5,y6,y7,y8,y9⟩:=(M5.bk 7).ten;exact bodyPost_ret (v:= .tuple #[.agg #[aA,aB,.slice p9 n x,a,b,aE,aF,aC,aG,.slice q9 m y],(-1:Int),.bool false]) (by simp[results,results60,go_sem, *]) rfl ⟨p9,x,q9,y,rfl,(M5.ow 0),(M5.ow 1),M5.ext⟩
theorem yK (aA aB a b aE aF aC aG s ix y au:Int)(p:OA)(n t:Nat)(q:OA)(m c2:Nat)(xs ys:List Int)(vs:List aU)(w:World)(mb:Bool)(a2:mb=true→s<0)
  (av:xB 15 #[.agg #[aA,aB,.slice p n t,a,b,aE,aF,aC,aG,.slice q m c2]] w true)
  (HL:xC 59 #[.agg #[aA,aB,.slice p n t,a,b,aE,aF,aC,aG,.slice q m c2]] w fun w' e w''=> ∃p' cap' q' c2',e= .returned (.agg #[aA,aB,.slice p' n cap',a,b,aE,aF,aC,aG,.slice q' m c2'])∧w''.ownsRow w' TI 1 (.slice p' n cap') n (ivs xs)∧w''.ownsRow w' TV 4 (.slice q' m c2') m (vs.flatMap aD)∧Ext w' w'')
  (HP:xC 104 #[aH aA aB p n t,y] w fun w' e w''=> ∃p' cap',e= .returned (.tuple #[aH aA aB p' n cap',s])∧w''.ownsRow w' TI 1 (.slice p' n cap') n (ivs ys)∧Ext w' w'')
  (HF:xC 105 #[.agg #[aA,aB,.slice p n t,a,b,aE,aF,aC,aG,.slice q m c2],y] w fun w' e w''=>e= .returned (I (ix))∧Ext w' w'')
  (HM:xB 106 #[.agg #[aA,aB,.slice p n t,a,b,aE,aF,aC,aG,.slice q m c2],y] w mb):
  U 60 #[.agg #[aA,aB,.slice p n t,a,b,aE,aF,aC,aG,.slice q m c2],.agg #[I 2,y,au]] w fun e w'=> ∃p' cap' q' c2',e= .returned (.tuple #[.agg #[aA,aB,.slice p' n cap',a,b,aE,aF,aC,aG,.slice q' m c2'],(-1:Int),.bool false])∧w'.ownsRow w TI 1 (.slice p' n cap') n (ivs xs)∧w'.ownsRow w TV 4 (.slice q' m c2') m (vs.flatMap aD)∧Ext w w':=by
 go_enter func60,ntmps60;go_wp2_with fail;refine Ω (av _ ((((Mem.start w).c0 aN #[aA,aB,.slice p n t,a,b,aE,aF,aC,aG,.slice q m c2]).c1 THD #[I 2,y,au]).c2 aN zT).ext) fun w1 az=>?_
 have M1:=(((((Mem.start w).c0 aN #[aA,aB,.slice p n t,a,b,aE,aF,aC,aG,.slice q m c2]).c1 THD #[I 2,y,au]).c2 aN zT).adv az)
 clear az av;obtain⟨c,d,f,g,h,j,k,l,o,r⟩:=(M1.bk 2).ten;go_wp2_with fail;clear c d f g h j k l o r;refine(HL _ M1.ext).mono ?_;rintro e w2 ⟨p1,aw,q1,ay,rfl,ho,hq,hx⟩;have M2:=(M1.own2 hx ho hq (aT2 _) (by decide))
 clear M1 hx ho hq;have ao:=M2.hi 3;have ap:=M2.hi 4;obtain⟨c,d,f,g,h,j,k,l,o,r⟩:=(M2.bk 4).ten;obtain⟨z,aa,ab⟩:=(M2.bk 3).tri;go_wp2_with fail;clear c d f g h j k l o r z aa ab;refine(HP _ (M2.c0 aN #[aA,aB,.slice p1 n aw,a,b,aE,aF,aC,aG,.slice q1 m ay]).ext).mono ?_;rintro e w3 ⟨p5,ax,rfl,ho,hx⟩;have M3:=((M2.c0 aN #[aA,aB,.slice p1 n aw,a,b,aE,aF,aC,aG,.slice q1 m ay]).call hx ho)
 clear M2 ao ap hx ho HP;have aq:=M3.hi 5;have ar:=M3.hi 6;obtain⟨c,d,f,g,h,j,k,l,o,r⟩:=(M3.bk 6).ten;obtain⟨z,aa,ab⟩:=(M3.bk 5).tri;go_wp2_with fail;clear c d f g h j k l o r z aa ab;refine Ω (HF _ (M3.c0 TH3 #[aA,aB,.slice p5 n ax]).ext) fun w4 a0=>?_
 have M4:=((M3.c0 TH3 #[aA,aB,.slice p5 n ax]).adv a0)
 clear M3 aq ar a0 HF;obtain⟨c,d,f,g,h,j,k,l,o,r⟩:=(M4.bk 7).ten;obtain⟨z,aa,ab⟩:=(M4.bk 6).tri;go_wp2_with fail;clear c d f g h j k l o r z aa ab;refine Ω (HM _ M4.ext) fun w5 a1=>?_
 have M5:=(M4.adv a1)
 clear M4 a1 HM;cases mb with
 |true=>
   have a3:decide (0≤s)=false:=by simp;have:=a2 rfl;omega
   obtain⟨c,d,f,g,h,j,k,l,o,r⟩:=(M5.bk 7).ten;go_wp2_with fail;clear c d f g h j k l o r;refine(HL _ M5.ext).mono ?_;rintro e w9 ⟨p9,u,q9,x,rfl,ho,hq,hx⟩;have M6:=(M5.own2 hx ho hq (aT2 _) (by decide))
   clear M5 hx ho hq HL;obtain⟨f0,ae,f1,af,f2,ag,f3,ah,f4,ai,f5,aj,f6,ak,f7,al,f8,am,f9,an⟩:=(M6.bk 7).tenf;go_wp2;clear f0 ae f1 af f2 ag f3 ah f4 ai f5 aj f6 ak f7 al f8 am f9 an;have M7:=(M6.put10 (i:=7) rfl (I aA) (I aB) (.slice p9 n u) (I a) (I b) (I aE) (I aF) (I aC) (I aG) (.slice q9 m x))
   generalize ad:World.setCell _ _ _=wz;rw[ad]at M7;clear ad M6;obtain⟨y0,y1,y2,y3,y4,y5,y6,y7,y8,y9⟩:=(M7.bk 7).ten;exact bodyPost_ret (v:= .tuple #[.agg #[aA,aB,.slice p9 n u,a,b,aE,aF,aC,aG,.slice q9 m x],(-1:Int),.bool false]) (by simp[results,results60,go_sem, *]) rfl ⟨p9,u,q9,x,rfl,(M7.ow 0),(M7.ow 1),M7.ext⟩
 |false=>
   obtain⟨c,d,f,g,h,j,k,l,o,r⟩:=(M5.bk 7).ten;go_wp2_with fail;clear c d f g h j k l o r;refine(HL _ M5.ext).mono ?_;rintro e w9 ⟨p9,u,q9,x,rfl,ho,hq,hx⟩;have M6:=(M5.own2 hx ho hq (aT2 _) (by decide))
   clear M5 hx ho hq HL;obtain⟨f0,ae,f1,af,f2,ag,f3,ah,f4,ai,f5,aj,f6,ak,f7,al,f8,am,f9,an⟩:=(M6.bk 7).tenf;go_wp2;clear f0 ae f1 af f2 ag f3 ah f4 ai f5 aj f6 ak f7 al f8 am f9 an;have M7:=(M6.put10 (i:=7) rfl (I aA) (I aB) (.slice p9 n u) (I a) (I b) (I aE) (I aF) (I aC) (I aG) (.slice q9 m x))
   generalize ad:World.setCell _ _ _=wz;rw[ad]at M7;clear ad M6;obtain⟨y0,y1,y2,y3,y4,y5,y6,y7,y8,y9⟩:=(M7.bk 7).ten;exact bodyPost_ret (v:= .tuple #[.agg #[aA,aB,.slice p9 n u,a,b,aE,aF,aC,aG,.slice q9 m x],(-1:Int),.bool false]) (by simp[results,results60,go_sem, *]) rfl ⟨p9,u,q9,x,rfl,(M7.ow 0),(M7.ow 1),M7.ext⟩
theorem aG5 {w:World}{b c n a k:Nat}{vs:List aU}(h:Sl w (some ⟨b,c,none⟩) n a 4 (vs.flatMap aD))(hk:k≤n):Sl w (some ⟨b,c,none⟩) k a 4 ((vs.take k).flatMap aD):=by
 have hl:=h.len;have f:=h.le;have g:=h.mx;have e:(vs.take k).flatMap aD=(vs.flatMap aD).take (k*4):=by
  have h1:vs.flatMap aD=(vs.take k).flatMap aD++(vs.drop k).flatMap aD:=by rw[←aU3,List.take_append_drop]
  have h2:vs.length=n:=by rw[eA aD 4 (fun _=>rfl)]at hl;omega
  have h3:((vs.take k).flatMap aD).length=k*4:=by rw[eA aD 4 (fun _=>rfl),aTq];omega
  rw[h1,←h3,List.take_left]
 rw[e];refine⟨by rw[aTq,hl];omega,by omega,by omega,fun h0=> ?_⟩;obtain⟨b',d,e,hb,hc⟩:=h.rd (by omega);injection e with e;injection e with e1 e2;subst e1 e2;refine⟨_,_,rfl,hb,fun j hj=> ?_⟩;rw[hc j (by omega),List.getElem?_take,if_pos hj]
theorem wI (aA aB a c aE aF aC aG f j ad:Int)(p:OA)(n g:Nat)(b h m c2 k:Nat)(xs ys:List Int)(vs:List aU)(w:World)(h0:0≤f)(hk:k<m)(hm:m≤1000)(bp:k+1<c2)(HS:Hid (Sl w (some ⟨b,h,none⟩) m c2 4 (vs.flatMap aD)))
  (az:xB 15 #[.agg #[aA,aB,.slice p n g,a,c,aE,aF,aC,aG,.slice (some ⟨b,h,none⟩) m c2]] w true)
  (HL:xC 59 #[.agg #[aA,aB,.slice p n g,a,c,aE,aF,aC,aG,.slice (some ⟨b,h,none⟩) m c2]] w fun w' e w''=> ∃p' cap' q' c2',e= .returned (.agg #[aA,aB,.slice p' n cap',a,c,aE,aF,aC,aG,.slice q' m c2'])∧w''.ownsRow w' TI 1 (.slice p' n cap') n (ivs xs)∧w''.ownsRow w' TV 4 (.slice q' m c2') m (vs.flatMap aD)∧Ext w' w'')
  (HP:xC 104 #[aH aA aB p n g,j] w fun w' e w''=> ∃p' cap',e= .returned (.tuple #[aH aA aB p' n cap',f])∧w''.ownsRow w' TI 1 (.slice p' n cap') n (ivs ys)∧Ext w' w'')
  (HF:xC 105 #[.agg #[aA,aB,.slice p n g,a,c,aE,aF,aC,aG,.slice (some ⟨b,h,none⟩) m c2],j] w fun w' e w''=>e= .returned (I k)∧Ext w' w'')
  (HM:xB 106 #[.agg #[aA,aB,.slice p n g,a,c,aE,aF,aC,aG,.slice (some ⟨b,h,none⟩) m c2],j] w true):
  U 60 #[.agg #[aA,aB,.slice p n g,a,c,aE,aF,aC,aG,.slice (some ⟨b,h,none⟩) m c2],.agg #[I 2,j,ad]] w fun e w'=> ∃p' cap' q' c2',e= .returned (.tuple #[.agg #[aA,aB,.slice p' n cap',a,c,aE,aF,aC,aG,.slice q' (m-1) c2'],f,.bool true])∧w'.ownsRow w TI 1 (.slice p' n cap') n (ivs ys)∧w'.ownsRow w TV 4 (.slice q' (m-1) c2') (m-1) ((vs.take k++vs.drop (k+1)).flatMap aD)∧Ext w w':=by
 go_enter func60,ntmps60;go_wp2_with fail;refine Ω (az _ ((((Mem.start w).c0 aN #[aA,aB,.slice p n g,a,c,aE,aF,aC,aG,.slice (some ⟨b,h,none⟩) m c2]).c1 THD #[I 2,j,ad]).c2 aN zT).ext) fun w1 a2=>?_
 have M1:=(((((Mem.start w).c0 aN #[aA,aB,.slice p n g,a,c,aE,aF,aC,aG,.slice (some ⟨b,h,none⟩) m c2]).c1 THD #[I 2,j,ad]).c2 aN zT).adv a2)
 clear a2 az;obtain⟨q,r,s,t,u,x,y,z,aa,l⟩:=(M1.bk 2).ten;go_wp2_with fail;clear q r s t u x y z aa l;refine(HL _ M1.ext).mono ?_;rintro e w2 ⟨p1,ae,q1,o,rfl,ho,hq,hx⟩;have M2:=(M1.own2 hx ho hq (aT2 _) (by decide))
 clear M1 hx ho hq;have av:=M2.hi 3;have aw:=M2.hi 4;obtain⟨q,r,s,t,u,x,y,z,aa,l⟩:=(M2.bk 4).ten;obtain⟨af,ag,ah⟩:=(M2.bk 3).tri;go_wp2_with fail;clear q r s t u x y z aa l af ag ah;refine(HP _ (M2.c0 aN #[aA,aB,.slice p1 n ae,a,c,aE,aF,aC,aG,.slice q1 m o]).ext).mono ?_;rintro e w3 ⟨p5,d,rfl,ho,hx⟩;have M3:=((M2.c0 aN #[aA,aB,.slice p1 n ae,a,c,aE,aF,aC,aG,.slice q1 m o]).call hx ho)
 clear M2 av aw hx ho HP;have ax:=M3.hi 5;have ay:=M3.hi 6;obtain⟨q,r,s,t,u,x,y,z,aa,l⟩:=(M3.bk 6).ten;obtain⟨af,ag,ah⟩:=(M3.bk 5).tri;go_wp2_with fail;clear q r s t u x y z aa l af ag ah;refine Ω (HF _ (M3.c0 TH3 #[aA,aB,.slice p5 n d]).ext) fun w4 a3=>?_
 have M4:=((M3.c0 TH3 #[aA,aB,.slice p5 n d]).adv a3)
 clear M3 ax ay a3 HF;obtain⟨q,r,s,t,u,x,y,z,aa,l⟩:=(M4.bk 7).ten;obtain⟨af,ag,ah⟩:=(M4.bk 6).tri;go_wp2_with fail;clear q r s t u x y z aa l af ag ah;refine Ω (HM _ M4.ext) fun w5 a4=>?_
 have M5:=(M4.adv a4)
 clear M4 a4 HM;have hd:decide (f<0)=false:=by simp;omega
 clear HL;obtain⟨d0,aj,d1,ak,d2,al,d3,am,d4,an,d5,ao,d6,ap,d7,aq,d8,ar,d9,au⟩:=(M5.bk 2).tenf;obtain⟨bh,bi,bj⟩:=(M5.bk 0).tri;go_upto_region 22 with fail;clear d0 aj d1 ak d2 al d3 am d4 an d5 ao d6 ap d7 aq d8 ar d9 au bh bi bj;have M6:=(((M5.st 2 0 (I aA)).st 2 1 (I aB)).st 2 2 (.slice p5 n d))
 generalize ai:World.setCell _ _ _=w6;rw[ai]at M6;clear ai M5;have ab:=M6.hi 7;have l:=(M6.bk 7).cl 9;obtain⟨d0,aj,d1,ak,d2,al,d3,am,d4,an,d5,ao,d6,ap,d7,aq,d8,ar,d9,au⟩:=(M6.bk 2).tenf;have i1:(0:Int)≤(k:Int):=by omega
 have i3:(k:Int)≤(c2:Int):=by omega
 have i4:(k:Int)+1≤(m:Int):=by omega
 have i5:(0:Int)≤(k:Int)+1:=by omega
 have i6:((k:Int)+1).toNat=k+1:=by omega
 have i7:IntKind.i64.wrap ((k:Int)+1)=(k:Int)+1:=aT5 _ (by omega);have bg: ¬c2=k+1:=by omega
 have bf: ¬c2=0:=by omega
 go_cut [] (fun wx=> ∃(q9:OA) (c9:Nat),Mem w wx [aJ w TV 4 (q9) (m-1) (c9) ((vs.take k++vs.drop (k+1)).flatMap aD),aI w w3 TH3 #[aA,aB,.slice p5 n d],aJ w TI 1 (p5) (n) (d) (ivs ys),aI w w2 aN #[aA,aB,.slice p5 n d,a,c,aE,aF,aC,aG,.slice q9 (m-1) c9],aJ w TI 1 (p1) (n) (ae) (ivs xs),aJ w TV 4 (q1) (m) (o) (vs.flatMap aD),aI w (w.heap.size+1+1) aN #[(),(),((),()),(),(),(),(),(),(),((),())],aI w (w.heap.size+1) THD #[I 2,j,ad],aI w w aN #[aA,aB,.slice p n g,a,c,aE,aF,aC,aG,.slice (some ⟨b,h,none⟩) m c2]])
 case first=>
  go_region_law ((first
   |(refine jD yP (by rfl) _ _ (by rfl) (by first|exact M6.made0 TV 4 w6 (by simp)|exact(M6.made0 TV 4 w6 (by simp)).adv (by exact .drew (.refl _))|exact(M6.adv xE).made0 TV 4 w6 (by simp)) 0 (by rfl) (by rfl) ((vs.take k).flatMap aD) (by rfl) (aG5 (HS.out.ext (M6.ext.trans (by exact .drew (.alloc (.refl _) _)))) (by omega)) (fN _) (by omega) ?_
     intro q7 c7 w7 a0;have M7:=(show Mem w w7 [aJ w TV 4 (q7) (k) (c7) ((vs.take k).flatMap aD),aI w w3 TH3 #[aA,aB,.slice p5 n d],aJ w TI 1 (p5) (n) (d) (ivs ys),aI w w2 aN #[aA,aB,.slice p5 n d,a,c,aE,aF,aC,aG,.slice q1 m o],aJ w TI 1 (p1) (n) (ae) (ivs xs),aJ w TV 4 (q1) (m) (o) (vs.flatMap aD),aI w (w.heap.size+1+1) aN #[(),(),((),()),(),(),(),(),(),(),((),())],aI w (w.heap.size+1) THD #[I 2,j,ad],aI w w aN #[aA,aB,.slice p n g,a,c,aE,aF,aC,aG,.slice (some ⟨b,h,none⟩) m c2]]from by simpa only[aTe,aU2,aUt]using a0)
     clear a0;have bm:=(M7.bk 8).cl 9
     have bo:(w2:Nat)<w7:=(M7.hi 3))
   |(refine jD yP (by rfl) _ _ (by rfl) (M7.adv (by exact .refl _)) 0 (by rfl) (by rfl) ((vs.drop (k+1)).flatMap aD) (by rfl) (mF (k+1) vs▸uQ (HS.out.ext (M7.ext.trans (by exact .refl _))) (by omega)) (fN _) (by omega) ?_
     intro q9 c9 w9 a1;have M9:=(show Mem w w9 [aJ w TV 4 (q9) (k+(m-(k+1))) (c9) ((vs.take k).flatMap aD++(vs.drop (k+1)).flatMap aD),aI w w3 TH3 #[aA,aB,.slice p5 n d],aJ w TI 1 (p5) (n) (d) (ivs ys),aI w w2 aN #[aA,aB,.slice p5 n d,a,c,aE,aF,aC,aG,.slice q1 m o],aJ w TI 1 (p1) (n) (ae) (ivs xs),aJ w TV 4 (q1) (m) (o) (vs.flatMap aD),aI w (w.heap.size+1+1) aN #[(),(),((),()),(),(),(),(),(),(),((),())],aI w (w.heap.size+1) THD #[I 2,j,ad],aI w w aN #[aA,aB,.slice p n g,a,c,aE,aF,aC,aG,.slice (some ⟨b,h,none⟩) m c2]]from a1)
     clear a1;have bq:=(M9.bk 3).cl 9;have bl:=(M9.bk 3).frozen 9
     have br:(w2:Nat)<w9:=(M9.hi 3))))
  all_goals (
   have e1:k+(m-(k+1))=m-1:=by omega
   have e2:(vs.take k).flatMap aD++(vs.drop (k+1)).flatMap aD=(vs.take k++vs.drop (k+1)).flatMap aD:=by simp
   have MZ:=(show Mem w w9 [aJ w TV 4 (q9) (m-1) (c9) ((vs.take k++vs.drop (k+1)).flatMap aD),aI w w3 TH3 #[aA,aB,.slice p5 n d],aJ w TI 1 (p5) (n) (d) (ivs ys),aI w w2 aN #[aA,aB,.slice p5 n d,a,c,aE,aF,aC,aG,.slice q1 m o],aJ w TI 1 (p1) (n) (ae) (ivs xs),aJ w TV 4 (q1) (m) (o) (vs.flatMap aD),aI w (w.heap.size+1+1) aN #[(),(),((),()),(),(),(),(),(),(),((),())],aI w (w.heap.size+1) THD #[I 2,j,ad],aI w w aN #[aA,aB,.slice p n g,a,c,aE,aF,aC,aG,.slice (some ⟨b,h,none⟩) m c2]]from by have:=M9;rw[e2]at this;simpa only[e1]using this)
   clear e2 M9 M7)
  all_goals go_wp2_with fail
  all_goals go_meet
  all_goals exact⟨q9,c9,by first|exact(MZ.store (i:=3) rfl 9 (.slice q9 (m-1) c9))|(simp only[e1];exact(MZ.store (i:=3) rfl 9 (.slice q9 (m-1) c9)))⟩
 case rest=>
  obtain⟨q9,c9,MC⟩:=hcut;have MC:=xQ MC;clear M6 i1 i3 i4 i5 i6 i7 bg bf l d0 aj d1 ak d2 al d3 am d4 an d5 ao d6 ap d7 aq d8 ar d9 au ab;have ab:w.heap.size+1<wc.heap.size:=(MC.out.hi 7)
  obtain⟨e0,e1,e2,e3,e4,e5,e6,e7,e8,e9⟩:=(MC.out.bk 3).ten;obtain⟨f0,a5,f1,a6,f2,a7,f3,a8,f4,a9,f5,ba,f6,bb,f7,bc,f8,bd,f9,be⟩:=(MC.out.bk 6).tenf;go_upto_region 33 with fail;go_wp2;clear e0 e1 e2 e3 e4 e5 e6 e7 e8 e9 f0 a5 f1 a6 f2 a7 f3 a8 f4 a9 f5 ba f6 bb f7 bc f8 bd f9 be ab;have M7:=(MC.out.put10 (i:=6) rfl (I aA) (I aB) (.slice p5 n d) (I a) (I c) (I aE) (I aF) (I aC) (I aG) (.slice q9 (m-1) c9))
  generalize ai:World.setCell _ _ _=wz;rw[ai]at M7;clear ai MC;obtain⟨y0,y1,y2,y3,y4,y5,y6,y7,y8,y9⟩:=(M7.bk 6).ten;exact bodyPost_ret (v:= .tuple #[.agg #[aA,aB,.slice p5 n d,a,c,aE,aF,aC,aG,.slice q9 (m-1) c9],f,.bool true]) (by simp[results,results60,go_sem, *]) rfl ⟨p5,d,q9,c9,rfl,(M7.ow 2),(M7.ow 0),M7.ext⟩
theorem uO (aA aB a c aE aF aC aG f l ad:Int)(p:OA)(n g:Nat)(b j k:Nat)(xs ys:List Int)(vs:List aU)(w:World)(h0:0≤f)(hm:(k+1)≤1000)(bf:Hid (vs.drop (k+1)= []))(HS:Hid (Sl w (some ⟨b,j,none⟩) (k+1) (k+1) 4 (vs.flatMap aD)))
  (az:xB 15 #[.agg #[aA,aB,.slice p n g,a,c,aE,aF,aC,aG,.slice (some ⟨b,j,none⟩) (k+1) (k+1)]] w true)
  (HL:xC 59 #[.agg #[aA,aB,.slice p n g,a,c,aE,aF,aC,aG,.slice (some ⟨b,j,none⟩) (k+1) (k+1)]] w fun w' e w''=> ∃p' cap' q' c2',e= .returned (.agg #[aA,aB,.slice p' n cap',a,c,aE,aF,aC,aG,.slice q' (k+1) c2'])∧w''.ownsRow w' TI 1 (.slice p' n cap') n (ivs xs)∧w''.ownsRow w' TV 4 (.slice q' (k+1) c2') (k+1) (vs.flatMap aD)∧Ext w' w'')
  (HP:xC 104 #[aH aA aB p n g,l] w fun w' e w''=> ∃p' cap',e= .returned (.tuple #[aH aA aB p' n cap',f])∧w''.ownsRow w' TI 1 (.slice p' n cap') n (ivs ys)∧Ext w' w'')
  (HF:xC 105 #[.agg #[aA,aB,.slice p n g,a,c,aE,aF,aC,aG,.slice (some ⟨b,j,none⟩) (k+1) (k+1)],l] w fun w' e w''=>e= .returned (I k)∧Ext w' w'')
  (HM:xB 106 #[.agg #[aA,aB,.slice p n g,a,c,aE,aF,aC,aG,.slice (some ⟨b,j,none⟩) (k+1) (k+1)],l] w true):
  U 60 #[.agg #[aA,aB,.slice p n g,a,c,aE,aF,aC,aG,.slice (some ⟨b,j,none⟩) (k+1) (k+1)],.agg #[I 2,l,ad]] w fun e w'=> ∃p' cap' q' c2',e= .returned (.tuple #[.agg #[aA,aB,.slice p' n cap',a,c,aE,aF,aC,aG,.slice q' (k) c2'],f,.bool true])∧w'.ownsRow w TI 1 (.slice p' n cap') n (ivs ys)∧w'.ownsRow w TV 4 (.slice q' (k) c2') (k) ((vs.take k++vs.drop (k+1)).flatMap aD)∧Ext w w':=by
 go_enter func60,ntmps60;go_wp2_with fail;refine Ω (az _ ((((Mem.start w).c0 aN #[aA,aB,.slice p n g,a,c,aE,aF,aC,aG,.slice (some ⟨b,j,none⟩) (k+1) (k+1)]).c1 THD #[I 2,l,ad]).c2 aN zT).ext) fun w1 a2=>?_
 have M1:=(((((Mem.start w).c0 aN #[aA,aB,.slice p n g,a,c,aE,aF,aC,aG,.slice (some ⟨b,j,none⟩) (k+1) (k+1)]).c1 THD #[I 2,l,ad]).c2 aN zT).adv a2)
 clear a2 az;obtain⟨q,r,s,t,u,x,y,z,aa,m⟩:=(M1.bk 2).ten;go_wp2_with fail;clear q r s t u x y z aa m;refine(HL _ M1.ext).mono ?_;rintro e w2 ⟨p1,ae,q1,o,rfl,ho,hq,hx⟩;have M2:=(M1.own2 hx ho hq (aT2 _) (by decide))
 clear M1 hx ho hq;have av:=M2.hi 3;have aw:=M2.hi 4;obtain⟨q,r,s,t,u,x,y,z,aa,m⟩:=(M2.bk 4).ten;obtain⟨af,ag,ah⟩:=(M2.bk 3).tri;go_wp2_with fail;clear q r s t u x y z aa m af ag ah;refine(HP _ (M2.c0 aN #[aA,aB,.slice p1 n ae,a,c,aE,aF,aC,aG,.slice q1 (k+1) o]).ext).mono ?_;rintro e w3 ⟨p5,d,rfl,ho,hx⟩;have M3:=((M2.c0 aN #[aA,aB,.slice p1 n ae,a,c,aE,aF,aC,aG,.slice q1 (k+1) o]).call hx ho)
 clear M2 av aw hx ho HP;have ax:=M3.hi 5;have ay:=M3.hi 6;obtain⟨q,r,s,t,u,x,y,z,aa,m⟩:=(M3.bk 6).ten;obtain⟨af,ag,ah⟩:=(M3.bk 5).tri;go_wp2_with fail;clear q r s t u x y z aa m af ag ah;refine Ω (HF _ (M3.c0 TH3 #[aA,aB,.slice p5 n d]).ext) fun w4 a3=>?_
 have M4:=((M3.c0 TH3 #[aA,aB,.slice p5 n d]).adv a3)
 clear M3 ax ay a3 HF;obtain⟨q,r,s,t,u,x,y,z,aa,m⟩:=(M4.bk 7).ten;obtain⟨af,ag,ah⟩:=(M4.bk 6).tri;go_wp2_with fail;clear q r s t u x y z aa m af ag ah;refine Ω (HM _ M4.ext) fun w5 a4=>?_
 have M5:=(M4.adv a4)
 clear M4 a4 HM;have hd:decide (f<0)=false:=by simp;omega
 clear HL;obtain⟨d0,aj,d1,ak,d2,al,d3,am,d4,an,d5,ao,d6,ap,d7,aq,d8,ar,d9,au⟩:=(M5.bk 2).tenf;obtain⟨bg,bh,bi⟩:=(M5.bk 0).tri;go_upto_region 22 with fail;clear d0 aj d1 ak d2 al d3 am d4 an d5 ao d6 ap d7 aq d8 ar d9 au bg bh bi;have M6:=(((M5.st 2 0 (I aA)).st 2 1 (I aB)).st 2 2 (.slice p5 n d))
 generalize ai:World.setCell _ _ _=w6;rw[ai]at M6;clear ai M5;have ab:=M6.hi 7;have m:=(M6.bk 7).cl 9;obtain⟨d0,aj,d1,ak,d2,al,d3,am,d4,an,d5,ao,d6,ap,d7,aq,d8,ar,d9,au⟩:=(M6.bk 2).tenf;have i1:(0:Int)≤(k:Int):=by omega
 have i2:(k:Int)≤((k+1):Int):=by omega
 have i5:(0:Int)≤(k:Int)+1:=by omega
 have i6:((k:Int)+1).toNat=k+1:=by omega
 have i7:IntKind.i64.wrap ((k:Int)+1)=(k:Int)+1:=aT5 _ (by omega);go_cut [] (fun wx=> ∃(q9:OA) (c9:Nat),Mem w wx [aJ w TV 4 (q9) (k) (c9) ((vs.take k++vs.drop (k+1)).flatMap aD),aI w w3 TH3 #[aA,aB,.slice p5 n d],aJ w TI 1 (p5) (n) (d) (ivs ys),aI w w2 aN #[aA,aB,.slice p5 n d,a,c,aE,aF,aC,aG,.slice q9 (k) c9],aJ w TI 1 (p1) (n) (ae) (ivs xs),aJ w TV 4 (q1) (k+1) (o) (vs.flatMap aD),aI w (w.heap.size+1+1) aN #[(),(),((),()),(),(),(),(),(),(),((),())],aI w (w.heap.size+1) THD #[I 2,l,ad],aI w w aN #[aA,aB,.slice p n g,a,c,aE,aF,aC,aG,.slice (some ⟨b,j,none⟩) (k+1) (k+1)]])
 case first=>
  go_region_law ((first
   |(refine jD yP (by rfl) _ _ (by rfl) (by first|exact M6.made0 TV 4 w6 (by simp)|exact(M6.made0 TV 4 w6 (by simp)).adv (by exact .drew (.refl _))|exact(M6.adv xE).made0 TV 4 w6 (by simp)) 0 (by rfl) (by rfl) ((vs.take k).flatMap aD) (by rfl) (aG5 (HS.out.ext (M6.ext.trans (by exact .drew (.alloc (.refl _) _)))) (by omega)) (fN _) (by omega) ?_
     intro q7 c7 w7 a0;have M7:=(show Mem w w7 [aJ w TV 4 (q7) (k) (c7) ((vs.take k).flatMap aD),aI w w3 TH3 #[aA,aB,.slice p5 n d],aJ w TI 1 (p5) (n) (d) (ivs ys),aI w w2 aN #[aA,aB,.slice p5 n d,a,c,aE,aF,aC,aG,.slice q1 (k+1) o],aJ w TI 1 (p1) (n) (ae) (ivs xs),aJ w TV 4 (q1) (k+1) (o) (vs.flatMap aD),aI w (w.heap.size+1+1) aN #[(),(),((),()),(),(),(),(),(),(),((),())],aI w (w.heap.size+1) THD #[I 2,l,ad],aI w w aN #[aA,aB,.slice p n g,a,c,aE,aF,aC,aG,.slice (some ⟨b,j,none⟩) (k+1) (k+1)]]from by simpa only[aTe,aU2,aUt]using a0)
     clear a0;have bl:=(M7.bk 8).cl 9
     have bm:(w2:Nat)<w7:=(M7.hi 3))
   |(refine jD yP (by rfl) _ _ (by rfl) (M7.adv (by exact .refl _)) 0 (by rfl) (by rfl) (([]:List aU).flatMap aD) (by rfl) (⟨by simp,aT8 _,by have:=HS.out.mx;omega,fun h=>absurd h (by omega)⟩) (fN _) (by omega) ?_
     intro q9 c9 w9 a1;have M9:=(show Mem w w9 [aJ w TV 4 (q9) (k+(0)) (c9) ((vs.take k).flatMap aD++([]:List aU).flatMap aD),aI w w3 TH3 #[aA,aB,.slice p5 n d],aJ w TI 1 (p5) (n) (d) (ivs ys),aI w w2 aN #[aA,aB,.slice p5 n d,a,c,aE,aF,aC,aG,.slice q1 (k+1) o],aJ w TI 1 (p1) (n) (ae) (ivs xs),aJ w TV 4 (q1) (k+1) (o) (vs.flatMap aD),aI w (w.heap.size+1+1) aN #[(),(),((),()),(),(),(),(),(),(),((),())],aI w (w.heap.size+1) THD #[I 2,l,ad],aI w w aN #[aA,aB,.slice p n g,a,c,aE,aF,aC,aG,.slice (some ⟨b,j,none⟩) (k+1) (k+1)]]from a1)
     clear a1;have bo:=(M9.bk 3).cl 9;have bj:=(M9.bk 3).frozen 9
     have bp:(w2:Nat)<w9:=(M9.hi 3))))
  all_goals (
   have e1:k+(0)=k:=by omega
   have e2:(vs.take k).flatMap aD++([]:List aU).flatMap aD=(vs.take k++vs.drop (k+1)).flatMap aD:=by rw[bf.out];simp
   skip;have MZ:=(show Mem w w9 [aJ w TV 4 (q9) (k) (c9) ((vs.take k++vs.drop (k+1)).flatMap aD),aI w w3 TH3 #[aA,aB,.slice p5 n d],aJ w TI 1 (p5) (n) (d) (ivs ys),aI w w2 aN #[aA,aB,.slice p5 n d,a,c,aE,aF,aC,aG,.slice q1 (k+1) o],aJ w TI 1 (p1) (n) (ae) (ivs xs),aJ w TV 4 (q1) (k+1) (o) (vs.flatMap aD),aI w (w.heap.size+1+1) aN #[(),(),((),()),(),(),(),(),(),(),((),())],aI w (w.heap.size+1) THD #[I 2,l,ad],aI w w aN #[aA,aB,.slice p n g,a,c,aE,aF,aC,aG,.slice (some ⟨b,j,none⟩) (k+1) (k+1)]]from by have:=M9;rw[e2]at this;simpa only[e1]using this)
   clear e2 M9 M7)
  all_goals go_wp2_with fail
  all_goals go_meet
  all_goals exact⟨q9,c9,by first|exact(MZ.store (i:=3) rfl 9 (.slice q9 (k) c9))|(simp only[e1];exact(MZ.store (i:=3) rfl 9 (.slice q9 (k) c9)))⟩
 case rest=>
  obtain⟨q9,c9,MC⟩:=hcut;have MC:=xQ MC;clear M6 i1 i2 i5 i6 i7 m d0 aj d1 ak d2 al d3 am d4 an d5 ao d6 ap d7 aq d8 ar d9 au ab;have ab:w.heap.size+1<wc.heap.size:=(MC.out.hi 7)
  obtain⟨e0,e1,e2,e3,e4,e5,e6,e7,e8,e9⟩:=(MC.out.bk 3).ten;obtain⟨f0,a5,f1,a6,f2,a7,f3,a8,f4,a9,f5,ba,f6,bb,f7,bc,f8,bd,f9,be⟩:=(MC.out.bk 6).tenf;go_upto_region 33 with fail;go_wp2;clear e0 e1 e2 e3 e4 e5 e6 e7 e8 e9 f0 a5 f1 a6 f2 a7 f3 a8 f4 a9 f5 ba f6 bb f7 bc f8 bd f9 be ab;have M7:=(MC.out.put10 (i:=6) rfl (I aA) (I aB) (.slice p5 n d) (I a) (I c) (I aE) (I aF) (I aC) (I aG) (.slice q9 (k) c9))
  generalize ai:World.setCell _ _ _=wz;rw[ai]at M7;clear ai MC;obtain⟨y0,y1,y2,y3,y4,y5,y6,y7,y8,y9⟩:=(M7.bk 6).ten;exact bodyPost_ret (v:= .tuple #[.agg #[aA,aB,.slice p5 n d,a,c,aE,aF,aC,aG,.slice q9 (k) c9],f,.bool true]) (by simp[results,results60,go_sem, *]) rfl ⟨p5,d,q9,c9,rfl,(M7.ow 2),(M7.ow 0),M7.ext⟩
end Go.Proofs.YtbgkcehffiogcabGreatDoor
