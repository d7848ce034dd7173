/- Lemmas (@packed). -/
import Derived.Test.YthfmmibomhhmpabGreatDoorZ11
namespace Go.Proofs.YthfmmibomhhmpabGreatDoor
open Go.RowKit Go.Proofs.Tryz
set_option linter.all false
set_option maxHeartbeats 8000000
set_option maxRecDepth 100000
variable(aA aB a c b aE aF aD aG t f o ag:Int)(p:OA)(n g:Nat)
abbrev THD:TypeId:=70
theorem aKk (h j k:Int)(p:OA)(n d:Nat)(q:OA)(m c2:Nat)(xs:List Int)(vs:List aV)(w:World)(c:xB 11 #[.agg #[aA,aB,.slice p n d,a,b,aE,aF,aD,aG,.slice q m c2]] w false):
  U 50 #[.agg #[aA,aB,.slice p n d,a,b,aE,aF,aD,aG,.slice q m c2],.agg #[h,j,k]] w (Z (.tuple #[.agg #[(),(),((),()),(),(),(),(),(),(),((),())],(-1:Int),.bool false]) w):=by
 go_enter func50,ntmps50;go_wp2_with fail;refine Ω (c _ (Mem.b3 w).ext) fun w1 g=>?_
 have M1:=((Mem.b3 w).adv g)
 clear g c;have f_:=(M1.bk 0).tenf;go_wp2;clear f_;have M2:=(M1.put10 (i:=0) rfl (I 0) (I 0) (.slice none 0 0) (I 0) (I 0) (I 0) (I 0) (I 0) (I 0) (.slice none 0 0))
 generalize f:World.setCell _ _ _=wz;rw[f]at M2;clear f M1;have y_:=(M2.bk 0).ten;exact aYw (v:= .tuple #[.agg #[(),(),((),()),(),(),(),(),(),(),((),())],(-1:Int),.bool false]) ⟨rfl,M2.ext⟩
theorem aFm (c aE aF aD aG a x y:Int)(p:OA)(n d:Nat)(q:OA)(m c2:Nat)(xs:List Int)(vs:List aV)(w:World)(h0:a≠0)(h1:a≠1)(h2:a≠2)(h3:a≠3)(h4:a≠4)(l:xB 11 #[.agg #[aA,aB,.slice p n d,b,c,aE,aF,aD,aG,.slice q m c2]] w true)(HL:xC 49 #[.agg #[aA,aB,.slice p n d,b,c,aE,aF,aD,aG,.slice q m c2]] w fun w' e w''=> ∃p' cap' q' c2',e= .returned (.agg #[aA,aB,.slice p' n cap',b,c,aE,aF,aD,aG,.slice q' m c2'])∧w''.ownsRow w' TI 1 (.slice p' n cap') n (ivs xs)∧w''.ownsRow w' TV 4 (.slice q' m c2') m (vs.flatMap aC)∧Ext w' w''):
  U 50 #[.agg #[aA,aB,.slice p n d,b,c,aE,aF,aD,aG,.slice q m c2],.agg #[a,x,y]] w (aYz w n (ivs xs) m (vs.flatMap aC) w fun p' cap' q' c2'=> .tuple #[.agg #[aA,aB,.slice p' n cap',b,c,aE,aF,aD,aG,.slice q' m c2'],(-1:Int),.bool false]):=by
 go_enter func50,ntmps50;go_wp2_with fail;refine Ω (l _ (Mem.b3 w).ext) fun w1 t=>?_
 have M1:=((Mem.b3 w).adv t)
 clear t l;have f:=(M1.bk 2).ten;go_wp2_with fail;clear f;refine(HL _ M1.ext).mono ?_;rintro e w2 ⟨p1,o,q1,r,rfl,ho,hq,hx⟩;have M2:=(M1.own2 hx ho hq (aVz _) (by decide))
 clear M1 hx ho hq;have j:=M2.hi 3;have k:=M2.hi 4;have f:=(M2.bk 4).ten;have u:=(M2.bk 3).cl 0;have k0:(a==0)=false:=by simp;omega
 have k1:(a==1)=false:=by simp;omega
 have k2:(a==2)=false:=by simp;omega
 have k3:(a==3)=false:=by simp;omega
 have k4:(a==4)=false:=by simp;omega
 go_wp2_with fail;clear f u;refine(HL _ (M2.c0 aN #[aA,aB,.slice p1 n o,b,c,aE,aF,aD,aG,.slice q1 m r]).ext).mono ?_;rintro e w9 ⟨p9,g,q9,h,rfl,ho,hq,hx⟩;have M3:=((M2.c0 aN #[aA,aB,.slice p1 n o,b,c,aE,aF,aD,aG,.slice q1 m r]).own2 hx ho hq (aVz _) (by decide))
 clear M2 j k hx ho hq HL;have f_:=(M3.bk 5).tenf;go_wp2;clear f_;have M4:=(M3.put10 (i:=5) rfl (I aA) (I aB) (.slice p9 n g) (I b) (I c) (I aE) (I aF) (I aD) (I aG) (.slice q9 m h))
 generalize s:World.setCell _ _ _=wz;rw[s]at M4;clear s M3;have y_:=(M4.bk 5).ten;exact aYw (v:= .tuple #[.agg #[aA,aB,.slice p9 n g,b,c,aE,aF,aD,aG,.slice q9 m h],(-1:Int),.bool false]) ⟨p9,g,q9,h,rfl,(M4.ow 0),(M4.ow 1),M4.ext⟩
theorem aAf (c aj:Int)(p:OA)(n k:Nat)(q:OA)(m c2:Nat)(xs:List Int)(vs:List aV)(w:World)(hc:0≤aD)(ak:aD≤9999)(h1:1≤c)(h2:c≤9999-aD)(ae:xB 11 #[.agg #[aA,aB,.slice p n k,a,b,aE,aF,aD,aG,.slice q m c2]] w true)(HL:xC 49 #[.agg #[aA,aB,.slice p n k,a,b,aE,aF,aD,aG,.slice q m c2]] w fun w' e w''=> ∃p' cap' q' c2',e= .returned (.agg #[aA,aB,.slice p' n cap',a,b,aE,aF,aD,aG,.slice q' m c2'])∧w''.ownsRow w' TI 1 (.slice p' n cap') n (ivs xs)∧w''.ownsRow w' TV 4 (.slice q' m c2') m (vs.flatMap aC)∧Ext w' w'')(HI:Hid (∀w',U 32 #[c,I 1,(9999-aD:Int)] w' fun e w''=>e= .returned (.bool true)∧w'=w'')):
  U 50 #[.agg #[aA,aB,.slice p n k,a,b,aE,aF,aD,aG,.slice q m c2],.agg #[I 3,c,aj]] w (aYz w n (ivs xs) m (vs.flatMap aC) w fun p' cap' q' c2'=> .tuple #[.agg #[aA,aB,.slice p' n cap',a,b,aE,aF,(aD+c:Int),aG,.slice q' m c2'],(aD+c:Int),.bool true]):=by
 go_enter func50,ntmps50;go_wp2_with fail;refine Ω (ae _ (Mem.b3 w).ext) fun w1 ag=>?_
 have M1:=((Mem.b3 w).adv ag)
 clear ag ae;obtain⟨l,o,r,s,t,u,x,d,y,z⟩:=(M1.bk 2).ten;go_wp2_with fail;clear l o r s t u x d y z;refine(HL _ M1.ext).mono ?_;rintro e w2 ⟨p1,f,q1,g,rfl,ho,hq,hx⟩;have M2:=(M1.own2 hx ho hq (aVz _) (by decide))
 clear M1 hx ho hq;have ab:=M2.hi 3;have ad:=M2.hi 4;obtain⟨l,o,r,s,t,u,x,d,y,z⟩:=(M2.bk 4).ten;obtain⟨ah,aa,ai⟩:=(M2.bk 3).tri;have k1:=aYs (9999-aD);go_wp2_with fail;refine(HI _).mono ?_;rintro e _ ⟨rfl,rfl⟩;clear HI k1 l o r s t u x d y z ah aa ai;have M3:=(M2.c0 aN #[aA,aB,.slice p1 n f,a,b,aE,aF,aD,aG,.slice q1 m g])
 generalize (w2.alloc (.cells #[aA,aB,.slice p1 n f,a,b,aE,aF,aD,aG,.slice q1 m g] aN))=w3 at M3⊢;clear M2 ab ad;have d:=(M3.bk 5).cl 7;have aa:=(M3.bk 4).cl 1;have d_:=(M3.bk 0).tenf;have f_:=(M3.bk 3).tenf;obtain⟨h,j⟩:=M3.nq 0 3;have k2:=aYs (aD+c);have hd:=aYu (aD+c<0);clear HL;have M4:=(M3.st 0 7 (I (aD+c)))
 go_wp2;clear d aa d_ f_ h j;have M5:=(M4.put10 (i:=3) rfl (I aA) (I aB) (.slice p1 n f) (I a) (I b) (I aE) (I aF) (I (aD+c)) (I aG) (.slice q1 m g))
 generalize af:World.setCell _ _ _=wz;rw[af]at M5;clear af M3 M4;have y_:=(M5.bk 3).ten;exact aYw (v:= .tuple #[.agg #[aA,aB,.slice p1 n f,a,b,aE,aF,(aD+c:Int),aG,.slice q1 m g],(aD+c:Int),.bool true]) ⟨p1,f,q1,g,rfl,(M5.ow 1),(M5.ow 2),M5.ext⟩
theorem aB7 (x:Int)(p:OA)(n d:Nat)(q:OA)(m c2:Nat)(xs:List Int)(vs:List aV)(w:World)(hc:0≤aD)(y:aD≤9999)(k:xB 11 #[.agg #[aA,aB,.slice p n d,a,b,aE,aF,aD,aG,.slice q m c2]] w true)(HL:xC 49 #[.agg #[aA,aB,.slice p n d,a,b,aE,aF,aD,aG,.slice q m c2]] w fun w' e w''=> ∃p' cap' q' c2',e= .returned (.agg #[aA,aB,.slice p' n cap',a,b,aE,aF,aD,aG,.slice q' m c2'])∧w''.ownsRow w' TI 1 (.slice p' n cap') n (ivs xs)∧w''.ownsRow w' TV 4 (.slice q' m c2') m (vs.flatMap aC)∧Ext w' w'')(HI:Hid (∀w',U 32 #[t,I 1,(9999-aD:Int)] w' fun e w''=>e= .returned (.bool false)∧w'=w'')):
  U 50 #[.agg #[aA,aB,.slice p n d,a,b,aE,aF,aD,aG,.slice q m c2],.agg #[I 3,t,x]] w (aYz w n (ivs xs) m (vs.flatMap aC) w fun p' cap' q' c2'=> .tuple #[.agg #[aA,aB,.slice p' n cap',a,b,aE,aF,aD,aG,.slice q' m c2'],(-1:Int),.bool false]):=by
 go_enter func50,ntmps50;go_wp2_with fail;refine Ω (k _ (Mem.b3 w).ext) fun w1 s=>?_
 have M1:=((Mem.b3 w).adv s)
 clear s k;have c:=(M1.bk 2).ten;go_wp2_with fail;clear c;refine(HL _ M1.ext).mono ?_;rintro e w2 ⟨p1,l,q1,o,rfl,ho,hq,hx⟩;have M2:=(M1.own2 hx ho hq (aVz _) (by decide))
 clear M1 hx ho hq;have h:=M2.hi 3;have j:=M2.hi 4;have c:=(M2.bk 4).ten;have u:=(M2.bk 3).tri;have k1:=aYs (9999-aD);go_wp2_with fail;refine(HI _).mono ?_;rintro e _ ⟨rfl,rfl⟩;clear HI k1 c u;have M3:=(M2.c0 aN #[aA,aB,.slice p1 n l,a,b,aE,aF,aD,aG,.slice q1 m o])
 generalize (w2.alloc (.cells #[aA,aB,.slice p1 n l,a,b,aE,aF,aD,aG,.slice q1 m o] aN))=w3 at M3⊢;clear M2 h j;have c:=(M3.bk 5).ten;go_wp2_with fail;clear c;refine(HL _ M3.ext).mono ?_;rintro e w9 ⟨p9,f,q9,g,rfl,ho,hq,hx⟩;have M4:=(M3.own2 hx ho hq (aVz _) (by decide))
 clear M3 hx ho hq HL;have f_:=(M4.bk 5).tenf;go_wp2;clear f_;have M5:=(M4.put10 (i:=5) rfl (I aA) (I aB) (.slice p9 n f) (I a) (I b) (I aE) (I aF) (I aD) (I aG) (.slice q9 m g))
 generalize r:World.setCell _ _ _=wz;rw[r]at M5;clear r M4;have y_:=(M5.bk 5).ten;exact aYw (v:= .tuple #[.agg #[aA,aB,.slice p9 n f,a,b,aE,aF,aD,aG,.slice q9 m g],(-1:Int),.bool false]) ⟨p9,f,q9,g,rfl,(M5.ow 0),(M5.ow 1),M5.ext⟩
theorem aB8 (c d y z:Int)(p:OA)(n j:Nat)(q:OA)(m c2:Nat)(xs:List Int)(vs aa:List aV)(w:World)(h0:0≤d)(s:xB 11 #[.agg #[aA,aB,.slice p n j,a,b,aE,aF,aD,aG,.slice q m c2]] w true)(HL:xC 49 #[.agg #[aA,aB,.slice p n j,a,b,aE,aF,aD,aG,.slice q m c2]] w fun w' e w''=> ∃p' cap' q' c2',e= .returned (.agg #[aA,aB,.slice p' n cap',a,b,aE,aF,aD,aG,.slice q' m c2'])∧w''.ownsRow w' TI 1 (.slice p' n cap') n (ivs xs)∧w''.ownsRow w' TV 4 (.slice q' m c2') m (vs.flatMap aC)∧Ext w' w'')(HP:xC 90 #[.agg #[aA,aB,.slice p n j,a,b,aE,aF,aD,aG,.slice q m c2],y,z] w fun w' e w''=> ∃p' cap' q' c2',e= .returned (.tuple #[.agg #[aA,aB,.slice p' n cap',a,b,aE,aF,aD,c,.slice q' m c2'],d,.bool true])∧w''.ownsRow w' TI 1 (.slice p' n cap') n (ivs xs)∧w''.ownsRow w' TV 4 (.slice q' m c2') m (aa.flatMap aC)∧Ext w' w''):
  U 50 #[.agg #[aA,aB,.slice p n j,a,b,aE,aF,aD,aG,.slice q m c2],.agg #[I 1,y,z]] w (aYz w n (ivs xs) m (aa.flatMap aC) w fun p' cap' q' c2'=> .tuple #[.agg #[aA,aB,.slice p' n cap',a,b,aE,aF,aD,c,.slice q' m c2'],d,.bool true]):=by
 go_enter func50,ntmps50;go_wp2_with fail;refine Ω (s _ (Mem.b3 w).ext) fun w1 x=>?_
 have M1:=((Mem.b3 w).adv x)
 clear x s;have k:=(M1.bk 2).ten;go_wp2_with fail;clear k;refine(HL _ M1.ext).mono ?_;rintro e w2 ⟨p1,t,q1,u,rfl,ho,hq,hx⟩;have M2:=(M1.own2 hx ho hq (aVz _) (by decide))
 clear M1 hx ho hq;have l:=M2.hi 3;have o:=M2.hi 4;have k:=(M2.bk 4).ten;have ab:=(M2.bk 3).tri;go_wp2_with fail;clear k ab;refine(HP _ (M2.c0 aN #[aA,aB,.slice p1 n t,a,b,aE,aF,aD,aG,.slice q1 m u]).ext).mono ?_;rintro e w3 ⟨p5,f,q5,g,rfl,ho,hq,hx⟩;have M3:=((M2.c0 aN #[aA,aB,.slice p1 n t,a,b,aE,aF,aD,aG,.slice q1 m u]).own2 hx ho hq (aVz _) (by decide))
 clear M2 l o hx ho hq HP HL;have r:=M3.hi 2;have d_:=(M3.bk 2).tenf;have hd:=aYu (d<0);go_upto_region 16 with fail;clear d_ r;have M4:=(M3.put10 (i:=2) rfl (I aA) (I aB) (.slice p5 n f) (I a) (I b) (I aE) (I aF) (I aD) (I c) (.slice q5 m g))
 generalize h:World.setCell _ _ _=w4;rw[h]at M4;clear h M3;have M5:=(M4.adv ((Ext.refl _).alloc (.cells #[aA,aB,.slice p5 n f,a,b,aE,aF,aD,c,.slice q5 m g] aN)))
 generalize (w4.alloc (.cells #[aA,aB,.slice p5 n f,a,b,aE,aF,aD,c,.slice q5 m g] aN))=w5 at M5⊢;clear M4;have e_:=(M5.bk 2).ten;have f_:=(M5.bk 5).tenf;go_wp2;clear e_ f_;have M6:=(M5.put10 (i:=5) rfl (I aA) (I aB) (.slice p5 n f) (I a) (I b) (I aE) (I aF) (I aD) (I c) (.slice q5 m g))
 generalize h:World.setCell _ _ _=wz;rw[h]at M6;clear h M5;have y_:=(M6.bk 5).ten;exact aYw (v:= .tuple #[.agg #[aA,aB,.slice p5 n f,a,b,aE,aF,aD,c,.slice q5 m g],d,.bool true]) ⟨p5,f,q5,g,rfl,(M6.ow 0),(M6.ow 1),M6.ext⟩
theorem aD2 (z aa:Int)(p:OA)(n f:Nat)(q:OA)(m c2:Nat)(xs:List Int)(vs:List aV)(w:World)(o:xB 11 #[.agg #[aA,aB,.slice p n f,a,c,aE,aF,aD,aG,.slice q m c2]] w true)(HL:xC 49 #[.agg #[aA,aB,.slice p n f,a,c,aE,aF,aD,aG,.slice q m c2]] w fun w' e w''=> ∃p' cap' q' c2',e= .returned (.agg #[aA,aB,.slice p' n cap',a,c,aE,aF,aD,aG,.slice q' m c2'])∧w''.ownsRow w' TI 1 (.slice p' n cap') n (ivs xs)∧w''.ownsRow w' TV 4 (.slice q' m c2') m (vs.flatMap aC)∧Ext w' w'')(HP:xC 90 #[.agg #[aA,aB,.slice p n f,a,c,aE,aF,aD,aG,.slice q m c2],z,aa] w fun w' e w''=> ∃p' cap' q' c2' b,e= .returned (.tuple #[.agg #[aA,aB,.slice p' n cap',a,c,aE,aF,aD,aG,.slice q' m c2'],b,.bool false])∧Ext w' w''):
  U 50 #[.agg #[aA,aB,.slice p n f,a,c,aE,aF,aD,aG,.slice q m c2],.agg #[I 1,z,aa]] w (aYz w n (ivs xs) m (vs.flatMap aC) w fun p' cap' q' c2'=> .tuple #[.agg #[aA,aB,.slice p' n cap',a,c,aE,aF,aD,aG,.slice q' m c2'],(-1:Int),.bool false]):=by
 go_enter func50,ntmps50;go_wp2_with fail;refine Ω (o _ (Mem.b3 w).ext) fun w1 y=>?_
 have M1:=((Mem.b3 w).adv y)
 clear y o;have d:=(M1.bk 2).ten;go_wp2_with fail;clear d;refine(HL _ M1.ext).mono ?_;rintro e w2 ⟨p1,r,q1,t,rfl,ho,hq,hx⟩;have M2:=(M1.own2 hx ho hq (aVz _) (by decide))
 clear M1 hx ho hq;have j:=M2.hi 3;have k:=M2.hi 4;have d:=(M2.bk 4).ten;have ab:=(M2.bk 3).tri;go_wp2_with fail;clear d ab;refine(HP _ (M2.c0 aN #[aA,aB,.slice p1 n r,a,c,aE,aF,aD,aG,.slice q1 m t]).ext).mono ?_;rintro e w3 ⟨p5,s,q5,u,b5,rfl,hx⟩;have M3:=((M2.c0 aN #[aA,aB,.slice p1 n r,a,c,aE,aF,aD,aG,.slice q1 m t]).adv hx)
 clear M2 j k hx HP;have l:=M3.hi 5;have d:=(M3.bk 5).ten;go_wp2_with fail;clear d;refine(HL _ (M3.c0 aN #[aA,aB,.slice p5 n s,a,c,aE,aF,aD,aG,.slice q5 m u]).ext).mono ?_;rintro e w9 ⟨p9,g,q9,h,rfl,ho,hq,hx⟩;have M4:=((M3.c0 aN #[aA,aB,.slice p5 n s,a,c,aE,aF,aD,aG,.slice q5 m u]).own2 hx ho hq (aVz _) (by decide))
 clear M3 l hx ho hq HL;have f_:=(M4.bk 6).tenf;go_wp2;clear f_;have M5:=(M4.put10 (i:=6) rfl (I aA) (I aB) (.slice p9 n g) (I a) (I c) (I aE) (I aF) (I aD) (I aG) (.slice q9 m h))
 generalize x:World.setCell _ _ _=wz;rw[x]at M5;clear x M4;have y_:=(M5.bk 6).ten;exact aYw (v:= .tuple #[.agg #[aA,aB,.slice p9 n g,a,c,aE,aF,aD,aG,.slice q9 m h],(-1:Int),.bool false]) ⟨p9,g,q9,h,rfl,(M5.ow 0),(M5.ow 1),M5.ext⟩
theorem yO (u:Int)(p:OA)(n g:Nat)(q:OA)(m c2:Nat)(xs ys:List Int)(vs:List aV)(w:World)(o:xB 11 #[.agg #[aA,aB,.slice p n g,a,b,aE,aF,aD,aG,.slice q m c2]] w true)(HL:xC 49 #[.agg #[aA,aB,.slice p n g,a,b,aE,aF,aD,aG,.slice q m c2]] w fun w' e w''=> ∃p' cap' q' c2',e= .returned (.agg #[aA,aB,.slice p' n cap',a,b,aE,aF,aD,aG,.slice q' m c2'])∧w''.ownsRow w' TI 1 (.slice p' n cap') n (ivs xs)∧w''.ownsRow w' TV 4 (.slice q' m c2') m (vs.flatMap aC)∧Ext w' w'')(HP:xC 94 #[aH aA aB p n g,eV t u] w fun w' e w''=> ∃p' cap',e= .returned (.tuple #[aH aA aB p' n cap',.bool true])∧w''.ownsRow w' TI 1 (.slice p' n cap') n (ivs ys)∧Ext w' w''):
  U 50 #[.agg #[aA,aB,.slice p n g,a,b,aE,aF,aD,aG,.slice q m c2],.agg #[I 4,t,u]] w (aYz w n (ivs ys) m (vs.flatMap aC) w fun p' cap' q' c2'=> .tuple #[.agg #[aA,aB,.slice p' n cap',a,b,aE,aF,aD,aG,.slice q' m c2'],(),.bool true]):=by
 go_enter func50,ntmps50;go_wp2_with fail;refine Ω (o _ (Mem.b3 w).ext) fun w1 s=>?_
 have M1:=((Mem.b3 w).adv s)
 clear s o;have h:=(M1.bk 2).ten;go_wp2_with fail;clear h;refine(HL _ M1.ext).mono ?_;rintro e w2 ⟨p1,r,q1,d,rfl,ho,hq,hx⟩;have M2:=(M1.own2 hx ho hq (aVz _) (by decide))
 clear M1 hx ho hq;have j:=M2.hi 3;have k:=M2.hi 4;have h:=(M2.bk 4).ten;have x:=(M2.bk 3).tri;go_wp2_with fail;clear h x;refine(HP _ (M2.c0 aN #[aA,aB,.slice p1 n r,a,b,aE,aF,aD,aG,.slice q1 m d]).ext).mono ?_;rintro e w3 ⟨p5,c,rfl,ho,hx⟩;have M3:=((M2.c0 aN #[aA,aB,.slice p1 n r,a,b,aE,aF,aD,aG,.slice q1 m d]).call hx ho)
 clear M2 j k hx ho HP HL;have l:=M3.hi 1;have d_:=(M3.bk 1).tenf;have M4:=(((M3.st 1 0 (I aA)).st 1 1 (I aB)).st 1 2 (.slice p5 n c))
 go_upto_region 32 with fail;clear d_ l;have M5:=(M4)
 generalize f:World.setCell _ _ _=w4;rw[f]at M5;clear f M3 M4;have M6:=(M5.adv ((Ext.refl _).alloc (.cells #[aA,aB,.slice p5 n c] TH3)))
 generalize (w4.alloc (.cells #[aA,aB,.slice p5 n c] TH3))=w5 at M6⊢;clear M5;have e_:=(M6.bk 1).ten;have f_:=(M6.bk 4).tenf;go_wp2;clear e_ f_;have M7:=(M6.put10 (i:=4) rfl (I aA) (I aB) (.slice p5 n c) (I a) (I b) (I aE) (I aF) (I aD) (I aG) (.slice q1 m d))
 generalize f:World.setCell _ _ _=wz;rw[f]at M7;clear f M6;have y_:=(M7.bk 4).ten;exact aYw (v:= .tuple #[.agg #[aA,aB,.slice p5 n c,a,b,aE,aF,aD,aG,.slice q1 m d],(),.bool true]) ⟨p5,c,q1,d,rfl,(M7.ow 0),(M7.ow 3),M7.ext⟩
theorem aAh (x y:Int)(p:OA)(n d:Nat)(q:OA)(m c2:Nat)(xs ys:List Int)(vs:List aV)(w:World)(l:xB 11 #[.agg #[aA,aB,.slice p n d,a,b,aE,aF,aD,aG,.slice q m c2]] w true)(HL:xC 49 #[.agg #[aA,aB,.slice p n d,a,b,aE,aF,aD,aG,.slice q m c2]] w fun w' e w''=> ∃p' cap' q' c2',e= .returned (.agg #[aA,aB,.slice p' n cap',a,b,aE,aF,aD,aG,.slice q' m c2'])∧w''.ownsRow w' TI 1 (.slice p' n cap') n (ivs xs)∧w''.ownsRow w' TV 4 (.slice q' m c2') m (vs.flatMap aC)∧Ext w' w'')(HP:xC 94 #[aH aA aB p n d,eV x y] w fun w' e w''=> ∃p' cap',e= .returned (.tuple #[aH aA aB p' n cap',.bool false])∧w''.ownsRow w' TI 1 (.slice p' n cap') n (ivs ys)∧Ext w' w''):
  U 50 #[.agg #[aA,aB,.slice p n d,a,b,aE,aF,aD,aG,.slice q m c2],.agg #[I 4,x,y]] w (aYz w n (ivs xs) m (vs.flatMap aC) w fun p' cap' q' c2'=> .tuple #[.agg #[aA,aB,.slice p' n cap',a,b,aE,aF,aD,aG,.slice q' m c2'],(-1:Int),.bool false]):=by
 go_enter func50,ntmps50;go_wp2_with fail;refine Ω (l _ (Mem.b3 w).ext) fun w1 u=>?_
 have M1:=((Mem.b3 w).adv u)
 clear u l;have c:=(M1.bk 2).ten;go_wp2_with fail;clear c;refine(HL _ M1.ext).mono ?_;rintro e w2 ⟨p1,o,q1,s,rfl,ho,hq,hx⟩;have M2:=(M1.own2 hx ho hq (aVz _) (by decide))
 clear M1 hx ho hq;have h:=M2.hi 3;have j:=M2.hi 4;have c:=(M2.bk 4).ten;have z:=(M2.bk 3).tri;go_wp2_with fail;clear c z;refine(HP _ (M2.c0 aN #[aA,aB,.slice p1 n o,a,b,aE,aF,aD,aG,.slice q1 m s]).ext).mono ?_;rintro e w3 ⟨p5,r,rfl,ho,hx⟩;have M3:=((M2.c0 aN #[aA,aB,.slice p1 n o,a,b,aE,aF,aD,aG,.slice q1 m s]).call hx ho)
 clear M2 h j hx ho HP;have k:=M3.hi 6;have c:=(M3.bk 6).ten;go_wp2_with fail;clear c;refine(HL _ (M3.c0 TH3 #[aA,aB,.slice p5 n r]).ext).mono ?_;rintro e w9 ⟨p9,f,q9,g,rfl,ho,hq,hx⟩;have M4:=((M3.c0 TH3 #[aA,aB,.slice p5 n r]).own2 hx ho hq (aVz _) (by decide))
 clear M3 k hx ho hq HL;have f_:=(M4.bk 7).tenf;go_wp2;clear f_;have M5:=(M4.put10 (i:=7) rfl (I aA) (I aB) (.slice p9 n f) (I a) (I b) (I aE) (I aF) (I aD) (I aG) (.slice q9 m g))
 generalize t:World.setCell _ _ _=wz;rw[t]at M5;clear t M4;have y_:=(M5.bk 7).ten;exact aYw (v:= .tuple #[.agg #[aA,aB,.slice p9 n f,a,b,aE,aF,aD,aG,.slice q9 m g],(-1:Int),.bool false]) ⟨p9,f,q9,g,rfl,(M5.ow 0),(M5.ow 1),M5.ext⟩
theorem yN (b ai aw:Int)(p:OA)(n k:Nat)(q:OA)(m c2:Nat)(xs ys:List Int)(vs ao:List aV)(w:World)(h0:0≤b)(aj:xB 11 #[.agg #[aA,aB,.slice p n k,a,c,aE,aF,aD,aG,.slice q m c2]] w true)(HL:xC 49 #[.agg #[aA,aB,.slice p n k,a,c,aE,aF,aD,aG,.slice q m c2]] w fun w' e w''=> ∃p' cap' q' c2',e= .returned (.agg #[aA,aB,.slice p' n cap',a,c,aE,aF,aD,aG,.slice q' m c2'])∧w''.ownsRow w' TI 1 (.slice p' n cap') n (ivs xs)∧w''.ownsRow w' TV 4 (.slice q' m c2') m (vs.flatMap aC)∧Ext w' w'')(HP:xC 88 #[aH aA aB p n k,ai] w fun w' e w''=> ∃p' cap',e= .returned (.tuple #[aH aA aB p' n cap',b])∧w''.ownsRow w' TI 1 (.slice p' n cap') n (ivs ys)∧Ext w' w'')(HQ:xC 89 #[.slice q m c2,.agg #[ai,aD,(),aD]] w fun w' e w''=> ∃q' c',e= .returned (.slice q' (m+1) c')∧w''.ownsRow w' TV 4 (.slice q' (m+1) c') (m+1) (ao.flatMap aC)∧Ext w' w''):
  U 50 #[.agg #[aA,aB,.slice p n k,a,c,aE,aF,aD,aG,.slice q m c2],.agg #[(),ai,aw]] w (aYz w n (ivs ys) (m+1) (ao.flatMap aC) w fun p' cap' q' c2'=> .tuple #[.agg #[aA,aB,.slice p' n cap',a,c,aE,aF,aD,aG,.slice q' (m+1) c2'],b,.bool true]):=by
 go_enter func50,ntmps50;go_wp2_with fail;refine Ω (aj _ (Mem.b3 w).ext) fun w1 an=>?_
 have M1:=((Mem.b3 w).adv an)
 clear an aj;obtain⟨r,s,t,u,x,y,z,h,aa,j⟩:=(M1.bk 2).ten;go_wp2_with fail;clear r s t u x y z h aa j;refine(HL _ M1.ext).mono ?_;rintro e w2 ⟨p1,ak,q1,al,rfl,ho,hq,hx⟩;have M2:=(M1.own2 hx ho hq (aVz _) (by decide))
 clear M1 hx ho hq;have ad:=M2.hi 3;have ae:=M2.hi 4;obtain⟨r,s,t,u,x,y,z,h,aa,j⟩:=(M2.bk 4).ten;obtain⟨ap,ab,aq⟩:=(M2.bk 3).tri;go_wp2_with fail;clear r s t u x y z h aa j ap ab aq;refine(HP _ (M2.c0 aN #[aA,aB,.slice p1 n ak,a,c,aE,aF,aD,aG,.slice q1 m al]).ext).mono ?_;rintro e w3 ⟨p5,g,rfl,ho,hx⟩;have M3:=((M2.c0 aN #[aA,aB,.slice p1 n ak,a,c,aE,aF,aD,aG,.slice q1 m al]).call hx ho)
 clear M2 ad ae hx ho HP HL;have af:=M3.hi 1;have ag:=M3.hi 5;have ah:=M3.hi 6;have d0:=(M3.bk 1).cl 0;have ar:=(M3.bk 1).frozen 0;have d1:=(M3.bk 1).cl 1;have au:=(M3.bk 1).frozen 1;have d2:=(M3.bk 1).cl 2;have av:=(M3.bk 1).frozen 2;have h:=(M3.bk 6).cl 7;have j:=(M3.bk 6).cl 9;have ab:=(M3.bk 5).cl 1;obtain⟨d,f⟩:=M3.nq 5 6;obtain⟨l,o⟩:=M3.nq 1 5;have hd:=aYu (b<0);have M4:=(((M3.st 1 0 (I aA)).st 1 1 (I aB)).st 1 2 (.slice p5 n g))
 go_wp2_with fail;clear d0 ar d1 au d2 av h j ab d f l o;refine(HQ _ (M4.adv ((Ext.refl _).alloc (.cells #[aA,aB,.slice p5 n g] TH3))).ext).mono ?_;rintro e w4 ⟨q7,c7,rfl,ho,hx⟩;have M5:=((M4.adv ((Ext.refl _).alloc (.cells #[aA,aB,.slice p5 n g] TH3))).call hx ho)
 clear M3 af ag ah hx ho HQ;have e_:=(M5.bk 2).tenf;have f_:=(M5.bk 5).tenf;obtain⟨d,f⟩:=M5.nq 2 5;have M6:=(M5.st 2 9 (.slice q7 (m+1) c7))
 go_wp2;clear e_ f_ d f;have M7:=(M6.put10 (i:=5) rfl (I aA) (I aB) (.slice p5 n g) (I a) (I c) (I aE) (I aF) (I aD) (I aG) (.slice q7 (m+1) c7))
 generalize am:World.setCell _ _ _=wz;rw[am]at M7;clear am M5 M4 M6;have y_:=(M7.bk 5).ten;exact aYw (v:= .tuple #[.agg #[aA,aB,.slice p5 n g,a,c,aE,aF,aD,aG,.slice q7 (m+1) c7],b,.bool true]) ⟨p5,g,q7,c7,rfl,(M7.ow 1),(M7.ow 0),M7.ext⟩
theorem aAg (c y aa:Int)(p:OA)(n f:Nat)(q:OA)(m c2:Nat)(xs ys:List Int)(vs:List aV)(w:World)(h0:c<0)(o:xB 11 #[.agg #[aA,aB,.slice p n f,a,b,aE,aF,aD,aG,.slice q m c2]] w true)(HL:xC 49 #[.agg #[aA,aB,.slice p n f,a,b,aE,aF,aD,aG,.slice q m c2]] w fun w' e w''=> ∃p' cap' q' c2',e= .returned (.agg #[aA,aB,.slice p' n cap',a,b,aE,aF,aD,aG,.slice q' m c2'])∧w''.ownsRow w' TI 1 (.slice p' n cap') n (ivs xs)∧w''.ownsRow w' TV 4 (.slice q' m c2') m (vs.flatMap aC)∧Ext w' w'')(HP:xC 88 #[aH aA aB p n f,y] w fun w' e w''=> ∃p' cap',e= .returned (.tuple #[aH aA aB p' n cap',c])∧w''.ownsRow w' TI 1 (.slice p' n cap') n (ivs ys)∧Ext w' w''):
  U 50 #[.agg #[aA,aB,.slice p n f,a,b,aE,aF,aD,aG,.slice q m c2],.agg #[(),y,aa]] w (aYz w n (ivs xs) m (vs.flatMap aC) w fun p' cap' q' c2'=> .tuple #[.agg #[aA,aB,.slice p' n cap',a,b,aE,aF,aD,aG,.slice q' m c2'],(-1:Int),.bool false]):=by
 go_enter func50,ntmps50;go_wp2_with fail;refine Ω (o _ (Mem.b3 w).ext) fun w1 x=>?_
 have M1:=((Mem.b3 w).adv x)
 clear x o;have d:=(M1.bk 2).ten;go_wp2_with fail;clear d;refine(HL _ M1.ext).mono ?_;rintro e w2 ⟨p1,r,q1,t,rfl,ho,hq,hx⟩;have M2:=(M1.own2 hx ho hq (aVz _) (by decide))
 clear M1 hx ho hq;have j:=M2.hi 3;have k:=M2.hi 4;have d:=(M2.bk 4).ten;have z:=(M2.bk 3).tri;go_wp2_with fail;clear d z;refine(HP _ (M2.c0 aN #[aA,aB,.slice p1 n r,a,b,aE,aF,aD,aG,.slice q1 m t]).ext).mono ?_;rintro e w3 ⟨p5,s,rfl,ho,hx⟩;have M3:=((M2.c0 aN #[aA,aB,.slice p1 n r,a,b,aE,aF,aD,aG,.slice q1 m t]).call hx ho)
 clear M2 j k hx ho HP;have l:=M3.hi 6;have ab:=aYu (0≤c);have d:=(M3.bk 6).ten;go_wp2_with fail;clear d;refine(HL _ (M3.c0 TH3 #[aA,aB,.slice p5 n s]).ext).mono ?_;rintro e w9 ⟨p9,g,q9,h,rfl,ho,hq,hx⟩;have M4:=((M3.c0 TH3 #[aA,aB,.slice p5 n s]).own2 hx ho hq (aVz _) (by decide))
 clear M3 l hx ho hq HL;have f_:=(M4.bk 7).tenf;go_wp2;clear f_;have M5:=(M4.put10 (i:=7) rfl (I aA) (I aB) (.slice p9 n g) (I a) (I b) (I aE) (I aF) (I aD) (I aG) (.slice q9 m h))
 generalize u:World.setCell _ _ _=wz;rw[u]at M5;clear u M4;have y_:=(M5.bk 7).ten;exact aYw (v:= .tuple #[.agg #[aA,aB,.slice p9 n g,a,b,aE,aF,aD,aG,.slice q9 m h],(-1:Int),.bool false]) ⟨p9,g,q9,h,rfl,(M5.ow 0),(M5.ow 1),M5.ext⟩
theorem aAi (d ix l af:Int)(p:OA)(n h:Nat)(q:OA)(m c2:Nat)(xs ys:List Int)(vs:List aV)(w:World)(mb:Bool)(ae:mb=true→d<0)(u:xB 11 #[.agg #[aA,aB,.slice p n h,a,b,aE,aF,aD,aG,.slice q m c2]] w true)(HL:xC 49 #[.agg #[aA,aB,.slice p n h,a,b,aE,aF,aD,aG,.slice q m c2]] w fun w' e w''=> ∃p' cap' q' c2',e= .returned (.agg #[aA,aB,.slice p' n cap',a,b,aE,aF,aD,aG,.slice q' m c2'])∧w''.ownsRow w' TI 1 (.slice p' n cap') n (ivs xs)∧w''.ownsRow w' TV 4 (.slice q' m c2') m (vs.flatMap aC)∧Ext w' w'')(HP:xC 91 #[aH aA aB p n h,l] w fun w' e w''=> ∃p' cap',e= .returned (.tuple #[aH aA aB p' n cap',d])∧w''.ownsRow w' TI 1 (.slice p' n cap') n (ivs ys)∧Ext w' w'')(HF:xC 92 #[.agg #[aA,aB,.slice p n h,a,b,aE,aF,aD,aG,.slice q m c2],l] w fun w' e w''=>e= .returned (I (ix))∧Ext w' w'')(HM:xB 93 #[.agg #[aA,aB,.slice p n h,a,b,aE,aF,aD,aG,.slice q m c2],l] w mb):
  U 50 #[.agg #[aA,aB,.slice p n h,a,b,aE,aF,aD,aG,.slice q m c2],.agg #[I 2,l,af]] w (aYz w n (ivs xs) m (vs.flatMap aC) w fun p' cap' q' c2'=> .tuple #[.agg #[aA,aB,.slice p' n cap',a,b,aE,aF,aD,aG,.slice q' m c2'],(-1:Int),.bool false]):=by
 go_enter func50,ntmps50;go_wp2_with fail;refine Ω (u _ (Mem.b3 w).ext) fun w1 aa=>?_
 have M1:=((Mem.b3 w).adv aa)
 clear aa u;have c:=(M1.bk 2).ten;go_wp2_with fail;clear c;refine(HL _ M1.ext).mono ?_;rintro e w2 ⟨p1,x,q1,z,rfl,ho,hq,hx⟩;have M2:=(M1.own2 hx ho hq (aVz _) (by decide))
 clear M1 hx ho hq;have o:=M2.hi 3;have r:=M2.hi 4;have c:=(M2.bk 4).ten;have j:=(M2.bk 3).tri;go_wp2_with fail;clear c j;refine(HP _ (M2.c0 aN #[aA,aB,.slice p1 n x,a,b,aE,aF,aD,aG,.slice q1 m z]).ext).mono ?_;rintro e w3 ⟨p5,y,rfl,ho,hx⟩;have M3:=((M2.c0 aN #[aA,aB,.slice p1 n x,a,b,aE,aF,aD,aG,.slice q1 m z]).call hx ho)
 clear M2 o r hx ho HP;have s:=M3.hi 5;have t:=M3.hi 6;have c:=(M3.bk 6).ten;have j:=(M3.bk 5).tri;go_wp2_with fail;clear c j;refine Ω (HF _ (M3.c0 TH3 #[aA,aB,.slice p5 n y]).ext) fun w4 ab=>?_
 have M4:=((M3.c0 TH3 #[aA,aB,.slice p5 n y]).adv ab)
 clear M3 s t ab HF;have c:=(M4.bk 7).ten;have j:=(M4.bk 6).tri;go_wp2_with fail;clear c j;refine Ω (HM _ M4.ext) fun w5 ad=>?_
 have M5:=(M4.adv ad)
 clear M4 ad HM;cases mb with
 |true=>
   have ag:decide (0≤d)=false:=by simp;have:=ae rfl;omega
   have c:=(M5.bk 7).ten;go_wp2_with fail;clear c;refine(HL _ M5.ext).mono ?_;rintro e w9 ⟨p9,f,q9,g,rfl,ho,hq,hx⟩;have M6:=(M5.own2 hx ho hq (aVz _) (by decide))
   clear M5 hx ho hq HL;have f_:=(M6.bk 7).tenf;go_wp2;clear f_;have M7:=(M6.put10 (i:=7) rfl (I aA) (I aB) (.slice p9 n f) (I a) (I b) (I aE) (I aF) (I aD) (I aG) (.slice q9 m g))
   generalize k:World.setCell _ _ _=wz;rw[k]at M7;clear k M6;have y_:=(M7.bk 7).ten;exact aYw (v:= .tuple #[.agg #[aA,aB,.slice p9 n f,a,b,aE,aF,aD,aG,.slice q9 m g],(-1:Int),.bool false]) ⟨p9,f,q9,g,rfl,(M7.ow 0),(M7.ow 1),M7.ext⟩
 |false=>
   have c:=(M5.bk 7).ten;go_wp2_with fail;clear c;refine(HL _ M5.ext).mono ?_;rintro e w9 ⟨p9,f,q9,g,rfl,ho,hq,hx⟩;have M6:=(M5.own2 hx ho hq (aVz _) (by decide))
   clear M5 hx ho hq HL;have f_:=(M6.bk 7).tenf;go_wp2;clear f_;have M7:=(M6.put10 (i:=7) rfl (I aA) (I aB) (.slice p9 n f) (I a) (I b) (I aE) (I aF) (I aD) (I aG) (.slice q9 m g))
   generalize k:World.setCell _ _ _=wz;rw[k]at M7;clear k M6;have y_:=(M7.bk 7).ten;exact aYw (v:= .tuple #[.agg #[aA,aB,.slice p9 n f,a,b,aE,aF,aD,aG,.slice q9 m g],(-1:Int),.bool false]) ⟨p9,f,q9,g,rfl,(M7.ow 0),(M7.ow 1),M7.ext⟩
theorem aHz {w:World}{b c n a k:Nat}{vs:List aV}(h:Sl w (some ⟨b,c,none⟩) n a 4 (vs.flatMap aC))(hk:k≤n):Sl w (some ⟨b,c,none⟩) k a 4 ((vs.take k).flatMap aC):=by
 have hl:=h.len;have f:=h.le;have g:=h.mx;have e:(vs.take k).flatMap aC=(vs.flatMap aC).take (k*4):=by
  have h1:vs.flatMap aC=(vs.take k).flatMap aC++(vs.drop k).flatMap aC:=by rw[←aX4,List.take_append_drop]
  have h2:vs.length=n:=by rw[eC aC 4 (fun _=>rfl)]at hl;omega
  have h3:((vs.take k).flatMap aC).length=k*4:=by rw[eC aC 4 (fun _=>rfl),aWn];omega
  rw[h1,←h3,List.take_left]
 rw[e];refine⟨by rw[aWn,hl];omega,by omega,by omega,fun h0=> ?_⟩;obtain⟨b',d,e,hb,hc⟩:=h.rd (by omega);injection e with e;injection e with e1 e2;subst e1 e2;refine⟨_,_,rfl,hb,fun j hj=> ?_⟩;rw[hc j (by omega),List.getElem?_take,if_pos hj]
theorem yP (b h m c2 k:Nat)(xs ys:List Int)(vs:List aV)(w:World)(h0:0≤f)(hk:k<m)(hm:m≤1000)(az:k+1<c2)(HS:Hid (Sl w (some ⟨b,h,none⟩) m c2 4 (vs.flatMap aC)))(al:xB 11 #[.agg #[aA,aB,.slice p n g,a,c,aE,aF,aD,aG,.slice (some ⟨b,h,none⟩) m c2]] w true)(HL:xC 49 #[.agg #[aA,aB,.slice p n g,a,c,aE,aF,aD,aG,.slice (some ⟨b,h,none⟩) m c2]] w fun w' e w''=> ∃p' cap' q' c2',e= .returned (.agg #[aA,aB,.slice p' n cap',a,c,aE,aF,aD,aG,.slice q' m c2'])∧w''.ownsRow w' TI 1 (.slice p' n cap') n (ivs xs)∧w''.ownsRow w' TV 4 (.slice q' m c2') m (vs.flatMap aC)∧Ext w' w'')(HP:xC 91 #[aH aA aB p n g,o] w fun w' e w''=> ∃p' cap',e= .returned (.tuple #[aH aA aB p' n cap',f])∧w''.ownsRow w' TI 1 (.slice p' n cap') n (ivs ys)∧Ext w' w'')(HF:xC 92 #[.agg #[aA,aB,.slice p n g,a,c,aE,aF,aD,aG,.slice (some ⟨b,h,none⟩) m c2],o] w fun w' e w''=>e= .returned (I k)∧Ext w' w'')(HM:xB 93 #[.agg #[aA,aB,.slice p n g,a,c,aE,aF,aD,aG,.slice (some ⟨b,h,none⟩) m c2],o] w true):
  U 50 #[.agg #[aA,aB,.slice p n g,a,c,aE,aF,aD,aG,.slice (some ⟨b,h,none⟩) m c2],.agg #[I 2,o,ag]] w (aYz w n (ivs ys) (m-1) ((vs.take k++vs.drop (k+1)).flatMap aC) w fun p' cap' q' c2'=> .tuple #[.agg #[aA,aB,.slice p' n cap',a,c,aE,aF,aD,aG,.slice q' (m-1) c2'],f,.bool true]):=by
 go_enter func50,ntmps50;go_wp2_with fail;refine Ω (al _ (Mem.b3 w).ext) fun w1 ao=>?_
 have M1:=((Mem.b3 w).adv ao)
 clear ao al;obtain⟨q,r,s,t,u,x,y,z,aa,j⟩:=(M1.bk 2).ten;go_wp2_with fail;clear q r s t u x y z aa j;refine(HL _ M1.ext).mono ?_;rintro e w2 ⟨p1,ad,q1,l,rfl,ho,hq,hx⟩;have M2:=(M1.own2 hx ho hq (aVz _) (by decide))
 clear M1 hx ho hq;have ah:=M2.hi 3;have ai:=M2.hi 4;obtain⟨q,r,s,t,u,x,y,z,aa,j⟩:=(M2.bk 4).ten;have ae:=(M2.bk 3).tri;go_wp2_with fail;clear q r s t u x y z aa j ae;refine(HP _ (M2.c0 aN #[aA,aB,.slice p1 n ad,a,c,aE,aF,aD,aG,.slice q1 m l]).ext).mono ?_;rintro e w3 ⟨p5,d,rfl,ho,hx⟩;have M3:=((M2.c0 aN #[aA,aB,.slice p1 n ad,a,c,aE,aF,aD,aG,.slice q1 m l]).call hx ho)
 clear M2 ah ai hx ho HP;have aj:=M3.hi 5;have ak:=M3.hi 6;obtain⟨q,r,s,t,u,x,y,z,aa,j⟩:=(M3.bk 6).ten;have ae:=(M3.bk 5).tri;go_wp2_with fail;clear q r s t u x y z aa j ae;refine Ω (HF _ (M3.c0 TH3 #[aA,aB,.slice p5 n d]).ext) fun w4 ap=>?_
 have M4:=((M3.c0 TH3 #[aA,aB,.slice p5 n d]).adv ap)
 clear M3 aj ak ap HF;obtain⟨q,r,s,t,u,x,y,z,aa,j⟩:=(M4.bk 7).ten;have ae:=(M4.bk 6).tri;go_wp2_with fail;clear q r s t u x y z aa j ae;refine Ω (HM _ M4.ext) fun w5 aq=>?_
 have M5:=(M4.adv aq)
 clear M4 aq HM;have hd:=aYu (f<0);clear HL;have d_:=(M5.bk 2).tenf;have av:=(M5.bk 0).tri;go_upto_region 22 with fail;clear d_ av;have M6:=(((M5.st 2 0 (I aA)).st 2 1 (I aB)).st 2 2 (.slice p5 n d))
 generalize af:World.setCell _ _ _=w6;rw[af]at M6;clear af M5;have ab:=M6.hi 7;have j:=(M6.bk 7).cl 9;have d_:=(M6.bk 2).tenf;have i1:=aYp k;have i3:=aYr k c2;have i4:(k:Int)+1≤(m:Int):=by omega
 have i5:(0:Int)≤(k:Int)+1:=by omega
 have i6:((k:Int)+1).toNat=k+1:=by omega
 have i7:=aYs ((k:Int)+1);have au: ¬c2=k+1:=by omega
 have ar: ¬c2=0:=by omega
 go_cut [] (fun wx=> ∃(q9:OA) (c9:Nat),Mem w wx [aJ w TV 4 (q9) (m-1) (c9) ((vs.take k++vs.drop (k+1)).flatMap aC),aI w w3 TH3 #[aA,aB,.slice p5 n d],aJ w TI 1 (p5) (n) (d) (ivs ys),aI w w2 aN #[aA,aB,.slice p5 n d,a,c,aE,aF,aD,aG,.slice q9 (m-1) c9],aJ w TI 1 (p1) (n) (ad) (ivs xs),aJ w TV 4 (q1) (m) (l) (vs.flatMap aC),aI w (w.heap.size+1+1) aN #[(),(),((),()),(),(),(),(),(),(),((),())],aI w (w.heap.size+1) THD #[I 2,o,ag],aI w w aN #[aA,aB,.slice p n g,a,c,aE,aF,aD,aG,.slice (some ⟨b,h,none⟩) m c2]])
 case first=>
  go_region_law ((first
   |(refine jX zF (by rfl) _ _ (by rfl) (by first|exact M6.made0 TV 4 w6 (by simp)|exact(M6.made0 TV 4 w6 (by simp)).adv (by exact .drew (.refl _))|exact(M6.adv xE).made0 TV 4 w6 (by simp)) 0 (by rfl) (by rfl) ((vs.take k).flatMap aC) (by rfl) (aHz (HS.out.ext (M6.ext.trans (by exact .drew (.alloc (.refl _) _)))) (by omega)) (gE _) (by omega) ?_
     intro q7 c7 w7 am;have M7:=(show Mem w w7 [aJ w TV 4 (q7) (k) (c7) ((vs.take k).flatMap aC),aI w w3 TH3 #[aA,aB,.slice p5 n d],aJ w TI 1 (p5) (n) (d) (ivs ys),aI w w2 aN #[aA,aB,.slice p5 n d,a,c,aE,aF,aD,aG,.slice q1 m l],aJ w TI 1 (p1) (n) (ad) (ivs xs),aJ w TV 4 (q1) (m) (l) (vs.flatMap aC),aI w (w.heap.size+1+1) aN #[(),(),((),()),(),(),(),(),(),(),((),())],aI w (w.heap.size+1) THD #[I 2,o,ag],aI w w aN #[aA,aB,.slice p n g,a,c,aE,aF,aD,aG,.slice (some ⟨b,h,none⟩) m c2]]from by simpa only[aWe,aWz,aXz]using am)
     clear am;have ax:=(M7.bk 8).cl 9
     have ay:(w2:Nat)<w7:=(M7.hi 3))
   |(refine jX zF (by rfl) _ _ (by rfl) (M7.adv (by exact .refl _)) 0 (by rfl) (by rfl) ((vs.drop (k+1)).flatMap aC) (by rfl) (nA (k+1) vs▸wR (HS.out.ext (M7.ext.trans (by exact .refl _))) (by omega)) (gE _) (by omega) ?_
     intro q9 c9 w9 an;have M9:=(show Mem w w9 [aJ w TV 4 (q9) (k+(m-(k+1))) (c9) ((vs.take k).flatMap aC++(vs.drop (k+1)).flatMap aC),aI w w3 TH3 #[aA,aB,.slice p5 n d],aJ w TI 1 (p5) (n) (d) (ivs ys),aI w w2 aN #[aA,aB,.slice p5 n d,a,c,aE,aF,aD,aG,.slice q1 m l],aJ w TI 1 (p1) (n) (ad) (ivs xs),aJ w TV 4 (q1) (m) (l) (vs.flatMap aC),aI w (w.heap.size+1+1) aN #[(),(),((),()),(),(),(),(),(),(),((),())],aI w (w.heap.size+1) THD #[I 2,o,ag],aI w w aN #[aA,aB,.slice p n g,a,c,aE,aF,aD,aG,.slice (some ⟨b,h,none⟩) m c2]]from an)
     clear an;have a0:=(M9.bk 3).cl 9;have aw:=(M9.bk 3).frozen 9
     have a1:(w2:Nat)<w9:=(M9.hi 3))))
  all_goals (
   have e1:k+(m-(k+1))=m-1:=by omega
   have e2:(vs.take k).flatMap aC++(vs.drop (k+1)).flatMap aC=(vs.take k++vs.drop (k+1)).flatMap aC:=by simp
   have MZ:=(show Mem w w9 [aJ w TV 4 (q9) (m-1) (c9) ((vs.take k++vs.drop (k+1)).flatMap aC),aI w w3 TH3 #[aA,aB,.slice p5 n d],aJ w TI 1 (p5) (n) (d) (ivs ys),aI w w2 aN #[aA,aB,.slice p5 n d,a,c,aE,aF,aD,aG,.slice q1 m l],aJ w TI 1 (p1) (n) (ad) (ivs xs),aJ w TV 4 (q1) (m) (l) (vs.flatMap aC),aI w (w.heap.size+1+1) aN #[(),(),((),()),(),(),(),(),(),(),((),())],aI w (w.heap.size+1) THD #[I 2,o,ag],aI w w aN #[aA,aB,.slice p n g,a,c,aE,aF,aD,aG,.slice (some ⟨b,h,none⟩) m c2]]from by have:=M9;rw[e2]at this;simpa only[e1]using this)
   clear e2 M9 M7)
  all_goals go_wp2_with fail
  all_goals go_meet
  all_goals exact⟨q9,c9,by first|exact(MZ.store (i:=3) rfl 9 (.slice q9 (m-1) c9))|(simp only[e1];exact(MZ.store (i:=3) rfl 9 (.slice q9 (m-1) c9)))⟩
 case rest=>
  obtain⟨q9,c9,MC⟩:=hcut;have MC:=xQ MC;clear M6 i1 i3 i4 i5 i6 i7 au ar j d_ ab;have ab:w.heap.size+1<wc.heap.size:=(MC.out.hi 7)
  obtain⟨e0,e1,e2,e3,e4,e5,e6,e7,e8,e9⟩:=(MC.out.bk 3).ten;have f_:=(MC.out.bk 6).tenf;go_upto_region 33 with fail;go_wp2;clear e0 e1 e2 e3 e4 e5 e6 e7 e8 e9 f_ ab;have M7:=(MC.out.put10 (i:=6) rfl (I aA) (I aB) (.slice p5 n d) (I a) (I c) (I aE) (I aF) (I aD) (I aG) (.slice q9 (m-1) c9))
  generalize af:World.setCell _ _ _=wz;rw[af]at M7;clear af MC;have y_:=(M7.bk 6).ten;exact aYw (v:= .tuple #[.agg #[aA,aB,.slice p5 n d,a,c,aE,aF,aD,aG,.slice q9 (m-1) c9],f,.bool true]) ⟨p5,d,q9,c9,rfl,(M7.ow 2),(M7.ow 0),M7.ext⟩
theorem wO (b j k:Nat)(xs ys:List Int)(vs:List aV)(w:World)(h0:0≤f)(hm:(k+1)≤1000)(ar:Hid (vs.drop (k+1)= []))(HS:Hid (Sl w (some ⟨b,j,none⟩) (k+1) (k+1) 4 (vs.flatMap aC)))(al:xB 11 #[.agg #[aA,aB,.slice p n g,a,c,aE,aF,aD,aG,.slice (some ⟨b,j,none⟩) (k+1) (k+1)]] w true)(HL:xC 49 #[.agg #[aA,aB,.slice p n g,a,c,aE,aF,aD,aG,.slice (some ⟨b,j,none⟩) (k+1) (k+1)]] w fun w' e w''=> ∃p' cap' q' c2',e= .returned (.agg #[aA,aB,.slice p' n cap',a,c,aE,aF,aD,aG,.slice q' (k+1) c2'])∧w''.ownsRow w' TI 1 (.slice p' n cap') n (ivs xs)∧w''.ownsRow w' TV 4 (.slice q' (k+1) c2') (k+1) (vs.flatMap aC)∧Ext w' w'')(HP:xC 91 #[aH aA aB p n g,o] w fun w' e w''=> ∃p' cap',e= .returned (.tuple #[aH aA aB p' n cap',f])∧w''.ownsRow w' TI 1 (.slice p' n cap') n (ivs ys)∧Ext w' w'')(HF:xC 92 #[.agg #[aA,aB,.slice p n g,a,c,aE,aF,aD,aG,.slice (some ⟨b,j,none⟩) (k+1) (k+1)],o] w fun w' e w''=>e= .returned (I k)∧Ext w' w'')(HM:xB 93 #[.agg #[aA,aB,.slice p n g,a,c,aE,aF,aD,aG,.slice (some ⟨b,j,none⟩) (k+1) (k+1)],o] w true):
  U 50 #[.agg #[aA,aB,.slice p n g,a,c,aE,aF,aD,aG,.slice (some ⟨b,j,none⟩) (k+1) (k+1)],.agg #[I 2,o,ag]] w (aYz w n (ivs ys) (k) ((vs.take k++vs.drop (k+1)).flatMap aC) w fun p' cap' q' c2'=> .tuple #[.agg #[aA,aB,.slice p' n cap',a,c,aE,aF,aD,aG,.slice q' (k) c2'],f,.bool true]):=by
 go_enter func50,ntmps50;go_wp2_with fail;refine Ω (al _ (Mem.b3 w).ext) fun w1 ao=>?_
 have M1:=((Mem.b3 w).adv ao)
 clear ao al;obtain⟨q,r,s,t,u,x,y,z,aa,l⟩:=(M1.bk 2).ten;go_wp2_with fail;clear q r s t u x y z aa l;refine(HL _ M1.ext).mono ?_;rintro e w2 ⟨p1,ad,q1,m,rfl,ho,hq,hx⟩;have M2:=(M1.own2 hx ho hq (aVz _) (by decide))
 clear M1 hx ho hq;have ah:=M2.hi 3;have ai:=M2.hi 4;obtain⟨q,r,s,t,u,x,y,z,aa,l⟩:=(M2.bk 4).ten;have ae:=(M2.bk 3).tri;go_wp2_with fail;clear q r s t u x y z aa l ae;refine(HP _ (M2.c0 aN #[aA,aB,.slice p1 n ad,a,c,aE,aF,aD,aG,.slice q1 (k+1) m]).ext).mono ?_;rintro e w3 ⟨p5,d,rfl,ho,hx⟩;have M3:=((M2.c0 aN #[aA,aB,.slice p1 n ad,a,c,aE,aF,aD,aG,.slice q1 (k+1) m]).call hx ho)
 clear M2 ah ai hx ho HP;have aj:=M3.hi 5;have ak:=M3.hi 6;obtain⟨q,r,s,t,u,x,y,z,aa,l⟩:=(M3.bk 6).ten;have ae:=(M3.bk 5).tri;go_wp2_with fail;clear q r s t u x y z aa l ae;refine Ω (HF _ (M3.c0 TH3 #[aA,aB,.slice p5 n d]).ext) fun w4 ap=>?_
 have M4:=((M3.c0 TH3 #[aA,aB,.slice p5 n d]).adv ap)
 clear M3 aj ak ap HF;obtain⟨q,r,s,t,u,x,y,z,aa,l⟩:=(M4.bk 7).ten;have ae:=(M4.bk 6).tri;go_wp2_with fail;clear q r s t u x y z aa l ae;refine Ω (HM _ M4.ext) fun w5 aq=>?_
 have M5:=(M4.adv aq)
 clear M4 aq HM;have hd:=aYu (f<0);clear HL;have d_:=(M5.bk 2).tenf;have au:=(M5.bk 0).tri;go_upto_region 22 with fail;clear d_ au;have M6:=(((M5.st 2 0 (I aA)).st 2 1 (I aB)).st 2 2 (.slice p5 n d))
 generalize af:World.setCell _ _ _=w6;rw[af]at M6;clear af M5;have ab:=M6.hi 7;have l:=(M6.bk 7).cl 9;have d_:=(M6.bk 2).tenf;have i1:=aYp k;have i2:(k:Int)≤((k+1):Int):=by omega
 have i5:(0:Int)≤(k:Int)+1:=by omega
 have i6:((k:Int)+1).toNat=k+1:=by omega
 have i7:=aYs ((k:Int)+1);go_cut [] (fun wx=> ∃(q9:OA) (c9:Nat),Mem w wx [aJ w TV 4 (q9) (k) (c9) ((vs.take k++vs.drop (k+1)).flatMap aC),aI w w3 TH3 #[aA,aB,.slice p5 n d],aJ w TI 1 (p5) (n) (d) (ivs ys),aI w w2 aN #[aA,aB,.slice p5 n d,a,c,aE,aF,aD,aG,.slice q9 (k) c9],aJ w TI 1 (p1) (n) (ad) (ivs xs),aJ w TV 4 (q1) (k+1) (m) (vs.flatMap aC),aI w (w.heap.size+1+1) aN #[(),(),((),()),(),(),(),(),(),(),((),())],aI w (w.heap.size+1) THD #[I 2,o,ag],aI w w aN #[aA,aB,.slice p n g,a,c,aE,aF,aD,aG,.slice (some ⟨b,j,none⟩) (k+1) (k+1)]])
 case first=>
  go_region_law ((first
   |(refine jX zF (by rfl) _ _ (by rfl) (by first|exact M6.made0 TV 4 w6 (by simp)|exact(M6.made0 TV 4 w6 (by simp)).adv (by exact .drew (.refl _))|exact(M6.adv xE).made0 TV 4 w6 (by simp)) 0 (by rfl) (by rfl) ((vs.take k).flatMap aC) (by rfl) (aHz (HS.out.ext (M6.ext.trans (by exact .drew (.alloc (.refl _) _)))) (by omega)) (gE _) (by omega) ?_
     intro q7 c7 w7 am;have M7:=(show Mem w w7 [aJ w TV 4 (q7) (k) (c7) ((vs.take k).flatMap aC),aI w w3 TH3 #[aA,aB,.slice p5 n d],aJ w TI 1 (p5) (n) (d) (ivs ys),aI w w2 aN #[aA,aB,.slice p5 n d,a,c,aE,aF,aD,aG,.slice q1 (k+1) m],aJ w TI 1 (p1) (n) (ad) (ivs xs),aJ w TV 4 (q1) (k+1) (m) (vs.flatMap aC),aI w (w.heap.size+1+1) aN #[(),(),((),()),(),(),(),(),(),(),((),())],aI w (w.heap.size+1) THD #[I 2,o,ag],aI w w aN #[aA,aB,.slice p n g,a,c,aE,aF,aD,aG,.slice (some ⟨b,j,none⟩) (k+1) (k+1)]]from by simpa only[aWe,aWz,aXz]using am)
     clear am;have aw:=(M7.bk 8).cl 9
     have ax:(w2:Nat)<w7:=(M7.hi 3))
   |(refine jX zF (by rfl) _ _ (by rfl) (M7.adv (by exact .refl _)) 0 (by rfl) (by rfl) (([]:List aV).flatMap aC) (by rfl) (⟨by simp,aW6 _,by have:=HS.out.mx;omega,fun h=>absurd h (by omega)⟩) (gE _) (by omega) ?_
     intro q9 c9 w9 an;have M9:=(show Mem w w9 [aJ w TV 4 (q9) (k+(0)) (c9) ((vs.take k).flatMap aC++([]:List aV).flatMap aC),aI w w3 TH3 #[aA,aB,.slice p5 n d],aJ w TI 1 (p5) (n) (d) (ivs ys),aI w w2 aN #[aA,aB,.slice p5 n d,a,c,aE,aF,aD,aG,.slice q1 (k+1) m],aJ w TI 1 (p1) (n) (ad) (ivs xs),aJ w TV 4 (q1) (k+1) (m) (vs.flatMap aC),aI w (w.heap.size+1+1) aN #[(),(),((),()),(),(),(),(),(),(),((),())],aI w (w.heap.size+1) THD #[I 2,o,ag],aI w w aN #[aA,aB,.slice p n g,a,c,aE,aF,aD,aG,.slice (some ⟨b,j,none⟩) (k+1) (k+1)]]from an)
     clear an;have ay:=(M9.bk 3).cl 9;have av:=(M9.bk 3).frozen 9
     have az:(w2:Nat)<w9:=(M9.hi 3))))
  all_goals (
   have e1:k+(0)=k:=by omega
   have e2:(vs.take k).flatMap aC++([]:List aV).flatMap aC=(vs.take k++vs.drop (k+1)).flatMap aC:=by rw[ar.out];simp
   skip;have MZ:=(show Mem w w9 [aJ w TV 4 (q9) (k) (c9) ((vs.take k++vs.drop (k+1)).flatMap aC),aI w w3 TH3 #[aA,aB,.slice p5 n d],aJ w TI 1 (p5) (n) (d) (ivs ys),aI w w2 aN #[aA,aB,.slice p5 n d,a,c,aE,aF,aD,aG,.slice q1 (k+1) m],aJ w TI 1 (p1) (n) (ad) (ivs xs),aJ w TV 4 (q1) (k+1) (m) (vs.flatMap aC),aI w (w.heap.size+1+1) aN #[(),(),((),()),(),(),(),(),(),(),((),())],aI w (w.heap.size+1) THD #[I 2,o,ag],aI w w aN #[aA,aB,.slice p n g,a,c,aE,aF,aD,aG,.slice (some ⟨b,j,none⟩) (k+1) (k+1)]]from by have:=M9;rw[e2]at this;simpa only[e1]using this)
   clear e2 M9 M7)
  all_goals go_wp2_with fail
  all_goals go_meet
  all_goals exact⟨q9,c9,by first|exact(MZ.store (i:=3) rfl 9 (.slice q9 (k) c9))|(simp only[e1];exact(MZ.store (i:=3) rfl 9 (.slice q9 (k) c9)))⟩
 case rest=>
  obtain⟨q9,c9,MC⟩:=hcut;have MC:=xQ MC;clear M6 i1 i2 i5 i6 i7 l d_ ab;have ab:w.heap.size+1<wc.heap.size:=(MC.out.hi 7)
  obtain⟨e0,e1,e2,e3,e4,e5,e6,e7,e8,e9⟩:=(MC.out.bk 3).ten;have f_:=(MC.out.bk 6).tenf;go_upto_region 33 with fail;go_wp2;clear e0 e1 e2 e3 e4 e5 e6 e7 e8 e9 f_ ab;have M7:=(MC.out.put10 (i:=6) rfl (I aA) (I aB) (.slice p5 n d) (I a) (I c) (I aE) (I aF) (I aD) (I aG) (.slice q9 (k) c9))
  generalize af:World.setCell _ _ _=wz;rw[af]at M7;clear af MC;have y_:=(M7.bk 6).ten;exact aYw (v:= .tuple #[.agg #[aA,aB,.slice p5 n d,a,c,aE,aF,aD,aG,.slice q9 (k) c9],f,.bool true]) ⟨p5,d,q9,c9,rfl,(M7.ow 2),(M7.ow 0),M7.ext⟩
def aNe (h:aQ)(r:Option (aQ×Int))(w:World)(e:Ending)(w':World):Prop:=
 match r with
 |none=> ∃p cap q c2,e= .returned (.tuple #[bV h p h.cells.length cap q h.vs.length c2,(-1:Int),.bool false])∧w'.ownsRow w.heap.size TI 1 (.slice p h.cells.length cap) h.cells.length (ivs h.cells)∧w'.ownsRow w.heap.size TV 4 (.slice q h.vs.length c2) h.vs.length (h.vs.flatMap aC)∧Ext w w'
 |some (h',n)=> ∃p cap q c2,e= .returned (.tuple #[bV h' p h'.cells.length cap q h'.vs.length c2,n,.bool true])∧w'.ownsRow w.heap.size TI 1 (.slice p h'.cells.length cap) h'.cells.length (ivs h'.cells)∧w'.ownsRow w.heap.size TV 4 (.slice q h'.vs.length c2) h'.vs.length (h'.vs.flatMap aC)∧Ext w w'
theorem fU {h:aQ}(a:bC h=true):h.cells.length≤12∧h.vs.length≤12∧4≤h.cells.length:=by obtain⟨q1,q2,q3,q4,q5⟩:=(jE h).1 a;have hb:=cQ (dH q1);have:=congrArg List.length q4;rw[rP,aWj]at this;have:=tV h.cells;omega
theorem rT (h:aQ)(k a b:Int)(p:OA)(n c:Nat)(q:OA)(m c2:Nat)(w:World)(hi:IsHouse w h p n c q m c2)(d:bC h=false):
  U 50 #[bV h p n c q m c2,cS k a b] w (Z (.tuple #[.agg #[(),(),((),()),(),(),(),(),(),(),((),())],(-1:Int),.bool false]) w):=
 aKk h.aA h.aB h.free h.step h.aE h.aF h.aD h.aG k a b p n c q m c2 h.cells h.vs w (xQ fun w' hx=>by have:=mE h p n c q m c2 w' (hi.ext hx);rwa[d]at this)
theorem zS (h:aQ)(k a b:Int)(p:OA)(n c:Nat)(q:OA)(m c2:Nat)(w:World)(hi:IsHouse w h p n c q m c2)(j:bC h=true):
  U 50 #[bV h p n c q m c2,cS k a b] w (aNe h (dF h k a b) w):=by
 obtain⟨q1,q2,q3,q4,q5⟩:=(jE h).1 j;have ad:=fU j;have hl:=hi.clen;have s:=hi.vlen;have hS:=hi.cells;have hV:=hi.vs;subst hl s;have f:=xQ fun(w':World) (hx:Ext w w')=>(by have:=mE h p _ c q _ c2 w' (hi.ext hx);rwa[j]at this:U 11 #[bV h p h.cells.length c q h.vs.length c2] w' (Z (.bool true) w'))
 have HL:=xQ fun(w':World) (hx:Ext w w')=>vU h p _ c q _ c2 w' (by omega) (by omega) (hi.ext hx)
 unfold RetHouse at HL;by_cases k0:k=0
 ·subst k0;have HP:=xQ fun(w':World) (hx:Ext w w')=>aHg h.aA h.aB a p _ c h.cells w' (hS.ext hx) q1
  have e0:dF h 0 a b=(if 0≤(cZ h.aA h.aB h.cells a).2 then some ({h with cells:=(cZ h.aA h.aB h.cells a).1,vs:=nM (a,h.aD,0,h.aD) h.vs},(cZ h.aA h.aB h.cells a).2)else none):=by unfold dF;rw[if_pos rfl]
  have el:(cZ h.aA h.aB h.cells a).1.length=h.cells.length:=by
   by_cases h0:0≤(cZ h.aA h.aB h.cells a).2
   ·obtain⟨zs,s1,_,_,s4,_⟩:=vN q1 h0;rw[s4,aXf,s1.length_eq]
   unfold cZ at h0⊢;split at h0
   ·rfl
   dsimp only at h0;omega
  unfold dK at HP;rw[el]at HP;rw[e0];by_cases h0:0≤(cZ h.aA h.aB h.cells a).2
  ·rw[if_pos h0];have HQ:=xQ fun(w':World) (hx:Ext w w')=>aOk a h.aD 0 h.aD q _ c2 h.vs w' (by omega) (hV.ext hx)
   refine(yN h.aA h.aB h.free h.step h.aE h.aF h.aD h.aG (cZ h.aA h.aB h.cells a).2 a b p _ c q _ c2 h.cells (cZ h.aA h.aB h.cells a).1 h.vs (nM (a,h.aD,0,h.aD) h.vs) w h0 f HL HP HQ).mono ?_;rintro e w' ⟨p',d,q',g,rfl,o1,o2,hx⟩;refine⟨p',d,q',g,?_,?_,?_,hx⟩
   ·simp[bV,el,wW]
   ·dsimp only;rw[el];exact o1
   dsimp only;rw[wW];exact o2
  rw[if_neg h0];exact aAg h.aA h.aB h.free h.step h.aE h.aF h.aD h.aG (cZ h.aA h.aB h.cells a).2 a b p _ c q _ c2 h.cells (cZ h.aA h.aB h.cells a).1 h.vs w (by omega) f HL HP
 by_cases k1:k=1
 ·subst k1;have HP:=xQ fun(w':World) (hx:Ext w w')=>aOl h a b p _ c q _ c2 w' (by omega) (by omega) (hi.ext hx) q2 (fun v hv=>(mC _ _).1 (q5 v hv)) q3.2.1 q3.2.2.1 q3.2.2.2
  have e0:dF h 1 a b=vR h a b:=by unfold dF;rw[if_neg (by omega),if_pos rfl]
  rw[e0];cases hp:vR h a b with
  |none=>rw[hp]at HP;exact aD2 h.aA h.aB h.free h.step h.aE h.aF h.aD h.aG a b p _ c q _ c2 h.cells h.vs w f HL HP
  |some r=>
   obtain⟨h',bk⟩:=r;rw[hp]at HP;have hd:=vV j (e0.trans hp);have hv:h'.vs.length=h.vs.length∧h'.cells=h.cells∧h'.aD=h.aD:=by
    unfold vR at hp;split at hp
    ·cases hp
    split at hp
    ·injection hp with hp;simp only[aX5]at hp;obtain⟨rfl,_⟩:=hp;exact⟨by simp,rfl,rfl⟩
    cases hp
   obtain⟨t1,t2,t3,t4,t5,t6,t7,t8,t9⟩:=hd;obtain⟨v1,v2,v3⟩:=hv;obtain⟨hw,z,hc,hf,hs,ab,x,y,o,t⟩:=h';dsimp only at t4 t5 t6 t7 t8 t9 v1 v2 v3;subst t4 t5 t6 t7 t8 t9 v2 v3;unfold aT4 at HP;dsimp only at HP;rw[v1]at HP;refine(aB8 h.aA h.aB h.free h.step h.aE h.aF h.aD h.aG o bk a b p _ c q _ c2 h.cells h.vs t w t2.1 f HL HP).mono ?_;rintro e w' ⟨p',d,q',g,rfl,o1,o2,hx⟩;refine⟨p',d,q',g,?_,o1,?_,hx⟩
   ·simp[bV,v1]
   dsimp only;rw[v1];exact o2
 by_cases k2:k=2
 ·subst k2;have HP:=xQ fun(w':World) (hx:Ext w w')=>aJe h.aA h.aB a p _ c h.cells w' (hS.ext hx) q1
  have HF:=xQ fun(w':World) (hx:Ext w w')=>vT h.aA h.aB h.free h.step h.aE h.aF h.aD h.aG a p h.cells.length c q _ c2 h.vs w' (hV.ext hx)
  have HM:=fun(w':World) (hx:Ext w w')=>aFi h a p _ c q _ c2 w' (hi.ext hx)
  have e0:dF h 2 a b=(if gI h a=true∧0≤(cN h.aA h.aB h.cells a).2 then some ({h with cells:=(cN h.aA h.aB h.cells a).1,vs:=h.vs.eraseIdx (vix a h.vs).toNat},(cN h.aA h.aB h.cells a).2)else none):=by unfold dF;rw[if_neg (by omega),if_neg (by omega),if_pos rfl]
  have el:(cN h.aA h.aB h.cells a).1.length=h.cells.length:=by
   by_cases h0:0≤(cN h.aA h.aB h.cells a).2
   ·obtain⟨zs,s1,_,_,s4,_⟩:=rK q1 h0;rw[s4,aXf,s1.length_eq]
   unfold cN at h0⊢;split at h0
   ·rfl
   dsimp only at h0;omega
  unfold dK at HP;rw[el]at HP;rw[e0];by_cases h0:gI h a=true∧0≤(cN h.aA h.aB h.cells a).2
  ·rw[if_pos h0];have hv: ∃v,iS a h.vs=some v:=by
    have:=h0.1;unfold gI iL at this;rw[if_pos j]at this;cases hv:iS a h.vs with
    |none=>rw[hv]at this;simp at this
    |some v=>exact⟨v,rfl⟩
   obtain⟨v,hv⟩:=hv;obtain⟨v1,v2,v3,v4,v5,v6⟩:=oO hv;generalize hk:(vix a h.vs).toNat=kk at*;rw[v5]at HF;rw[h0.1]at HM;obtain⟨bb,l,rfl,u,_⟩:=hV.rd (by omega);have ee:h.vs.eraseIdx kk=h.vs.take kk++h.vs.drop (kk+1):=List.eraseIdx_eq_take_drop_succ _ _;have i:(h.vs.eraseIdx kk).length=h.vs.length-1:=by rw[List.length_eraseIdx,if_pos v4]
   by_cases hcc:kk+1<c2
   ·refine(yP h.aA h.aB h.free h.step h.aE h.aF h.aD h.aG (cN h.aA h.aB h.cells a).2 a b p _ c bb l _ c2 kk h.cells (cN h.aA h.aB h.cells a).1 h.vs w h0.2 v4 (by omega) hcc (xQ hV) f HL HP HF HM).mono ?_;rintro e w' ⟨p',d,q',g,rfl,o1,o2,hx⟩;refine⟨p',d,q',g,?_,?_,?_,hx⟩
    ·simp only[bV,el,i]
    ·dsimp only;rw[el];exact o1
    dsimp only;rw[i,ee];exact o2
   have aa:=hV.le;have e1:c2=kk+1:=by omega
   have e2:h.vs.length=kk+1:=by omega
   subst e1;rw[e2]at hV f HL HF HM i⊢;refine(wO h.aA h.aB h.free h.step h.aE h.aF h.aD h.aG (cN h.aA h.aB h.cells a).2 a b p _ c bb l kk h.cells (cN h.aA h.aB h.cells a).1 h.vs w h0.2 (by omega) (xQ (aXd (by omega))) (xQ hV) f HL HP HF HM).mono ?_;rintro e w' ⟨p',d,q',g,rfl,o1,o2,hx⟩;refine⟨p',d,q',g,?_,?_,?_,hx⟩
   ·simp[bV,el,i]
   ·dsimp only;rw[el];exact o1
   dsimp only;rw[i,ee,Nat.add_sub_cancel];exact o2
  rw[if_neg h0]
  exact aAi h.aA h.aB h.free h.step h.aE h.aF h.aD h.aG (cN h.aA h.aB h.cells a).2 (vix a h.vs) a b p _ c q _ c2 h.cells (cN h.aA h.aB h.cells a).1 h.vs w (gI h a) (fun e=>by
   by_cases hx:0≤(cN h.aA h.aB h.cells a).2
   ·exact absurd ⟨e,hx⟩ h0
   ·omega) f HL HP HF HM
 by_cases k3:k=3
 ·subst k3;have e0:dF h 3 a b=(if 1≤a∧a≤9999-h.aD then some ({h with aD:=h.aD+a},h.aD+a)else none):=by unfold dF;rw[if_neg (by omega),if_neg (by omega),if_neg (by omega),if_pos rfl]
  rw[e0];by_cases h0:1≤a∧a≤9999-h.aD
  ·rw[if_pos h0];exact aAf h.aA h.aB h.free h.step h.aE h.aF h.aD h.aG a b p _ c q _ c2 h.cells h.vs w q3.1 q3.2.1 h0.1 h0.2 f HL (xQ fun w'=>qD a 1 (9999-h.aD) w' h0.1 h0.2)
  rw[if_neg h0];exact aB7 h.aA h.aB h.free h.step h.aE h.aF h.aD h.aG a b p _ c q _ c2 h.cells h.vs w q3.1 q3.2.1 f HL (xQ fun w'=>aAp a 1 (9999-h.aD) w' (by omega))
 by_cases k4:k=4
 ·subst k4;have HP:=xQ fun(w':World) (hx:Ext w w')=>oR h.aA h.aB a b p _ c h.cells w' (hS.ext hx) q1
  have e0:dF h 4 a b=(if bM h.aA h.aB h.cells a b=true then some ({h with cells:=bQ h.aA h.aB h.cells a b},0)else none):=by unfold dF;rw[if_neg (by omega),if_neg (by omega),if_neg (by omega),if_neg (by omega),if_pos rfl]
  unfold dL at HP;rw[dO]at HP;rw[e0];cases hm:bM h.aA h.aB h.cells a b with
  |true=>
   rw[hm]at HP;rw[if_pos rfl];refine(yO h.aA h.aB h.free h.step h.aE h.aF h.aD h.aG a b p _ c q _ c2 h.cells (bQ h.aA h.aB h.cells a b) h.vs w f HL HP).mono ?_;rintro e w' ⟨p',d,q',g,rfl,o1,o2,hx⟩;refine⟨p',d,q',g,?_,?_,o2,hx⟩
   ·simp only[bV,dO]
   dsimp only;rw[dO];exact o1
  |false=>rw[hm]at HP;rw[if_neg (by simp)];exact aAh h.aA h.aB h.free h.step h.aE h.aF h.aD h.aG a b p _ c q _ c2 h.cells (bQ h.aA h.aB h.cells a b) h.vs w f HL HP
 have e0:dF h k a b=none:=by unfold dF;rw[if_neg k0,if_neg k1,if_neg k2,if_neg k3,if_neg k4]
 rw[e0];exact aFm h.aA h.aB h.free h.step h.aE h.aF h.aD h.aG k a b p _ c q _ c2 h.cells h.vs w k0 k1 k2 k3 k4 f HL
end Go.Proofs.YthfmmibomhhmpabGreatDoor
