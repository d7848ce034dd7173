/-
  Texts of this proof, packed (@packed).
-/
import Derived.Test.YtbgkcehffiogcacGreatDoorQ29
namespace Go.Proofs.YtbgkcehffiogcacGreatDoor
open Go.RowKit
set_option linter.unusedSimpArgs false
set_option linter.unusedVariables false
set_option maxHeartbeats 8000000
set_option maxRecDepth 100000
section
open Go.Proofs.Tryz
theorem aHg (aA aB a b aD aF aC aG c d f:Int)(p:OA)(n cap:Nat)(q:OA)(m c2:Nat)(xs:List Int)(vs:List aP)(w:World)
  (g:xB 31 #[.agg #[aA,aB,.slice p n cap,a,b,aD,aF,aC,aG,.slice q m c2]] w false):
  U 33 #[.agg #[aA,aB,.slice p n cap,a,b,aD,aF,aC,aG,.slice q m c2],.agg #[c,d,f]] w (O (.tuple #[.agg #[(),(),((),()),(),(),(),(),(),(),((),())],(-1:Int),.bool false]) w):=by
 go_enter func33,ntmps33;go_wp2_with fail;refine Z (g _ ((((Mem.start w).c0 aK #[aA,aB,.slice p n cap,a,b,aD,aF,aC,aG,.slice q m c2]).c1 THD #[c,d,f]).c2 aK zT).ext) fun w1 j=>?_
 have M1:=(((((Mem.start w).c0 aK #[aA,aB,.slice p n cap,a,b,aD,aF,aC,aG,.slice q m c2]).c1 THD #[c,d,f]).c2 aK zT).adv j)
 clear j g;obtain⟨f0,k,f1,l,f2,o,f3,r,f4,s,f5,t,f6,u,f7,x,f8,y,f9,z⟩:=(M1.bk 0).tenf;go_wp2;clear f0 k f1 l f2 o f3 r f4 s f5 t f6 u f7 x f8 y f9 z;have M2:=(M1.put10 (i:=0) rfl (I 0) (I 0) (.slice none 0 0) (I 0) (I 0) (I 0) (I 0) (I 0) (I 0) (.slice none 0 0))
 generalize h:World.setCell _ _ _=wz;rw[h]at M2;clear h M1;obtain⟨y0,y1,y2,y3,y4,y5,y6,y7,y8,y9⟩:=(M2.bk 0).ten;exact bodyPost_ret (v:= .tuple #[.agg #[(),(),((),()),(),(),(),(),(),(),((),())],(-1:Int),.bool false]) (by simp[results,results33,go_sem, *]) rfl ⟨rfl,M2.ext⟩
theorem iG (aA aB a b aD aF aC aG d j ap:Int)(p:OA)(n cap:Nat)(q:OA)(m c2:Nat)(xs ys:List Int)(vs:List aP)(w:World)
  (ar:xB 31 #[.agg #[aA,aB,.slice p n cap,a,b,aD,aF,aC,aG,.slice q m c2]] w true)
  (HL:xC 36 #[.agg #[aA,aB,.slice p n cap,a,b,aD,aF,aC,aG,.slice q m c2]] w fun w' e w''=> ∃p' cap' q' c2',e= .returned (.agg #[aA,aB,.slice p' n cap',a,b,aD,aF,aC,aG,.slice q' m c2'])∧w''.ownsRow w' TI 1 (.slice p' n cap') n (ivs xs)∧w''.ownsRow w' TV 4 (.slice q' m c2') m (vs.flatMap aE)∧Ext w' w'')
  (D:(d≠0∧d≠1∧d≠2∧d≠3∧d≠4)∨(d=3∧0≤aC∧aC≤9999∧j<1)∨(d=3∧0≤aC∧aC≤9999∧1≤j∧9999-aC<j)∨(d=4∧(∀w',Ext w w'→U 82 #[aH aA aB p n cap,eI j ap] w' fun e w''=> ∃q c,e= .returned (.tuple #[aH aA aB q n c,.bool false])∧w''.ownsRow w' TI 1 (.slice q n c) n (ivs ys)∧Ext w' w''))∨(d=0∧(∀w' R gA p1 cp1 q1 cq1,Mem w w' ([aI w TI 1 (p1) (n) (cp1) (ivs xs),aI w TV 4 (q1) (m) (cq1) (vs.flatMap aE),aJ w (gA) aK #[aA,aB,.slice p1 n cp1,a,b,aD,aF,aC,aG,.slice q1 m cq1]]++ [R])→U 79 #[.pointer (some ⟨gA,0,none⟩),j] w' (O (.tuple #[(-1:Int),.bool false]) w')))∨(d=1∧(∀w' R gA p1 cp1 q1 cq1,Mem w w' ([aI w TI 1 (p1) (n) (cp1) (ivs xs),aI w TV 4 (q1) (m) (cq1) (vs.flatMap aE),aJ w (gA) aK #[aA,aB,.slice p1 n cp1,a,b,aD,aF,aC,aG,.slice q1 m cq1]]++ [R])→U 80 #[.pointer (some ⟨gA,0,none⟩),j,ap] w' (O (.tuple #[(-1:Int),.bool false]) w')))∨(d=2∧(∀w' R gA p1 cp1 q1 cq1,Mem w w' ([aI w TI 1 (p1) (n) (cp1) (ivs xs),aI w TV 4 (q1) (m) (cq1) (vs.flatMap aE),aJ w (gA) aK #[aA,aB,.slice p1 n cp1,a,b,aD,aF,aC,aG,.slice q1 m cq1]]++ [R])→U 81 #[.pointer (some ⟨gA,0,none⟩),j] w' (O (.tuple #[(-1:Int),.bool false]) w')))):
  U 33 #[.agg #[aA,aB,.slice p n cap,a,b,aD,aF,aC,aG,.slice q m c2],.agg #[d,j,ap]] w fun e w'=> ∃p' cap' q' c2',e= .returned (.tuple #[.agg #[aA,aB,.slice p' n cap',a,b,aD,aF,aC,aG,.slice q' m c2'],(-1:Int),.bool false])∧w'.ownsRow w TI 1 (.slice p' n cap') n (ivs xs)∧w'.ownsRow w TV 4 (.slice q' m c2') m (vs.flatMap aE)∧Ext w w':=by
 go_enter func33,ntmps33;go_wp2_with fail;refine Z (ar _ ((((Mem.start w).c0 aK #[aA,aB,.slice p n cap,a,b,aD,aF,aC,aG,.slice q m c2]).c1 THD #[d,j,ap]).c2 aK zT).ext) fun w1 av=>?_
 have M1:=(((((Mem.start w).c0 aK #[aA,aB,.slice p n cap,a,b,aD,aF,aC,aG,.slice q m c2]).c1 THD #[d,j,ap]).c2 aK zT).adv av)
 clear av ar;obtain⟨k,l,o,r,s,t,u,x,y,z⟩:=(M1.bk 2).ten;go_wp2_with fail;clear k l o r s t u x y z;refine(HL _ M1.ext).mono ?_;rintro e w2 ⟨p1,cp1,q1,cq1,rfl,ho,hq,hx⟩;have M2:=(M1.own2 hx ho hq (aRp _) (by decide))
 clear M1 hx ho hq;go_upto_region 5 with fail;obtain⟨gA,aq⟩: ∃gA,gA=w2.heap.size:=⟨_,rfl⟩
 rw[←aq];have M3:=(M2.blkNew aK #[aA,aB,.slice p1 n cp1,a,b,aD,aF,aC,aG,.slice q1 m cq1] gA aq.symm)
 generalize World.alloc _ _=w3 at M3⊢;clear M2 aq;rcases D with⟨h0,h1,h2,h3,h4⟩|⟨rfl,hc,hc2,h1⟩|⟨rfl,hc,hc2,h1,h2⟩|⟨rfl,hS⟩|⟨rfl,hN⟩|⟨rfl,hN⟩|⟨rfl,hN⟩
 ·obtain⟨k,l,o,r,s,t,u,x,y,z⟩:=(M3.bk 5).ten;have aa:=(M3.bk 4).cl 0;have k0:(d==0)=false:=by simp;omega
  have k1:(d==1)=false:=by simp;omega
  have k2:(d==2)=false:=by simp;omega
  have k3:(d==3)=false:=by simp;omega
  have k4:(d==4)=false:=by simp;omega
  go_wp2_with fail;clear k l o r s t u x y z aa;refine(HL _ M3.ext).mono ?_;rintro e w9 ⟨p9,f,q9,g,rfl,ho,hq,hx⟩;have M4:=(M3.own2 hx ho hq (aRp _) (by decide))
  clear M3 hx ho hq HL;obtain⟨f0,ab,f1,ad,f2,ae,f3,af,f4,ag,f5,ah,f6,ai,f7,aj,f8,ak,f9,al⟩:=(M4.bk 5).tenf;go_wp2;clear f0 ab f1 ad f2 ae f3 af f4 ag f5 ah f6 ai f7 aj f8 ak f9 al;have M5:=(M4.put10 (i:=5) rfl (I aA) (I aB) (.slice p9 n f) (I a) (I b) (I aD) (I aF) (I aC) (I aG) (.slice q9 m g))
  generalize h:World.setCell _ _ _=wz;rw[h]at M5;clear h M4;obtain⟨y0,y1,y2,y3,y4,y5,y6,y7,y8,y9⟩:=(M5.bk 5).ten;exact bodyPost_ret (v:= .tuple #[.agg #[aA,aB,.slice p9 n f,a,b,aD,aF,aC,aG,.slice q9 m g],(-1:Int),.bool false]) (by simp[results,results33,go_sem, *]) rfl ⟨p9,f,q9,g,rfl,(M5.ow 0),(M5.ow 1),M5.ext⟩
 ·obtain⟨k,l,o,r,s,t,u,x,y,z⟩:=(M3.bk 5).ten;obtain⟨aa,am,an⟩:=(M3.bk 4).tri;have k1:IntKind.i64.wrap (9999-aC)=9999-aC:=aRr _ (by omega);have d1:decide (1≤j)=false:=by simp;omega
  go_wp2_with fail;clear k l o r s t u x y z aa am an;refine(HL _ M3.ext).mono ?_;rintro e w9 ⟨p9,f,q9,g,rfl,ho,hq,hx⟩;have M4:=(M3.own2 hx ho hq (aRp _) (by decide))
  clear M3 hx ho hq HL;obtain⟨f0,ab,f1,ad,f2,ae,f3,af,f4,ag,f5,ah,f6,ai,f7,aj,f8,ak,f9,al⟩:=(M4.bk 5).tenf;go_wp2;clear f0 ab f1 ad f2 ae f3 af f4 ag f5 ah f6 ai f7 aj f8 ak f9 al;have M5:=(M4.put10 (i:=5) rfl (I aA) (I aB) (.slice p9 n f) (I a) (I b) (I aD) (I aF) (I aC) (I aG) (.slice q9 m g))
  generalize h:World.setCell _ _ _=wz;rw[h]at M5;clear h M4;obtain⟨y0,y1,y2,y3,y4,y5,y6,y7,y8,y9⟩:=(M5.bk 5).ten;exact bodyPost_ret (v:= .tuple #[.agg #[aA,aB,.slice p9 n f,a,b,aD,aF,aC,aG,.slice q9 m g],(-1:Int),.bool false]) (by simp[results,results33,go_sem, *]) rfl ⟨p9,f,q9,g,rfl,(M5.ow 0),(M5.ow 1),M5.ext⟩
 ·obtain⟨k,l,o,r,s,t,u,x,y,z⟩:=(M3.bk 5).ten;obtain⟨aa,am,an⟩:=(M3.bk 4).tri;have k1:IntKind.i64.wrap (9999-aC)=9999-aC:=aRr _ (by omega);have d1:decide (1≤j)=true:=by simp;omega
  have d2:decide (j≤9999-aC)=false:=by simp;omega
  go_wp2_with fail;clear k l o r s t u x y z aa am an;refine(HL _ M3.ext).mono ?_;rintro e w9 ⟨p9,f,q9,g,rfl,ho,hq,hx⟩;have M4:=(M3.own2 hx ho hq (aRp _) (by decide))
  clear M3 hx ho hq HL;obtain⟨f0,ab,f1,ad,f2,ae,f3,af,f4,ag,f5,ah,f6,ai,f7,aj,f8,ak,f9,al⟩:=(M4.bk 5).tenf;go_wp2;clear f0 ab f1 ad f2 ae f3 af f4 ag f5 ah f6 ai f7 aj f8 ak f9 al;have M5:=(M4.put10 (i:=5) rfl (I aA) (I aB) (.slice p9 n f) (I a) (I b) (I aD) (I aF) (I aC) (I aG) (.slice q9 m g))
  generalize h:World.setCell _ _ _=wz;rw[h]at M5;clear h M4;obtain⟨y0,y1,y2,y3,y4,y5,y6,y7,y8,y9⟩:=(M5.bk 5).ten;exact bodyPost_ret (v:= .tuple #[.agg #[aA,aB,.slice p9 n f,a,b,aD,aF,aC,aG,.slice q9 m g],(-1:Int),.bool false]) (by simp[results,results33,go_sem, *]) rfl ⟨p9,f,q9,g,rfl,(M5.ow 0),(M5.ow 1),M5.ext⟩
 ·obtain⟨k,l,o,r,s,t,u,x,y,z⟩:=(M3.bk 5).ten;obtain⟨aa,am,an⟩:=(M3.bk 4).tri;have HS:=xQ hS;clear hS;go_wp2_with fail;clear k l o r s t u x y z aa am an;refine(HS _ M3.ext).mono ?_;rintro e w4 ⟨p5,c5,rfl,au,ao⟩;have M4:=(M3.call ao au)
  clear M3 ao au;have d0:=(M4.bk 1).cl 0;have aw:=(M4.bk 1).frozen 0;have d1:=(M4.bk 1).cl 1;have ax:=(M4.bk 1).frozen 1;have d2:=(M4.bk 1).cl 2;have ay:=(M4.bk 1).frozen 2;go_upto_region 19 with fail;clear d0 aw d1 ax d2 ay;have M5:=((M4.st 1 0 (I aA)).st 1 1 (I aB))
  have M6:=(M5.st 1 2 (.slice p5 n c5))
  have M7:=(M6)
  generalize h:World.setCell _ _ _=w5;rw[h]at M7;clear h M4 M5 M6;obtain⟨k,l,o,r,s,t,u,x,y,z⟩:=(M7.bk 6).ten;go_wp2_with fail;clear k l o r s t u x y z;refine(HL _ M7.ext).mono ?_;rintro e w9 ⟨p9,f,q9,g,rfl,ho,hq,hx⟩;have M8:=(M7.own2 hx ho hq (aRp _) (by decide))
  clear M7 hx ho hq HL;obtain⟨f0,ab,f1,ad,f2,ae,f3,af,f4,ag,f5,ah,f6,ai,f7,aj,f8,ak,f9,al⟩:=(M8.bk 6).tenf;go_wp2;clear f0 ab f1 ad f2 ae f3 af f4 ag f5 ah f6 ai f7 aj f8 ak f9 al;have M9:=(M8.put10 (i:=6) rfl (I aA) (I aB) (.slice p9 n f) (I a) (I b) (I aD) (I aF) (I aC) (I aG) (.slice q9 m g))
  generalize h:World.setCell _ _ _=wz;rw[h]at M9;clear h M8;obtain⟨y0,y1,y2,y3,y4,y5,y6,y7,y8,y9⟩:=(M9.bk 6).ten;exact bodyPost_ret (v:= .tuple #[.agg #[aA,aB,.slice p9 n f,a,b,aD,aF,aC,aG,.slice q9 m g],(-1:Int),.bool false]) (by simp[results,results33,go_sem, *]) rfl ⟨p9,f,q9,g,rfl,(M9.ow 0),(M9.ow 1),M9.ext⟩
 ·obtain⟨aa,am,an⟩:=(M3.bk 4).tri;have HN:=xQ hN;clear hN;have MK:=(show Mem w w3 ([aI w TI 1 (p1) (n) (cp1) (ivs xs),aI w TV 4 (q1) (m) (cq1) (vs.flatMap aE),aJ w (gA) aK #[aA,aB,.slice p1 n cp1,a,b,aD,aF,aC,aG,.slice q1 m cq1]]++ [aJ w (w.heap.size+1+1) aK #[(),(),((),()),(),(),(),(),(),(),((),())],aJ w (w.heap.size+1) THD #[(),j,ap],aJ w w aK #[aA,aB,.slice p n cap,a,b,aD,aF,aC,aG,.slice q m c2]])from M3.pick [1,2,0,3,4,5] (by decide) rfl)
  go_wp2_with fail;clear aa am an;refine Z (HN _ (yP [aJ w (w.heap.size+1+1) aK #[(),(),((),()),(),(),(),(),(),(),((),())],aJ w (w.heap.size+1) THD #[(),j,ap],aJ w w aK #[aA,aB,.slice p n cap,a,b,aD,aF,aC,aG,.slice q m c2]]) gA p1 cp1 q1 cq1 (MK.fold [aI w TI 1 (p1) (n) (cp1) (ivs xs),aI w TV 4 (q1) (m) (cq1) (vs.flatMap aE),aJ w (gA) aK #[aA,aB,.slice p1 n cp1,a,b,aD,aF,aC,aG,.slice q1 m cq1]])) fun w4 ao=>?_
  have M4:=(M3.adv ao)
  clear M3 ao HN MK;obtain⟨k,l,o,r,s,t,u,x,y,z⟩:=(M4.bk 5).ten;go_wp2_with fail;clear k l o r s t u x y z;refine(HL _ M4.ext).mono ?_;rintro e w9 ⟨p9,f,q9,g,rfl,ho,hq,hx⟩;have M5:=(M4.own2 hx ho hq (aRp _) (by decide))
  clear M4 hx ho hq HL;obtain⟨f0,ab,f1,ad,f2,ae,f3,af,f4,ag,f5,ah,f6,ai,f7,aj,f8,ak,f9,al⟩:=(M5.bk 5).tenf;go_wp2;clear f0 ab f1 ad f2 ae f3 af f4 ag f5 ah f6 ai f7 aj f8 ak f9 al;have M6:=(M5.put10 (i:=5) rfl (I aA) (I aB) (.slice p9 n f) (I a) (I b) (I aD) (I aF) (I aC) (I aG) (.slice q9 m g))
  generalize h:World.setCell _ _ _=wz;rw[h]at M6;clear h M5;obtain⟨y0,y1,y2,y3,y4,y5,y6,y7,y8,y9⟩:=(M6.bk 5).ten;exact bodyPost_ret (v:= .tuple #[.agg #[aA,aB,.slice p9 n f,a,b,aD,aF,aC,aG,.slice q9 m g],(-1:Int),.bool false]) (by simp[results,results33,go_sem, *]) rfl ⟨p9,f,q9,g,rfl,(M6.ow 0),(M6.ow 1),M6.ext⟩
 ·obtain⟨aa,am,an⟩:=(M3.bk 4).tri;have HN:=xQ hN;clear hN;have MK:=(show Mem w w3 ([aI w TI 1 (p1) (n) (cp1) (ivs xs),aI w TV 4 (q1) (m) (cq1) (vs.flatMap aE),aJ w (gA) aK #[aA,aB,.slice p1 n cp1,a,b,aD,aF,aC,aG,.slice q1 m cq1]]++ [aJ w (w.heap.size+1+1) aK #[(),(),((),()),(),(),(),(),(),(),((),())],aJ w (w.heap.size+1) THD #[I 1,j,ap],aJ w w aK #[aA,aB,.slice p n cap,a,b,aD,aF,aC,aG,.slice q m c2]])from M3.pick [1,2,0,3,4,5] (by decide) rfl)
  go_wp2_with fail;clear aa am an;refine Z (HN _ (yP [aJ w (w.heap.size+1+1) aK #[(),(),((),()),(),(),(),(),(),(),((),())],aJ w (w.heap.size+1) THD #[I 1,j,ap],aJ w w aK #[aA,aB,.slice p n cap,a,b,aD,aF,aC,aG,.slice q m c2]]) gA p1 cp1 q1 cq1 (MK.fold [aI w TI 1 (p1) (n) (cp1) (ivs xs),aI w TV 4 (q1) (m) (cq1) (vs.flatMap aE),aJ w (gA) aK #[aA,aB,.slice p1 n cp1,a,b,aD,aF,aC,aG,.slice q1 m cq1]])) fun w4 ao=>?_
  have M4:=(M3.adv ao)
  clear M3 ao HN MK;obtain⟨k,l,o,r,s,t,u,x,y,z⟩:=(M4.bk 5).ten;go_wp2_with fail;clear k l o r s t u x y z;refine(HL _ M4.ext).mono ?_;rintro e w9 ⟨p9,f,q9,g,rfl,ho,hq,hx⟩;have M5:=(M4.own2 hx ho hq (aRp _) (by decide))
  clear M4 hx ho hq HL;obtain⟨f0,ab,f1,ad,f2,ae,f3,af,f4,ag,f5,ah,f6,ai,f7,aj,f8,ak,f9,al⟩:=(M5.bk 5).tenf;go_wp2;clear f0 ab f1 ad f2 ae f3 af f4 ag f5 ah f6 ai f7 aj f8 ak f9 al;have M6:=(M5.put10 (i:=5) rfl (I aA) (I aB) (.slice p9 n f) (I a) (I b) (I aD) (I aF) (I aC) (I aG) (.slice q9 m g))
  generalize h:World.setCell _ _ _=wz;rw[h]at M6;clear h M5;obtain⟨y0,y1,y2,y3,y4,y5,y6,y7,y8,y9⟩:=(M6.bk 5).ten;exact bodyPost_ret (v:= .tuple #[.agg #[aA,aB,.slice p9 n f,a,b,aD,aF,aC,aG,.slice q9 m g],(-1:Int),.bool false]) (by simp[results,results33,go_sem, *]) rfl ⟨p9,f,q9,g,rfl,(M6.ow 0),(M6.ow 1),M6.ext⟩
 obtain⟨aa,am,an⟩:=(M3.bk 4).tri;have HN:=xQ hN;clear hN;have MK:=(show Mem w w3 ([aI w TI 1 (p1) (n) (cp1) (ivs xs),aI w TV 4 (q1) (m) (cq1) (vs.flatMap aE),aJ w (gA) aK #[aA,aB,.slice p1 n cp1,a,b,aD,aF,aC,aG,.slice q1 m cq1]]++ [aJ w (w.heap.size+1+1) aK #[(),(),((),()),(),(),(),(),(),(),((),())],aJ w (w.heap.size+1) THD #[I 2,j,ap],aJ w w aK #[aA,aB,.slice p n cap,a,b,aD,aF,aC,aG,.slice q m c2]])from M3.pick [1,2,0,3,4,5] (by decide) rfl)
 go_wp2_with fail;clear aa am an;refine Z (HN _ (yP [aJ w (w.heap.size+1+1) aK #[(),(),((),()),(),(),(),(),(),(),((),())],aJ w (w.heap.size+1) THD #[I 2,j,ap],aJ w w aK #[aA,aB,.slice p n cap,a,b,aD,aF,aC,aG,.slice q m c2]]) gA p1 cp1 q1 cq1 (MK.fold [aI w TI 1 (p1) (n) (cp1) (ivs xs),aI w TV 4 (q1) (m) (cq1) (vs.flatMap aE),aJ w (gA) aK #[aA,aB,.slice p1 n cp1,a,b,aD,aF,aC,aG,.slice q1 m cq1]])) fun w4 ao=>?_
 have M4:=(M3.adv ao)
 clear M3 ao HN MK;obtain⟨k,l,o,r,s,t,u,x,y,z⟩:=(M4.bk 5).ten;go_wp2_with fail;clear k l o r s t u x y z;refine(HL _ M4.ext).mono ?_;rintro e w9 ⟨p9,f,q9,g,rfl,ho,hq,hx⟩;have M5:=(M4.own2 hx ho hq (aRp _) (by decide))
 clear M4 hx ho hq HL;obtain⟨f0,ab,f1,ad,f2,ae,f3,af,f4,ag,f5,ah,f6,ai,f7,aj,f8,ak,f9,al⟩:=(M5.bk 5).tenf;go_wp2;clear f0 ab f1 ad f2 ae f3 af f4 ag f5 ah f6 ai f7 aj f8 ak f9 al;have M6:=(M5.put10 (i:=5) rfl (I aA) (I aB) (.slice p9 n f) (I a) (I b) (I aD) (I aF) (I aC) (I aG) (.slice q9 m g))
 generalize h:World.setCell _ _ _=wz;rw[h]at M6;clear h M5;obtain⟨y0,y1,y2,y3,y4,y5,y6,y7,y8,y9⟩:=(M6.bk 5).ten;exact bodyPost_ret (v:= .tuple #[.agg #[aA,aB,.slice p9 n f,a,b,aD,aF,aC,aG,.slice q9 m g],(-1:Int),.bool false]) (by simp[results,results33,go_sem, *]) rfl ⟨p9,f,q9,g,rfl,(M6.ow 0),(M6.ow 1),M6.ext⟩
theorem mB (aA aB a b aD aF aC aG l f k j d ah:Int)(p:OA)(n cap:Nat)(q:OA)(m c2 m2:Nat)(xs ys:List Int)(vs o:List aP)(w:World)
  (a1:xB 31 #[.agg #[aA,aB,.slice p n cap,a,b,aD,aF,aC,aG,.slice q m c2]] w true)
  (HL:xC 36 #[.agg #[aA,aB,.slice p n cap,a,b,aD,aF,aC,aG,.slice q m c2]] w fun w' e w''=> ∃p' cap' q' c2',e= .returned (.agg #[aA,aB,.slice p' n cap',a,b,aD,aF,aC,aG,.slice q' m c2'])∧w''.ownsRow w' TI 1 (.slice p' n cap') n (ivs xs)∧w''.ownsRow w' TV 4 (.slice q' m c2') m (vs.flatMap aE)∧Ext w' w'')
  (D:(l=3∧0≤aC∧aC≤9999∧1≤f∧f≤9999-aC∧aC+f=j∧aG=d∧aC+f=ah∧xs=ys∧vs=o∧m=m2)∨(l=4∧aC=j∧aG=d∧0=ah∧vs=o∧m=m2∧(∀w',Ext w w'→U 82 #[aH aA aB p n cap,eI f k] w' fun e w''=> ∃q c,e= .returned (.tuple #[aH aA aB q n c,.bool true])∧w''.ownsRow w' TI 1 (.slice q n c) n (ivs ys)∧Ext w' w''))∨(l=0∧aC=j∧(∀w' R gA p1 cp1 q1 cq1,Mem w w' ([aI w TI 1 (p1) (n) (cp1) (ivs xs),aI w TV 4 (q1) (m) (cq1) (vs.flatMap aE),aJ w (gA) aK #[aA,aB,.slice p1 n cp1,a,b,aD,aF,aC,aG,.slice q1 m cq1]]++ [R])→U 79 #[.pointer (some ⟨gA,0,none⟩),f] w' fun e w''=> ∃p5 c5 q5 d5,e= .returned (.tuple #[ah,.bool true])∧Mem w w'' ([aI w TI 1 (p5) (n) (c5) (ivs ys),aI w TV 4 (q5) (m2) (d5) (o.flatMap aE),aJ w (gA) aK #[aA,aB,.slice p5 n c5,a,b,aD,aF,aC,d,.slice q5 m2 d5]]++ [R])))∨(l=1∧aC=j∧(∀w' R gA p1 cp1 q1 cq1,Mem w w' ([aI w TI 1 (p1) (n) (cp1) (ivs xs),aI w TV 4 (q1) (m) (cq1) (vs.flatMap aE),aJ w (gA) aK #[aA,aB,.slice p1 n cp1,a,b,aD,aF,aC,aG,.slice q1 m cq1]]++ [R])→U 80 #[.pointer (some ⟨gA,0,none⟩),f,k] w' fun e w''=> ∃p5 c5 q5 d5,e= .returned (.tuple #[ah,.bool true])∧Mem w w'' ([aI w TI 1 (p5) (n) (c5) (ivs ys),aI w TV 4 (q5) (m2) (d5) (o.flatMap aE),aJ w (gA) aK #[aA,aB,.slice p5 n c5,a,b,aD,aF,aC,d,.slice q5 m2 d5]]++ [R])))∨(l=2∧aC=j∧(∀w' R gA p1 cp1 q1 cq1,Mem w w' ([aI w TI 1 (p1) (n) (cp1) (ivs xs),aI w TV 4 (q1) (m) (cq1) (vs.flatMap aE),aJ w (gA) aK #[aA,aB,.slice p1 n cp1,a,b,aD,aF,aC,aG,.slice q1 m cq1]]++ [R])→U 81 #[.pointer (some ⟨gA,0,none⟩),f] w' fun e w''=> ∃p5 c5 q5 d5,e= .returned (.tuple #[ah,.bool true])∧Mem w w'' ([aI w TI 1 (p5) (n) (c5) (ivs ys),aI w TV 4 (q5) (m2) (d5) (o.flatMap aE),aJ w (gA) aK #[aA,aB,.slice p5 n c5,a,b,aD,aF,aC,d,.slice q5 m2 d5]]++ [R])))):
  U 33 #[.agg #[aA,aB,.slice p n cap,a,b,aD,aF,aC,aG,.slice q m c2],.agg #[l,f,k]] w fun e w'=> ∃p' cap' q' c2',e= .returned (.tuple #[.agg #[aA,aB,.slice p' n cap',a,b,aD,aF,j,d,.slice q' m2 c2'],ah,.bool true])∧w'.ownsRow w TI 1 (.slice p' n cap') n (ivs ys)∧w'.ownsRow w TV 4 (.slice q' m2 c2') m2 (o.flatMap aE)∧Ext w w':=by
 go_enter func33,ntmps33;go_wp2_with fail;refine Z (a1 _ ((((Mem.start w).c0 aK #[aA,aB,.slice p n cap,a,b,aD,aF,aC,aG,.slice q m c2]).c1 THD #[l,f,k]).c2 aK zT).ext) fun w1 a3=>?_
 have M1:=(((((Mem.start w).c0 aK #[aA,aB,.slice p n cap,a,b,aD,aF,aC,aG,.slice q m c2]).c1 THD #[l,f,k]).c2 aK zT).adv a3)
 clear a3 a1;obtain⟨aj,ak,al,am,an,ao,ap,aq,ar,au⟩:=(M1.bk 2).ten;go_wp2_with fail;clear aj ak al am an ao ap aq ar au;refine(HL _ M1.ext).mono ?_;rintro e w2 ⟨p1,cp1,q1,cq1,rfl,ho,hq,hx⟩;have M2:=(M1.own2 hx ho hq (aRp _) (by decide))
 clear M1 hx ho hq;go_upto_region 5 with fail;obtain⟨gA,a0⟩: ∃gA,gA=w2.heap.size:=⟨_,rfl⟩
 rw[←a0];have M3:=(M2.blkNew aK #[aA,aB,.slice p1 n cp1,a,b,aD,aF,aC,aG,.slice q1 m cq1] gA a0.symm)
 generalize World.alloc _ _=w3 at M3⊢;clear M2 a0;rcases D with⟨rfl,hc,hc2,h1,h2,rfl,rfl,rfl,rfl,rfl,rfl⟩|⟨rfl,rfl,rfl,rfl,rfl,rfl,hS⟩|⟨rfl,rfl,hY⟩|⟨rfl,rfl,hY⟩|⟨rfl,rfl,hY⟩
 ·obtain⟨aj,ak,al,am,an,ao,ap,aq,ar,au⟩:=(M3.bk 5).ten;obtain⟨s,r,t⟩:=(M3.bk 4).tri;have k1:IntKind.i64.wrap (9999-aC)=9999-aC:=aRr _ (by omega);have d1:decide (1≤f)=true:=by simp;omega
  have d2:decide (f≤9999-aC)=true:=by simp;omega
  go_upto_region 15 with fail;clear aj ak al am an ao ap aq ar au s r t;have r:=(M3.bk 4).cl 1;obtain⟨d0,ax,d1,ay,d2,az,d3,a5,d4,a6,d5,a7,d6,a8,d7,a9,d8,ba,d9,bb⟩:=(M3.bk 0).tenf;obtain⟨f0,u,f1,x,f2,y,f3,z,f4,aa,f5,ab,f6,ad,f7,ae,f8,af,f9,ag⟩:=(M3.bk 3).tenf;obtain⟨av,aw⟩:=M3.nq 0 3;have k2:IntKind.i64.wrap (aC+f)=aC+f:=aRr _ (by omega);clear HL;have M4:=(M3.st 0 7 (I (aC+f)))
  go_wp2;clear r d0 ax d1 ay d2 az d3 a5 d4 a6 d5 a7 d6 a8 d7 a9 d8 ba d9 bb f0 u f1 x f2 y f3 z f4 aa f5 ab f6 ad f7 ae f8 af f9 ag av aw;have M5:=(M4.put10 (i:=3) rfl (I aA) (I aB) (.slice p1 n cp1) (I a) (I b) (I aD) (I aF) (I (aC+f)) (I aG) (.slice q1 m cq1))
  generalize h:World.setCell _ _ _=wz;rw[h]at M5;clear h M3 M4;obtain⟨y0,y1,y2,y3,y4,y5,y6,y7,y8,y9⟩:=(M5.bk 3).ten;exact bodyPost_ret (v:= .tuple #[.agg #[aA,aB,.slice p1 n cp1,a,b,aD,aF,(aC+f:Int),aG,.slice q1 m cq1],(aC+f:Int),.bool true]) (by simp[results,results33,go_sem, *]) rfl ⟨p1,cp1,q1,cq1,rfl,(M5.ow 1),(M5.ow 2),M5.ext⟩
 ·obtain⟨aj,ak,al,am,an,ao,ap,aq,ar,au⟩:=(M3.bk 5).ten;obtain⟨s,r,t⟩:=(M3.bk 4).tri;have HS:=xQ hS;clear hS;go_wp2_with fail;clear aj ak al am an ao ap aq ar au s r t;refine(HS _ M3.ext).mono ?_;rintro e w4 ⟨p5,c5,rfl,a2,a4⟩;have M4:=(M3.call a4 a2)
  clear M3 a4 a2;have d0:=(M4.bk 1).cl 0;have ax:=(M4.bk 1).frozen 0;have d1:=(M4.bk 1).cl 1;have ay:=(M4.bk 1).frozen 1;have d2:=(M4.bk 1).cl 2;have az:=(M4.bk 1).frozen 2;go_upto_region 19 with fail;clear d0 ax d1 ay d2 az;have M5:=((M4.st 1 0 (I aA)).st 1 1 (I aB))
  have M6:=(M5.st 1 2 (.slice p5 n c5))
  have M7:=(M6)
  generalize h:World.setCell _ _ _=w5;rw[h]at M7;clear h M4 M5 M6;obtain⟨e0,e1,e2,e3,e4,e5,e6,e7,e8,e9⟩:=(M7.bk 1).ten;obtain⟨f0,u,f1,x,f2,y,f3,z,f4,aa,f5,ab,f6,ad,f7,ae,f8,af,f9,ag⟩:=(M7.bk 4).tenf;clear HL;go_wp2;clear e0 e1 e2 e3 e4 e5 e6 e7 e8 e9 f0 u f1 x f2 y f3 z f4 aa f5 ab f6 ad f7 ae f8 af f9 ag;have M8:=(M7.put10 (i:=4) rfl (I aA) (I aB) (.slice p5 n c5) (I a) (I b) (I aD) (I aF) (I aC) (I aG) (.slice q1 m cq1))
  generalize h:World.setCell _ _ _=wz;rw[h]at M8;clear h M7;obtain⟨y0,y1,y2,y3,y4,y5,y6,y7,y8,y9⟩:=(M8.bk 4).ten;exact bodyPost_ret (v:= .tuple #[.agg #[aA,aB,.slice p5 n c5,a,b,aD,aF,aC,aG,.slice q1 m cq1],(),.bool true]) (by simp[results,results33,go_sem, *]) rfl ⟨p5,c5,q1,cq1,rfl,(M8.ow 0),(M8.ow 3),M8.ext⟩
 ·obtain⟨s,r,t⟩:=(M3.bk 4).tri;have HY:=xQ hY;clear hY;have MK:=(show Mem w w3 ([aI w TI 1 (p1) (n) (cp1) (ivs xs),aI w TV 4 (q1) (m) (cq1) (vs.flatMap aE),aJ w (gA) aK #[aA,aB,.slice p1 n cp1,a,b,aD,aF,aC,aG,.slice q1 m cq1]]++ [aJ w (w.heap.size+1+1) aK #[(),(),((),()),(),(),(),(),(),(),((),())],aJ w (w.heap.size+1) THD #[(),f,k],aJ w w aK #[aA,aB,.slice p n cap,a,b,aD,aF,aC,aG,.slice q m c2]])from M3.pick [1,2,0,3,4,5] (by decide) rfl)
  go_wp2_with fail;clear s r t;refine(HY _ (yP [aJ w (w.heap.size+1+1) aK #[(),(),((),()),(),(),(),(),(),(),((),())],aJ w (w.heap.size+1) THD #[(),f,k],aJ w w aK #[aA,aB,.slice p n cap,a,b,aD,aF,aC,aG,.slice q m c2]]) gA p1 cp1 q1 cq1 (MK.fold [aI w TI 1 (p1) (n) (cp1) (ivs xs),aI w TV 4 (q1) (m) (cq1) (vs.flatMap aE),aJ w (gA) aK #[aA,aB,.slice p1 n cp1,a,b,aD,aF,aC,aG,.slice q1 m cq1]])).mono ?_;rintro e w5 ⟨p5,c5,q5,d5,rfl,ai⟩;clear M3;have M8:=(show Mem w w5 [aI w TI 1 (p5) (n) (c5) (ivs ys),aI w TV 4 (q5) (m2) (d5) (o.flatMap aE),aJ w (gA) aK #[aA,aB,.slice p5 n c5,a,b,aD,aF,aC,d,.slice q5 m2 d5],aJ w (w.heap.size+1+1) aK #[(),(),((),()),(),(),(),(),(),(),((),())],aJ w (w.heap.size+1) THD #[(),f,k],aJ w w aK #[aA,aB,.slice p n cap,a,b,aD,aF,aC,aG,.slice q m c2]]from Mem.frame [aI w TI 1 (p1) (n) (cp1) (ivs xs),aI w TV 4 (q1) (m) (cq1) (vs.flatMap aE),aJ w (gA) aK #[aA,aB,.slice p1 n cp1,a,b,aD,aF,aC,aG,.slice q1 m cq1]] [aI w TI 1 (p5) (n) (c5) (ivs ys),aI w TV 4 (q5) (m2) (d5) (o.flatMap aE),aJ w (gA) aK #[aA,aB,.slice p5 n c5,a,b,aD,aF,aC,d,.slice q5 m2 d5]] MK ai)
  clear ai MK HY HL;obtain⟨e0,e1,e2,e3,e4,e5,e6,e7,e8,e9⟩:=(M8.bk 2).ten;obtain⟨f0,u,f1,x,f2,y,f3,z,f4,aa,f5,ab,f6,ad,f7,ae,f8,af,f9,ag⟩:=(M8.bk 3).tenf;go_wp2;clear e0 e1 e2 e3 e4 e5 e6 e7 e8 e9 f0 u f1 x f2 y f3 z f4 aa f5 ab f6 ad f7 ae f8 af f9 ag;have g:=(M8.put10 (i:=3) rfl (I aA) (I aB) (.slice p5 n c5) (I a) (I b) (I aD) (I aF) (I aC) (I d) (.slice q5 m2 d5))
  generalize h:World.setCell _ _ _=wz;rw[h]at g;clear h M8;obtain⟨y0,y1,y2,y3,y4,y5,y6,y7,y8,y9⟩:=(g.bk 3).ten;exact bodyPost_ret (v:= .tuple #[.agg #[aA,aB,.slice p5 n c5,a,b,aD,aF,aC,d,.slice q5 m2 d5],ah,.bool true]) (by simp[results,results33,go_sem, *]) rfl ⟨p5,c5,q5,d5,rfl,(g.ow 0),(g.ow 1),g.ext⟩
 ·obtain⟨s,r,t⟩:=(M3.bk 4).tri;have HY:=xQ hY;clear hY;have MK:=(show Mem w w3 ([aI w TI 1 (p1) (n) (cp1) (ivs xs),aI w TV 4 (q1) (m) (cq1) (vs.flatMap aE),aJ w (gA) aK #[aA,aB,.slice p1 n cp1,a,b,aD,aF,aC,aG,.slice q1 m cq1]]++ [aJ w (w.heap.size+1+1) aK #[(),(),((),()),(),(),(),(),(),(),((),())],aJ w (w.heap.size+1) THD #[I 1,f,k],aJ w w aK #[aA,aB,.slice p n cap,a,b,aD,aF,aC,aG,.slice q m c2]])from M3.pick [1,2,0,3,4,5] (by decide) rfl)
  go_wp2_with fail;clear s r t;refine(HY _ (yP [aJ w (w.heap.size+1+1) aK #[(),(),((),()),(),(),(),(),(),(),((),())],aJ w (w.heap.size+1) THD #[I 1,f,k],aJ w w aK #[aA,aB,.slice p n cap,a,b,aD,aF,aC,aG,.slice q m c2]]) gA p1 cp1 q1 cq1 (MK.fold [aI w TI 1 (p1) (n) (cp1) (ivs xs),aI w TV 4 (q1) (m) (cq1) (vs.flatMap aE),aJ w (gA) aK #[aA,aB,.slice p1 n cp1,a,b,aD,aF,aC,aG,.slice q1 m cq1]])).mono ?_;rintro e w5 ⟨p5,c5,q5,d5,rfl,ai⟩;clear M3;have M8:=(show Mem w w5 [aI w TI 1 (p5) (n) (c5) (ivs ys),aI w TV 4 (q5) (m2) (d5) (o.flatMap aE),aJ w (gA) aK #[aA,aB,.slice p5 n c5,a,b,aD,aF,aC,d,.slice q5 m2 d5],aJ w (w.heap.size+1+1) aK #[(),(),((),()),(),(),(),(),(),(),((),())],aJ w (w.heap.size+1) THD #[I 1,f,k],aJ w w aK #[aA,aB,.slice p n cap,a,b,aD,aF,aC,aG,.slice q m c2]]from Mem.frame [aI w TI 1 (p1) (n) (cp1) (ivs xs),aI w TV 4 (q1) (m) (cq1) (vs.flatMap aE),aJ w (gA) aK #[aA,aB,.slice p1 n cp1,a,b,aD,aF,aC,aG,.slice q1 m cq1]] [aI w TI 1 (p5) (n) (c5) (ivs ys),aI w TV 4 (q5) (m2) (d5) (o.flatMap aE),aJ w (gA) aK #[aA,aB,.slice p5 n c5,a,b,aD,aF,aC,d,.slice q5 m2 d5]] MK ai)
  clear ai MK HY HL;obtain⟨e0,e1,e2,e3,e4,e5,e6,e7,e8,e9⟩:=(M8.bk 2).ten;obtain⟨f0,u,f1,x,f2,y,f3,z,f4,aa,f5,ab,f6,ad,f7,ae,f8,af,f9,ag⟩:=(M8.bk 3).tenf;go_wp2;clear e0 e1 e2 e3 e4 e5 e6 e7 e8 e9 f0 u f1 x f2 y f3 z f4 aa f5 ab f6 ad f7 ae f8 af f9 ag;have g:=(M8.put10 (i:=3) rfl (I aA) (I aB) (.slice p5 n c5) (I a) (I b) (I aD) (I aF) (I aC) (I d) (.slice q5 m2 d5))
  generalize h:World.setCell _ _ _=wz;rw[h]at g;clear h M8;obtain⟨y0,y1,y2,y3,y4,y5,y6,y7,y8,y9⟩:=(g.bk 3).ten;exact bodyPost_ret (v:= .tuple #[.agg #[aA,aB,.slice p5 n c5,a,b,aD,aF,aC,d,.slice q5 m2 d5],ah,.bool true]) (by simp[results,results33,go_sem, *]) rfl ⟨p5,c5,q5,d5,rfl,(g.ow 0),(g.ow 1),g.ext⟩
 obtain⟨s,r,t⟩:=(M3.bk 4).tri;have HY:=xQ hY;clear hY;have MK:=(show Mem w w3 ([aI w TI 1 (p1) (n) (cp1) (ivs xs),aI w TV 4 (q1) (m) (cq1) (vs.flatMap aE),aJ w (gA) aK #[aA,aB,.slice p1 n cp1,a,b,aD,aF,aC,aG,.slice q1 m cq1]]++ [aJ w (w.heap.size+1+1) aK #[(),(),((),()),(),(),(),(),(),(),((),())],aJ w (w.heap.size+1) THD #[I 2,f,k],aJ w w aK #[aA,aB,.slice p n cap,a,b,aD,aF,aC,aG,.slice q m c2]])from M3.pick [1,2,0,3,4,5] (by decide) rfl)
 go_wp2_with fail;clear s r t;refine(HY _ (yP [aJ w (w.heap.size+1+1) aK #[(),(),((),()),(),(),(),(),(),(),((),())],aJ w (w.heap.size+1) THD #[I 2,f,k],aJ w w aK #[aA,aB,.slice p n cap,a,b,aD,aF,aC,aG,.slice q m c2]]) gA p1 cp1 q1 cq1 (MK.fold [aI w TI 1 (p1) (n) (cp1) (ivs xs),aI w TV 4 (q1) (m) (cq1) (vs.flatMap aE),aJ w (gA) aK #[aA,aB,.slice p1 n cp1,a,b,aD,aF,aC,aG,.slice q1 m cq1]])).mono ?_;rintro e w5 ⟨p5,c5,q5,d5,rfl,ai⟩;clear M3;have M8:=(show Mem w w5 [aI w TI 1 (p5) (n) (c5) (ivs ys),aI w TV 4 (q5) (m2) (d5) (o.flatMap aE),aJ w (gA) aK #[aA,aB,.slice p5 n c5,a,b,aD,aF,aC,d,.slice q5 m2 d5],aJ w (w.heap.size+1+1) aK #[(),(),((),()),(),(),(),(),(),(),((),())],aJ w (w.heap.size+1) THD #[I 2,f,k],aJ w w aK #[aA,aB,.slice p n cap,a,b,aD,aF,aC,aG,.slice q m c2]]from Mem.frame [aI w TI 1 (p1) (n) (cp1) (ivs xs),aI w TV 4 (q1) (m) (cq1) (vs.flatMap aE),aJ w (gA) aK #[aA,aB,.slice p1 n cp1,a,b,aD,aF,aC,aG,.slice q1 m cq1]] [aI w TI 1 (p5) (n) (c5) (ivs ys),aI w TV 4 (q5) (m2) (d5) (o.flatMap aE),aJ w (gA) aK #[aA,aB,.slice p5 n c5,a,b,aD,aF,aC,d,.slice q5 m2 d5]] MK ai)
 clear ai MK HY HL;obtain⟨e0,e1,e2,e3,e4,e5,e6,e7,e8,e9⟩:=(M8.bk 2).ten;obtain⟨f0,u,f1,x,f2,y,f3,z,f4,aa,f5,ab,f6,ad,f7,ae,f8,af,f9,ag⟩:=(M8.bk 3).tenf;go_wp2;clear e0 e1 e2 e3 e4 e5 e6 e7 e8 e9 f0 u f1 x f2 y f3 z f4 aa f5 ab f6 ad f7 ae f8 af f9 ag;have g:=(M8.put10 (i:=3) rfl (I aA) (I aB) (.slice p5 n c5) (I a) (I b) (I aD) (I aF) (I aC) (I d) (.slice q5 m2 d5))
 generalize h:World.setCell _ _ _=wz;rw[h]at g;clear h M8;obtain⟨y0,y1,y2,y3,y4,y5,y6,y7,y8,y9⟩:=(g.bk 3).ten;exact bodyPost_ret (v:= .tuple #[.agg #[aA,aB,.slice p5 n c5,a,b,aD,aF,aC,d,.slice q5 m2 d5],ah,.bool true]) (by simp[results,results33,go_sem, *]) rfl ⟨p5,c5,q5,d5,rfl,(g.ow 0),(g.ow 1),g.ext⟩
end
theorem vU (h:aL)(k a b:Int)(p:OA)(n cap:Nat)(q:OA)(m c2:Nat)(w:World)(hi:IsHouse w h p n cap q m c2)(c:aR h=false):
  U 33 #[bM h p n cap q m c2,fU k a b] w (O (.tuple #[.agg #[(),(),((),()),(),(),(),(),(),(),((),())],(-1:Int),.bool false]) w):=
 aHg h.aA h.aB h.free h.step h.aD h.aF h.aC h.aG k a b p n cap q m c2 h.cells h.vs w (xQ fun w' hx=>by have:=iF h p n cap q m c2 w' (hi.ext hx);rwa[c]at this)
theorem uZ (h:aL)(k a b:Int)(p:OA)(n cap:Nat)(q:OA)(m c2:Nat)(w:World)(hi:IsHouse w h p n cap q m c2)(j:aR h=true)(hE:BitTab w):
  U 33 #[bM h p n cap q m c2,fU k a b] w (aIy h (cO h k a b) w):=by
 obtain⟨q1,q2,q3,q4,q5⟩:=(eL h).1 j;have y:=dE j;have hl:=hi.clen;have x:=hi.vlen;have hS:=hi.cells;have hV:=hi.vs;subst hl x;have d:=xQ fun(w':World) (hx:Ext w w')=>(by have:=iF h p _ cap q _ c2 w' (hi.ext hx);rwa[j]at this:U 31 #[bM h p h.cells.length cap q h.vs.length c2] w' (O (.bool true) w'))
 have HL:=xQ fun(w':World) (hx:Ext w w')=>kP h p _ cap q _ c2 w' (by omega) (by omega) (hi.ext hx)
 unfold RetHouse at HL;by_cases k0:k=0
 ·subst k0;have e0:cO h 0 a b=(if 0≤(cK h.aA h.aB h.cells a).2 then some ({h with cells:=(cK h.aA h.aB h.cells a).1,vs:=lF (a,h.aC,0,h.aC) h.vs},(cK h.aA h.aB h.cells a).2)else none):=by unfold cO;rw[if_pos rfl]
  have el:(cK h.aA h.aB h.cells a).1.length=h.cells.length:=by
   by_cases h0:0≤(cK h.aA h.aB h.cells a).2
   ·obtain⟨zs,s1,_,_,s4,_⟩:=nP q1 h0;rw[s4,aTb,s1.length_eq]
   unfold cK at h0⊢;split at h0
   ·rfl
   dsimp only at h0;omega
  have HP: ∀(w':World) (p1:OA) (cp1:Nat),Sl w' p1 h.cells.length cp1 1 (ivs h.cells)→U 117 #[aH h.aA h.aB p1 h.cells.length cp1,a] w' fun e w''=> ∃q c,e= .returned (.tuple #[aH h.aA h.aB q h.cells.length c,I (cK h.aA h.aB h.cells a).2])∧w''.ownsRow w' TI 1 (.slice q h.cells c) h.cells.length (ivs (cK h.aA h.aB h.cells a).1)∧Ext w' w'':=fun w' p1 cp1 hs=>by have:=aKd h.aA h.aB a p1 _ cp1 h.cells w' hs q1;unfold cT at this;rw[el]at this;exact this
  rw[e0];by_cases h0:0≤(cK h.aA h.aB h.cells a).2
  ·rw[if_pos h0];refine(mB h.aA h.aB h.free h.step h.aD h.aF h.aC h.aG 0 a b h.aC h.aG (cK h.aA h.aB h.cells a).2 p _ cap q _ c2 (h.vs.length+1) h.cells (cK h.aA h.aB h.cells a).1 h.vs (lF (a,h.aC,0,h.aC) h.vs) w d HL (.inr (.inr (.inl ⟨rfl,rfl,fun w' R gA p1 cp1 q1 cq1 hM=> ?_⟩)))).mono ?_
   ·exact aHj w w' R gA h.aA h.aB h.free h.step h.aD h.aF h.aC h.aG a _ p1 _ cp1 q1 _ cq1 h.cells _ h.vs (by omega) h0 rfl hM (fun w2 hx=>HP w2 p1 cp1 ((Mem.sl hM (i:=0) rfl).ext hx))
   rintro e w' ⟨p',cap',q',f,rfl,o1,o2,hx⟩;refine⟨p',cap',q',f,?_,?_,?_,hx⟩
   ·simp[bM,el,sD]
   ·dsimp only;rw[el];exact o1
   dsimp only;rw[sD];exact o2
  rw[if_neg h0];exact iG h.aA h.aB h.free h.step h.aD h.aF h.aC h.aG 0 a b p _ cap q _ c2 h.cells h.cells h.vs w d HL (.inr (.inr (.inr (.inr (.inl ⟨rfl,fun w' R gA p1 cp1 q1 cq1 hM=>aKu w' gA h.aA h.aB h.free h.step h.aD h.aF h.aC h.aG a _ p1 _ cp1 q1 _ cq1 _ (by omega) (Mem.blk hM (i:=2) rfl) (fun w2 hx2=>HP w2 p1 cp1 ((Mem.sl hM (i:=0) rfl).ext hx2))⟩)))))
 by_cases k1:k=1
 ·subst k1;have e0:cO h 1 a b=oY h a b:=by unfold cO;rw[if_neg (by omega),if_pos rfl]
  rw[e0];rcases nF a h.vs with⟨h1,h2⟩|⟨kk,a1,a2,a3,hk,h1,hx,h2⟩
  ·have hr:oY h a b=none:=by unfold oY;rw[h2]
   rw[hr]
   exact iG h.aA h.aB h.free h.step h.aD h.aF h.aC h.aG 1 a b p _ cap q _ c2 h.cells h.cells h.vs w d HL (.inr (.inr (.inr (.inr (.inr (.inl ⟨rfl,fun w' R gA p1 cp1 q1 cq1 hM=>aEt w' gA h.aA h.aB h.free h.step h.aD h.aF h.aC h.aG a b p1 _ cp1 q1 _ cq1 (Mem.blk hM (i:=2) rfl) (fun w2 hx2=>by
    have:=jO h.aA h.aB h.free h.step h.aD h.aF h.aC h.aG a p1 h.cells.length cp1 q1 _ cq1 h.vs w2 ((Mem.sl hM (i:=1) rfl).ext hx2)
    rwa[h1]at this)⟩))))))
  obtain⟨s1,s2⟩:=(iY _ _).1 (q5 _ (aRs hx));dsimp only at s1 s2;have hD:=(kE q2 s1 s2 q3.2.1).1;have HP:=fun(w':World)=>aEi h.free h.step h.aD h.aF a1 a2 a3 h.aC b w' q2 s1 s2 q3.2.1
  have g:=aBr (amt:=b) hD;have hr:oY h a b=if(fS h.free h.step h.aD h.aF a1 a2 a3 h.aC b).2.2=true∧h.aG+b-(fS h.free h.step h.aD h.aF a1 a2 a3 h.aC b).2.1≤99999 then some ({h with aG:=h.aG+b-(fS h.free h.step h.aD h.aF a1 a2 a3 h.aC b).2.1,vs:=h.vs.set kk (a,(fS h.free h.step h.aD h.aF a1 a2 a3 h.aC b).1)},(fS h.free h.step h.aD h.aF a1 a2 a3 h.aC b).2.1)else none:=by unfold oY;rw[h2,h1];rfl
  rw[hr];generalize fS h.free h.step h.aD h.aF a1 a2 a3 h.aC b=r at*;obtain⟨⟨S1,S2,S3⟩,bk,o⟩:=r;dsimp only at HP g⊢;have s: ∀(w':World) (p1:OA) (cp1:Nat) (q1:OA) (cq1:Nat),Sl w' q1 h.vs.length cq1 4 (h.vs.flatMap aE)→U 119 #[.agg #[h.aA,h.aB,.slice p1 h.cells cp1,h.free,h.step,h.aD,h.aF,h.aC,h.aG,.slice q1 h.vs cq1],a] w' (O (I kk) w'):=fun w' p1 cp1 q1 cq1 hs=>by have:=jO h.aA h.aB h.free h.step h.aD h.aF h.aC h.aG a p1 h.cells.length cp1 q1 _ cq1 h.vs w' hs;rwa[h1]at this
  by_cases hq:o=true∧h.aG+b-bk≤99999
  ·rw[if_pos hq];refine(mB h.aA h.aB h.free h.step h.aD h.aF h.aC h.aG 1 a b h.aC (h.aG+b-bk) bk p _ cap q _ c2 h.vs.length h.cells h.cells h.vs (h.vs.set kk (a,S1,S2,S3)) w d HL (.inr (.inr (.inr (.inl ⟨rfl,rfl,fun w' R gA p1 cp1 q1 cq1 hM=> ?_⟩))))).mono ?_
   ·obtain⟨gq,rfl,_,_⟩:=Mem.some hM (i:=1) rfl (by omega);refine(aEs w w' R gA gq h.aA h.aB h.free h.step h.aD h.aF h.aC h.aG a b p1 _ cp1 _ cq1 kk h.cells h.vs a a1 a2 a3 S1 S2 S3 bk o hk (by omega) q3.2.2.1 q3.2.2.2 g hx hM (fun w2 hx2=>s w2 p1 cp1 _ cq1 ((Mem.sl hM (i:=1) rfl).ext hx2)) HP).mono ?_;rintro e w2 (⟨_,hno,_⟩|⟨_,_,rfl,l⟩)
    ·exact absurd hq hno
    exact⟨p1,cp1,_,cq1,rfl,l⟩
   rintro e w' ⟨p',cap',q',f,rfl,o1,o2,hx⟩;refine⟨p',cap',q',f,?_,o1,?_,hx⟩
   ·simp[bM]
   simpa using o2
  rw[if_neg hq];refine iG h.aA h.aB h.free h.step h.aD h.aF h.aC h.aG 1 a b p _ cap q _ c2 h.cells h.cells h.vs w d HL (.inr (.inr (.inr (.inr (.inr (.inl ⟨rfl,fun w' R gA p1 cp1 q1 cq1 hM=> ?_⟩))))));obtain⟨gq,rfl,_,_⟩:=Mem.some hM (i:=1) rfl (by omega);refine(aEs w w' R gA gq h.aA h.aB h.free h.step h.aD h.aF h.aC h.aG a b p1 _ cp1 _ cq1 kk h.cells h.vs a a1 a2 a3 S1 S2 S3 bk o hk (by omega) q3.2.2.1 q3.2.2.2 g hx hM (fun w2 hx2=>s w2 p1 cp1 _ cq1 ((Mem.sl hM (i:=1) rfl).ext hx2)) HP).mono ?_;rintro e w2 (⟨rfl,_,hx2⟩|⟨e1,e2,_,_⟩)
  ·exact⟨rfl,hx2⟩
  exact absurd ⟨e1,e2⟩ hq
 by_cases k2:k=2
 ·subst k2;have HP: ∀(w':World) (p1:OA) (cp1:Nat),Ext w w'→Sl w' p1 h.cells.length cp1 1 (ivs h.cells)→U 121 #[aH h.aA h.aB p1 h.cells.length cp1,a] w' fun e w''=> ∃q c,e= .returned (.tuple #[aH h.aA h.aB q h.cells.length c,I (cA h.aA h.aB h.cells a).2])∧w''.ownsRow w' TI 1 (.slice q h.cells c) h.cells.length (ivs (cA h.aA h.aB h.cells a).1)∧Ext w' w'':=fun w' p1 cp1 hx hs=>by
   have:=aKr h.aA h.aB a p1 _ cp1 h.cells w' hs q1 (hE.ext hx);have el:(cA h.aA h.aB h.cells a).1.length=h.cells.length:=by
    by_cases h0:0≤(cA h.aA h.aB h.cells a).2
    ·obtain⟨zs,s1,_,_,s4,_⟩:=mE q1 h0;rw[s4,aTb,s1.length_eq]
    unfold cA at h0⊢;split at h0
    ·rfl
    dsimp only at h0;omega
   unfold cT at this;rw[el]at this;exact this
  have el:(cA h.aA h.aB h.cells a).1.length=h.cells.length:=by
   by_cases h0:0≤(cA h.aA h.aB h.cells a).2
   ·obtain⟨zs,s1,_,_,s4,_⟩:=mE q1 h0;rw[s4,aTb,s1.length_eq]
   unfold cA at h0⊢;split at h0
   ·rfl
   dsimp only at h0;omega
  have HM: ∀(w':World) (p1:OA) (cp1:Nat) (q1:OA) (cq1:Nat),Sl w' p1 h.cells.length cp1 1 (ivs h.cells)→Sl w' q1 h.vs.length cq1 4 (h.vs.flatMap aE)→U 93 #[.agg #[h.aA,h.aB,.slice p1 h.cells cp1,h.free,h.step,h.aD,h.aF,h.aC,h.aG,.slice q1 h.vs cq1],a] w' (O (.bool (dQ h a)) w'):=fun w' p1 cp1 q1 cq1 hs hv=>sN h a p1 _ cp1 q1 _ cq1 w' ⟨hs,hv⟩
  have e0:cO h 2 a b=(if dQ h a=true∧0≤(cA h.aA h.aB h.cells a).2 then some ({h with cells:=(cA h.aA h.aB h.cells a).1,vs:=h.vs.eraseIdx (vix a h.vs).toNat},(cA h.aA h.aB h.cells a).2)else none):=by unfold cO;rw[if_neg (by omega),if_neg (by omega),if_pos rfl]
  rw[e0];by_cases hmy:dQ h a=true
  ·rw[hmy]at HM;by_cases h0:0≤(cA h.aA h.aB h.cells a).2
   ·rw[if_pos ⟨hmy,h0⟩];have hv: ∃v,eA a h.vs=some v:=by
     have:=hmy;unfold dQ cV at this;rw[if_pos j]at this;cases hv:eA a h.vs with
     |none=>rw[hv]at this;simp at this
     |some v=>exact⟨v,rfl⟩
    obtain⟨v,hv⟩:=hv;obtain⟨v1,v2,v3,v4,v5,v6⟩:=kR hv;generalize hk:(vix a h.vs).toNat=kk at*;have t:(h.vs.eraseIdx kk).length=h.vs.length-1:=by rw[List.length_eraseIdx,if_pos v4]
    refine(mB h.aA h.aB h.free h.step h.aD h.aF h.aC h.aG 2 a b h.aC h.aG (cA h.aA h.aB h.cells a).2 p _ cap q _ c2 (h.vs.length-1) h.cells (cA h.aA h.aB h.cells a).1 h.vs (h.vs.eraseIdx kk) w d HL (.inr (.inr (.inr (.inr ⟨rfl,rfl,fun w' R gA p1 cp1 q1 cq1 hM=> ?_⟩))))).mono ?_
    ·obtain⟨gq,rfl,_,_⟩:=Mem.some hM (i:=1) rfl (by omega);refine(aHh w w' R gA h.aA h.aB h.free h.step h.aD h.aF h.aC h.aG a _ p1 _ cp1 gq _ cq1 kk h.cells _ h.vs v4 (by omega) h0 hM (fun w2 hx2=>HM w2 p1 cp1 _ cq1 ((Mem.sl hM (i:=0) rfl).ext hx2) ((Mem.sl hM (i:=1) rfl).ext hx2)) (fun w2 hx2=>HP w2 p1 cp1 (hM.ext.trans hx2) ((Mem.sl hM (i:=0) rfl).ext hx2)) (fun w2 p' cap' hs=> ?_)).mono ?_
     ·have:=jO h.aA h.aB h.free h.step h.aD h.aF h.aC h.aG a p' h.cells.length cap' _ _ cq1 h.vs w2 hs;rwa[v5]at this
     rintro e w2 ⟨p5,c5,rfl,l⟩;exact⟨p5,c5,_,cq1,rfl,l⟩
    rintro e w' ⟨p',cap',q',f,rfl,o1,o2,hx⟩;refine⟨p',cap',q',f,?_,?_,?_,hx⟩
    ·simp only[bM,el,t]
    ·dsimp only;rw[el];exact o1
    dsimp only;rw[t];exact o2
   rw[if_neg (by intro e;exact h0 e.2)];exact iG h.aA h.aB h.free h.step h.aD h.aF h.aC h.aG 2 a b p _ cap q _ c2 h.cells h.cells h.vs w d HL (.inr (.inr (.inr (.inr (.inr (.inr ⟨rfl,fun w' R gA p1 cp1 q1 cq1 hM=>aKt w' gA h.aA h.aB h.free h.step h.aD h.aF h.aC h.aG a _ p1 _ cp1 q1 _ cq1 _ (by omega) (Mem.blk hM (i:=2) rfl) (fun w2 hx2=>HM w2 p1 cp1 _ cq1 ((Mem.sl hM (i:=0) rfl).ext hx2) ((Mem.sl hM (i:=1) rfl).ext hx2)) (fun w2 hx2=>HP w2 p1 cp1 (hM.ext.trans hx2) ((Mem.sl hM (i:=0) rfl).ext hx2))⟩))))))
  rw[if_neg (by intro e;exact hmy e.1)];have u:dQ h a=false:=by simpa using hmy
  rw[u]at HM;exact iG h.aA h.aB h.free h.step h.aD h.aF h.aC h.aG 2 a b p _ cap q _ c2 h.cells h.cells h.vs w d HL (.inr (.inr (.inr (.inr (.inr (.inr ⟨rfl,fun w' R gA p1 cp1 q1 cq1 hM=>aHi w' gA h.aA h.aB h.free h.step h.aD h.aF h.aC h.aG a 0 p1 _ cp1 q1 _ cq1 (Mem.blk hM (i:=2) rfl) (fun w2 hx2=>HM w2 p1 cp1 _ cq1 ((Mem.sl hM (i:=0) rfl).ext hx2) ((Mem.sl hM (i:=1) rfl).ext hx2))⟩))))))
 by_cases k3:k=3
 ·subst k3;have e0:cO h 3 a b=(if 1≤a∧a≤9999-h.aC then some ({h with aC:=h.aC+a},h.aC+a)else none):=by unfold cO;rw[if_neg (by omega),if_neg (by omega),if_neg (by omega),if_pos rfl]
  rw[e0];by_cases h1:1≤a
  ·by_cases h2:a≤9999-h.aC
   ·rw[if_pos ⟨h1,h2⟩];exact mB h.aA h.aB h.free h.step h.aD h.aF h.aC h.aG 3 a b (h.aC+a) h.aG (h.aC+a) p _ cap q _ c2 _ h.cells _ h.vs _ w d HL (.inl ⟨rfl,q3.1,q3.2.1,h1,h2,rfl,rfl,rfl,rfl,rfl,rfl⟩)
   rw[if_neg (by omega)];exact iG h.aA h.aB h.free h.step h.aD h.aF h.aC h.aG 3 a b p _ cap q _ c2 h.cells h.cells h.vs w d HL (.inr (.inr (.inl ⟨rfl,q3.1,q3.2.1,h1,by omega⟩)))
  rw[if_neg (by omega)];exact iG h.aA h.aB h.free h.step h.aD h.aF h.aC h.aG 3 a b p _ cap q _ c2 h.cells h.cells h.vs w d HL (.inr (.inl ⟨rfl,q3.1,q3.2.1,by omega⟩))
 by_cases k4:k=4
 ·subst k4;have HP:=xQ fun(w':World) (hx:Ext w w')=>aAc h.aA h.aB a b p _ cap h.cells w' (hS.ext hx) q1
  have e0:cO h 4 a b=(if bF h.aA h.aB h.cells a b=true then some ({h with cells:=bI h.aA h.aB h.cells a b},0)else none):=by unfold cO;rw[if_neg (by omega),if_neg (by omega),if_neg (by omega),if_neg (by omega),if_pos rfl]
  unfold cW at HP;rw[dB]at HP;rw[e0];cases hm:bF h.aA h.aB h.cells a b with
  |true=>
   rw[hm]at HP;rw[if_pos rfl];refine(mB h.aA h.aB h.free h.step h.aD h.aF h.aC h.aG 4 a b h.aC h.aG 0 p _ cap q _ c2 _ h.cells (bI h.aA h.aB h.cells a b) h.vs _ w d HL (.inr (.inl ⟨rfl,rfl,rfl,rfl,rfl,rfl,HP⟩))).mono ?_;rintro e w' ⟨p',cap',q',f,rfl,o1,o2,hx⟩;refine⟨p',cap',q',f,?_,?_,o2,hx⟩
   ·simp only[bM,dB]
   dsimp only;rw[dB];exact o1
  |false=>rw[hm]at HP;rw[if_neg (by simp)];exact iG h.aA h.aB h.free h.step h.aD h.aF h.aC h.aG 4 a b p _ cap q _ c2 h.cells (bI h.aA h.aB h.cells a b) h.vs w d HL (.inr (.inr (.inr (.inl ⟨rfl,HP⟩))))
 have e0:cO h k a b=none:=by unfold cO;rw[if_neg k0,if_neg k1,if_neg k2,if_neg k3,if_neg k4]
 rw[e0];exact iG h.aA h.aB h.free h.step h.aD h.aF h.aC h.aG k a b p _ cap q _ c2 h.cells h.cells h.vs w d HL (.inl ⟨k0,k1,k2,k3,k4⟩)
end Go.Proofs.YtbgkcehffiogcacGreatDoor
