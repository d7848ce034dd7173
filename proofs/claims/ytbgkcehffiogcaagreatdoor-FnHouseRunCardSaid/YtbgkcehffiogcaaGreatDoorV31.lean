/-
  Texts of this proof, packed (@packed).
-/
import Derived.Test.YtbgkcehffiogcaaGreatDoorV30
namespace Go.Proofs.YtbgkcehffiogcaaGreatDoor
open Go.RowKit
set_option linter.unusedSimpArgs false
set_option linter.unusedVariables false
set_option maxHeartbeats 8000000
set_option maxRecDepth 100000
section
open Go.Proofs.Tryz
theorem aBv (aA aB a b aE aF aC aG c f g:Int)(p:OA)(n d:Nat)(q:OA)(m c2:Nat)(xs:List Int)(vs:List aS)(w:World)
  (h:xB 16 #[.agg #[aA,aB,.slice p n d,a,b,aE,aF,aC,aG,.slice q m c2]] w false):
  U 13 #[.agg #[aA,aB,.slice p n d,a,b,aE,aF,aC,aG,.slice q m c2],.agg #[c,f,g]] w (O (.tuple #[.agg #[(),(),((),()),(),(),(),(),(),(),((),())],(-1:Int),.bool false]) w):=by
 go_enter func13,ntmps13;go_wp2_with fail;refine Z (h _ ((((Mem.start w).c0 aL #[aA,aB,.slice p n d,a,b,aE,aF,aC,aG,.slice q m c2]).c1 THD #[c,f,g]).c2 aL zT).ext) fun w1 k=>?_
 have M1:=(((((Mem.start w).c0 aL #[aA,aB,.slice p n d,a,b,aE,aF,aC,aG,.slice q m c2]).c1 THD #[c,f,g]).c2 aL zT).adv k)
 clear k h;obtain⟨f0,l,f1,o,f2,r,f3,s,f4,t,f5,u,f6,x,f7,y,f8,z,f9,aa⟩:=(M1.bk 0).tenf;go_wp2;clear f0 l f1 o f2 r f3 s f4 t f5 u f6 x f7 y f8 z f9 aa;have M2:=(M1.put10 (i:=0) rfl (I 0) (I 0) (.slice none 0 0) (I 0) (I 0) (I 0) (I 0) (I 0) (I 0) (.slice none 0 0))
 generalize j:World.setCell _ _ _=wz;rw[j]at M2;clear j M1;obtain⟨y0,y1,y2,y3,y4,y5,y6,y7,y8,y9⟩:=(M2.bk 0).ten;exact bodyPost_ret (v:= .tuple #[.agg #[(),(),((),()),(),(),(),(),(),(),((),())],(-1:Int),.bool false]) (by simp[results,results13,go_sem, *]) rfl ⟨rfl,M2.ext⟩
theorem fV (aA aB a b aE aF aC aG d j aq:Int)(p:OA)(n am:Nat)(q:OA)(m c2:Nat)(xs ys:List Int)(vs:List aS)(w:World)
  (au:xB 16 #[.agg #[aA,aB,.slice p n am,a,b,aE,aF,aC,aG,.slice q m c2]] w true)
  (HL:xC 24 #[.agg #[aA,aB,.slice p n am,a,b,aE,aF,aC,aG,.slice q m c2]] w fun w' e w''=> ∃p' cap' q' c2',e= .returned (.agg #[aA,aB,.slice p' n cap',a,b,aE,aF,aC,aG,.slice q' m c2'])∧w''.ownsRow w' TI 1 (.slice p' n cap') n (ivs xs)∧w''.ownsRow w' TV 4 (.slice q' m c2') m (vs.flatMap aD)∧Ext w' w'')
  (D:(d≠0∧d≠1∧d≠2∧d≠3∧d≠4)∨(d=3∧0≤aC∧aC≤9999∧j<1)∨(d=3∧0≤aC∧aC≤9999∧1≤j∧9999-aC<j)∨(d=4∧(∀w',Ext w w'→U 37 #[aH aA aB p n am,dH j aq] w' fun e w''=> ∃q c,e= .returned (.tuple #[aH aA aB q n c,.bool false])∧w''.ownsRow w' TI 1 (.slice q n c) n (ivs ys)∧Ext w' w''))∨(d=0∧(∀w' R gA p1 cp1 q1 cq1,Mem w w' ([aJ w TI 1 (p1) (n) (cp1) (ivs xs),aJ w TV 4 (q1) (m) (cq1) (vs.flatMap aD),aI w (gA) aL #[aA,aB,.slice p1 n cp1,a,b,aE,aF,aC,aG,.slice q1 m cq1]]++ [R])→U 34 #[.pointer (some ⟨gA,0,none⟩),j] w' (O (.tuple #[(-1:Int),.bool false]) w')))∨(d=1∧(∀w' R gA p1 cp1 q1 cq1,Mem w w' ([aJ w TI 1 (p1) (n) (cp1) (ivs xs),aJ w TV 4 (q1) (m) (cq1) (vs.flatMap aD),aI w (gA) aL #[aA,aB,.slice p1 n cp1,a,b,aE,aF,aC,aG,.slice q1 m cq1]]++ [R])→U 35 #[.pointer (some ⟨gA,0,none⟩),j,aq] w' (O (.tuple #[(-1:Int),.bool false]) w')))∨(d=2∧(∀w' R gA p1 cp1 q1 cq1,Mem w w' ([aJ w TI 1 (p1) (n) (cp1) (ivs xs),aJ w TV 4 (q1) (m) (cq1) (vs.flatMap aD),aI w (gA) aL #[aA,aB,.slice p1 n cp1,a,b,aE,aF,aC,aG,.slice q1 m cq1]]++ [R])→U 36 #[.pointer (some ⟨gA,0,none⟩),j] w' (O (.tuple #[(-1:Int),.bool false]) w')))):
  U 13 #[.agg #[aA,aB,.slice p n am,a,b,aE,aF,aC,aG,.slice q m c2],.agg #[d,j,aq]] w fun e w'=> ∃p' cap' q' c2',e= .returned (.tuple #[.agg #[aA,aB,.slice p' n cap',a,b,aE,aF,aC,aG,.slice q' m c2'],(-1:Int),.bool false])∧w'.ownsRow w TI 1 (.slice p' n cap') n (ivs xs)∧w'.ownsRow w TV 4 (.slice q' m c2') m (vs.flatMap aD)∧Ext w w':=by
 go_enter func13,ntmps13;go_wp2_with fail;refine Z (au _ ((((Mem.start w).c0 aL #[aA,aB,.slice p n am,a,b,aE,aF,aC,aG,.slice q m c2]).c1 THD #[d,j,aq]).c2 aL zT).ext) fun w1 aw=>?_
 have M1:=(((((Mem.start w).c0 aL #[aA,aB,.slice p n am,a,b,aE,aF,aC,aG,.slice q m c2]).c1 THD #[d,j,aq]).c2 aL zT).adv aw)
 clear aw au;obtain⟨k,l,o,r,s,t,u,x,y,z⟩:=(M1.bk 2).ten;go_wp2_with fail;clear k l o r s t u x y z;refine(HL _ M1.ext).mono ?_;rintro e w2 ⟨p1,cp1,q1,cq1,rfl,ho,hq,hx⟩;have M2:=(M1.own2 hx ho hq (aK1 _) (by decide))
 clear M1 hx ho hq;go_upto_region 5 with fail;obtain⟨gA,ar⟩: ∃gA,gA=w2.heap.size:=⟨_,rfl⟩
 rw[←ar];have M3:=(M2.blkNew aL #[aA,aB,.slice p1 n cp1,a,b,aE,aF,aC,aG,.slice q1 m cq1] gA ar.symm)
 generalize World.alloc _ _=w3 at M3⊢;clear M2 ar;rcases D with⟨h0,h1,h2,h3,h4⟩|⟨rfl,hc,hc2,h1⟩|⟨rfl,hc,hc2,h1,h2⟩|⟨rfl,hS⟩|⟨rfl,hN⟩|⟨rfl,hN⟩|⟨rfl,hN⟩
 ·obtain⟨k,l,o,r,s,t,u,x,y,z⟩:=(M3.bk 5).ten;have aa:=(M3.bk 4).cl 0;have k0:(d==0)=false:=by simp;omega
  have k1:(d==1)=false:=by simp;omega
  have k2:(d==2)=false:=by simp;omega
  have k3:(d==3)=false:=by simp;omega
  have k4:(d==4)=false:=by simp;omega
  go_wp2_with fail;clear k l o r s t u x y z aa;refine(HL _ M3.ext).mono ?_;rintro e w9 ⟨p9,f,q9,g,rfl,ho,hq,hx⟩;have M4:=(M3.own2 hx ho hq (aK1 _) (by decide))
  clear M3 hx ho hq HL;obtain⟨f0,ab,f1,ad,f2,ae,f3,af,f4,ag,f5,ah,f6,ai,f7,aj,f8,ak,f9,al⟩:=(M4.bk 5).tenf;go_wp2;clear f0 ab f1 ad f2 ae f3 af f4 ag f5 ah f6 ai f7 aj f8 ak f9 al;have M5:=(M4.put10 (i:=5) rfl (I aA) (I aB) (.slice p9 n f) (I a) (I b) (I aE) (I aF) (I aC) (I aG) (.slice q9 m g))
  generalize h:World.setCell _ _ _=wz;rw[h]at M5;clear h M4;obtain⟨y0,y1,y2,y3,y4,y5,y6,y7,y8,y9⟩:=(M5.bk 5).ten;exact bodyPost_ret (v:= .tuple #[.agg #[aA,aB,.slice p9 n f,a,b,aE,aF,aC,aG,.slice q9 m g],(-1:Int),.bool false]) (by simp[results,results13,go_sem, *]) rfl ⟨p9,f,q9,g,rfl,(M5.ow 0),(M5.ow 1),M5.ext⟩
 ·obtain⟨k,l,o,r,s,t,u,x,y,z⟩:=(M3.bk 5).ten;obtain⟨aa,an,ao⟩:=(M3.bk 4).tri;have k1:IntKind.i64.wrap (9999-aC)=9999-aC:=aK3 _ (by omega);have d1:decide (1≤j)=false:=by simp;omega
  go_wp2_with fail;clear k l o r s t u x y z aa an ao;refine(HL _ M3.ext).mono ?_;rintro e w9 ⟨p9,f,q9,g,rfl,ho,hq,hx⟩;have M4:=(M3.own2 hx ho hq (aK1 _) (by decide))
  clear M3 hx ho hq HL;obtain⟨f0,ab,f1,ad,f2,ae,f3,af,f4,ag,f5,ah,f6,ai,f7,aj,f8,ak,f9,al⟩:=(M4.bk 5).tenf;go_wp2;clear f0 ab f1 ad f2 ae f3 af f4 ag f5 ah f6 ai f7 aj f8 ak f9 al;have M5:=(M4.put10 (i:=5) rfl (I aA) (I aB) (.slice p9 n f) (I a) (I b) (I aE) (I aF) (I aC) (I aG) (.slice q9 m g))
  generalize h:World.setCell _ _ _=wz;rw[h]at M5;clear h M4;obtain⟨y0,y1,y2,y3,y4,y5,y6,y7,y8,y9⟩:=(M5.bk 5).ten;exact bodyPost_ret (v:= .tuple #[.agg #[aA,aB,.slice p9 n f,a,b,aE,aF,aC,aG,.slice q9 m g],(-1:Int),.bool false]) (by simp[results,results13,go_sem, *]) rfl ⟨p9,f,q9,g,rfl,(M5.ow 0),(M5.ow 1),M5.ext⟩
 ·obtain⟨k,l,o,r,s,t,u,x,y,z⟩:=(M3.bk 5).ten;obtain⟨aa,an,ao⟩:=(M3.bk 4).tri;have k1:IntKind.i64.wrap (9999-aC)=9999-aC:=aK3 _ (by omega);have d1:decide (1≤j)=true:=by simp;omega
  have d2:decide (j≤9999-aC)=false:=by simp;omega
  go_wp2_with fail;clear k l o r s t u x y z aa an ao;refine(HL _ M3.ext).mono ?_;rintro e w9 ⟨p9,f,q9,g,rfl,ho,hq,hx⟩;have M4:=(M3.own2 hx ho hq (aK1 _) (by decide))
  clear M3 hx ho hq HL;obtain⟨f0,ab,f1,ad,f2,ae,f3,af,f4,ag,f5,ah,f6,ai,f7,aj,f8,ak,f9,al⟩:=(M4.bk 5).tenf;go_wp2;clear f0 ab f1 ad f2 ae f3 af f4 ag f5 ah f6 ai f7 aj f8 ak f9 al;have M5:=(M4.put10 (i:=5) rfl (I aA) (I aB) (.slice p9 n f) (I a) (I b) (I aE) (I aF) (I aC) (I aG) (.slice q9 m g))
  generalize h:World.setCell _ _ _=wz;rw[h]at M5;clear h M4;obtain⟨y0,y1,y2,y3,y4,y5,y6,y7,y8,y9⟩:=(M5.bk 5).ten;exact bodyPost_ret (v:= .tuple #[.agg #[aA,aB,.slice p9 n f,a,b,aE,aF,aC,aG,.slice q9 m g],(-1:Int),.bool false]) (by simp[results,results13,go_sem, *]) rfl ⟨p9,f,q9,g,rfl,(M5.ow 0),(M5.ow 1),M5.ext⟩
 ·obtain⟨k,l,o,r,s,t,u,x,y,z⟩:=(M3.bk 5).ten;obtain⟨aa,an,ao⟩:=(M3.bk 4).tri;have HS:=xQ hS;clear hS;go_wp2_with fail;clear k l o r s t u x y z aa an ao;refine(HS _ M3.ext).mono ?_;rintro e w4 ⟨p5,c5,rfl,av,ap⟩;have M4:=(M3.call ap av)
  clear M3 ap av;have d0:=(M4.bk 1).cl 0;have ax:=(M4.bk 1).frozen 0;have d1:=(M4.bk 1).cl 1;have ay:=(M4.bk 1).frozen 1;have d2:=(M4.bk 1).cl 2;have az:=(M4.bk 1).frozen 2;go_upto_region 19 with fail;clear d0 ax d1 ay d2 az;have M5:=((M4.st 1 0 (I aA)).st 1 1 (I aB))
  have M6:=(M5.st 1 2 (.slice p5 n c5))
  have M7:=(M6)
  generalize h:World.setCell _ _ _=w5;rw[h]at M7;clear h M4 M5 M6;obtain⟨k,l,o,r,s,t,u,x,y,z⟩:=(M7.bk 6).ten;go_wp2_with fail;clear k l o r s t u x y z;refine(HL _ M7.ext).mono ?_;rintro e w9 ⟨p9,f,q9,g,rfl,ho,hq,hx⟩;have M8:=(M7.own2 hx ho hq (aK1 _) (by decide))
  clear M7 hx ho hq HL;obtain⟨f0,ab,f1,ad,f2,ae,f3,af,f4,ag,f5,ah,f6,ai,f7,aj,f8,ak,f9,al⟩:=(M8.bk 6).tenf;go_wp2;clear f0 ab f1 ad f2 ae f3 af f4 ag f5 ah f6 ai f7 aj f8 ak f9 al;have M9:=(M8.put10 (i:=6) rfl (I aA) (I aB) (.slice p9 n f) (I a) (I b) (I aE) (I aF) (I aC) (I aG) (.slice q9 m g))
  generalize h:World.setCell _ _ _=wz;rw[h]at M9;clear h M8;obtain⟨y0,y1,y2,y3,y4,y5,y6,y7,y8,y9⟩:=(M9.bk 6).ten;exact bodyPost_ret (v:= .tuple #[.agg #[aA,aB,.slice p9 n f,a,b,aE,aF,aC,aG,.slice q9 m g],(-1:Int),.bool false]) (by simp[results,results13,go_sem, *]) rfl ⟨p9,f,q9,g,rfl,(M9.ow 0),(M9.ow 1),M9.ext⟩
 ·obtain⟨aa,an,ao⟩:=(M3.bk 4).tri;have HN:=xQ hN;clear hN;have MK:=(show Mem w w3 ([aJ w TI 1 (p1) (n) (cp1) (ivs xs),aJ w TV 4 (q1) (m) (cq1) (vs.flatMap aD),aI w (gA) aL #[aA,aB,.slice p1 n cp1,a,b,aE,aF,aC,aG,.slice q1 m cq1]]++ [aI w (w.heap.size+1+1) aL #[(),(),((),()),(),(),(),(),(),(),((),())],aI w (w.heap.size+1) THD #[(),j,aq],aI w w aL #[aA,aB,.slice p n am,a,b,aE,aF,aC,aG,.slice q m c2]])from M3.pick [1,2,0,3,4,5] (by decide) rfl)
  go_wp2_with fail;clear aa an ao;refine Z (HN _ (tW [aI w (w.heap.size+1+1) aL #[(),(),((),()),(),(),(),(),(),(),((),())],aI w (w.heap.size+1) THD #[(),j,aq],aI w w aL #[aA,aB,.slice p n am,a,b,aE,aF,aC,aG,.slice q m c2]]) gA p1 cp1 q1 cq1 (MK.fold [aJ w TI 1 (p1) (n) (cp1) (ivs xs),aJ w TV 4 (q1) (m) (cq1) (vs.flatMap aD),aI w (gA) aL #[aA,aB,.slice p1 n cp1,a,b,aE,aF,aC,aG,.slice q1 m cq1]])) fun w4 ap=>?_
  have M4:=(M3.adv ap)
  clear M3 ap HN MK;obtain⟨k,l,o,r,s,t,u,x,y,z⟩:=(M4.bk 5).ten;go_wp2_with fail;clear k l o r s t u x y z;refine(HL _ M4.ext).mono ?_;rintro e w9 ⟨p9,f,q9,g,rfl,ho,hq,hx⟩;have M5:=(M4.own2 hx ho hq (aK1 _) (by decide))
  clear M4 hx ho hq HL;obtain⟨f0,ab,f1,ad,f2,ae,f3,af,f4,ag,f5,ah,f6,ai,f7,aj,f8,ak,f9,al⟩:=(M5.bk 5).tenf;go_wp2;clear f0 ab f1 ad f2 ae f3 af f4 ag f5 ah f6 ai f7 aj f8 ak f9 al;have M6:=(M5.put10 (i:=5) rfl (I aA) (I aB) (.slice p9 n f) (I a) (I b) (I aE) (I aF) (I aC) (I aG) (.slice q9 m g))
  generalize h:World.setCell _ _ _=wz;rw[h]at M6;clear h M5;obtain⟨y0,y1,y2,y3,y4,y5,y6,y7,y8,y9⟩:=(M6.bk 5).ten;exact bodyPost_ret (v:= .tuple #[.agg #[aA,aB,.slice p9 n f,a,b,aE,aF,aC,aG,.slice q9 m g],(-1:Int),.bool false]) (by simp[results,results13,go_sem, *]) rfl ⟨p9,f,q9,g,rfl,(M6.ow 0),(M6.ow 1),M6.ext⟩
 ·obtain⟨aa,an,ao⟩:=(M3.bk 4).tri;have HN:=xQ hN;clear hN;have MK:=(show Mem w w3 ([aJ w TI 1 (p1) (n) (cp1) (ivs xs),aJ w TV 4 (q1) (m) (cq1) (vs.flatMap aD),aI w (gA) aL #[aA,aB,.slice p1 n cp1,a,b,aE,aF,aC,aG,.slice q1 m cq1]]++ [aI w (w.heap.size+1+1) aL #[(),(),((),()),(),(),(),(),(),(),((),())],aI w (w.heap.size+1) THD #[I 1,j,aq],aI w w aL #[aA,aB,.slice p n am,a,b,aE,aF,aC,aG,.slice q m c2]])from M3.pick [1,2,0,3,4,5] (by decide) rfl)
  go_wp2_with fail;clear aa an ao;refine Z (HN _ (tW [aI w (w.heap.size+1+1) aL #[(),(),((),()),(),(),(),(),(),(),((),())],aI w (w.heap.size+1) THD #[I 1,j,aq],aI w w aL #[aA,aB,.slice p n am,a,b,aE,aF,aC,aG,.slice q m c2]]) gA p1 cp1 q1 cq1 (MK.fold [aJ w TI 1 (p1) (n) (cp1) (ivs xs),aJ w TV 4 (q1) (m) (cq1) (vs.flatMap aD),aI w (gA) aL #[aA,aB,.slice p1 n cp1,a,b,aE,aF,aC,aG,.slice q1 m cq1]])) fun w4 ap=>?_
  have M4:=(M3.adv ap)
  clear M3 ap HN MK;obtain⟨k,l,o,r,s,t,u,x,y,z⟩:=(M4.bk 5).ten;go_wp2_with fail;clear k l o r s t u x y z;refine(HL _ M4.ext).mono ?_;rintro e w9 ⟨p9,f,q9,g,rfl,ho,hq,hx⟩;have M5:=(M4.own2 hx ho hq (aK1 _) (by decide))
  clear M4 hx ho hq HL;obtain⟨f0,ab,f1,ad,f2,ae,f3,af,f4,ag,f5,ah,f6,ai,f7,aj,f8,ak,f9,al⟩:=(M5.bk 5).tenf;go_wp2;clear f0 ab f1 ad f2 ae f3 af f4 ag f5 ah f6 ai f7 aj f8 ak f9 al;have M6:=(M5.put10 (i:=5) rfl (I aA) (I aB) (.slice p9 n f) (I a) (I b) (I aE) (I aF) (I aC) (I aG) (.slice q9 m g))
  generalize h:World.setCell _ _ _=wz;rw[h]at M6;clear h M5;obtain⟨y0,y1,y2,y3,y4,y5,y6,y7,y8,y9⟩:=(M6.bk 5).ten;exact bodyPost_ret (v:= .tuple #[.agg #[aA,aB,.slice p9 n f,a,b,aE,aF,aC,aG,.slice q9 m g],(-1:Int),.bool false]) (by simp[results,results13,go_sem, *]) rfl ⟨p9,f,q9,g,rfl,(M6.ow 0),(M6.ow 1),M6.ext⟩
 obtain⟨aa,an,ao⟩:=(M3.bk 4).tri;have HN:=xQ hN;clear hN;have MK:=(show Mem w w3 ([aJ w TI 1 (p1) (n) (cp1) (ivs xs),aJ w TV 4 (q1) (m) (cq1) (vs.flatMap aD),aI w (gA) aL #[aA,aB,.slice p1 n cp1,a,b,aE,aF,aC,aG,.slice q1 m cq1]]++ [aI w (w.heap.size+1+1) aL #[(),(),((),()),(),(),(),(),(),(),((),())],aI w (w.heap.size+1) THD #[I 2,j,aq],aI w w aL #[aA,aB,.slice p n am,a,b,aE,aF,aC,aG,.slice q m c2]])from M3.pick [1,2,0,3,4,5] (by decide) rfl)
 go_wp2_with fail;clear aa an ao;refine Z (HN _ (tW [aI w (w.heap.size+1+1) aL #[(),(),((),()),(),(),(),(),(),(),((),())],aI w (w.heap.size+1) THD #[I 2,j,aq],aI w w aL #[aA,aB,.slice p n am,a,b,aE,aF,aC,aG,.slice q m c2]]) gA p1 cp1 q1 cq1 (MK.fold [aJ w TI 1 (p1) (n) (cp1) (ivs xs),aJ w TV 4 (q1) (m) (cq1) (vs.flatMap aD),aI w (gA) aL #[aA,aB,.slice p1 n cp1,a,b,aE,aF,aC,aG,.slice q1 m cq1]])) fun w4 ap=>?_
 have M4:=(M3.adv ap)
 clear M3 ap HN MK;obtain⟨k,l,o,r,s,t,u,x,y,z⟩:=(M4.bk 5).ten;go_wp2_with fail;clear k l o r s t u x y z;refine(HL _ M4.ext).mono ?_;rintro e w9 ⟨p9,f,q9,g,rfl,ho,hq,hx⟩;have M5:=(M4.own2 hx ho hq (aK1 _) (by decide))
 clear M4 hx ho hq HL;obtain⟨f0,ab,f1,ad,f2,ae,f3,af,f4,ag,f5,ah,f6,ai,f7,aj,f8,ak,f9,al⟩:=(M5.bk 5).tenf;go_wp2;clear f0 ab f1 ad f2 ae f3 af f4 ag f5 ah f6 ai f7 aj f8 ak f9 al;have M6:=(M5.put10 (i:=5) rfl (I aA) (I aB) (.slice p9 n f) (I a) (I b) (I aE) (I aF) (I aC) (I aG) (.slice q9 m g))
 generalize h:World.setCell _ _ _=wz;rw[h]at M6;clear h M5;obtain⟨y0,y1,y2,y3,y4,y5,y6,y7,y8,y9⟩:=(M6.bk 5).ten;exact bodyPost_ret (v:= .tuple #[.agg #[aA,aB,.slice p9 n f,a,b,aE,aF,aC,aG,.slice q9 m g],(-1:Int),.bool false]) (by simp[results,results13,go_sem, *]) rfl ⟨p9,f,q9,g,rfl,(M6.ow 0),(M6.ow 1),M6.ext⟩
theorem kA (aA aB a b aE aF aC aG o f l j d ai:Int)(p:OA)(n k:Nat)(q:OA)(m c2 m2:Nat)(xs ys:List Int)(vs r:List aS)(w:World)
  (a2:xB 16 #[.agg #[aA,aB,.slice p n k,a,b,aE,aF,aC,aG,.slice q m c2]] w true)
  (HL:xC 24 #[.agg #[aA,aB,.slice p n k,a,b,aE,aF,aC,aG,.slice q m c2]] w fun w' e w''=> ∃p' cap' q' c2',e= .returned (.agg #[aA,aB,.slice p' n cap',a,b,aE,aF,aC,aG,.slice q' m c2'])∧w''.ownsRow w' TI 1 (.slice p' n cap') n (ivs xs)∧w''.ownsRow w' TV 4 (.slice q' m c2') m (vs.flatMap aD)∧Ext w' w'')
  (D:(o=3∧0≤aC∧aC≤9999∧1≤f∧f≤9999-aC∧aC+f=j∧aG=d∧aC+f=ai∧xs=ys∧vs=r∧m=m2)∨(o=4∧aC=j∧aG=d∧0=ai∧vs=r∧m=m2∧(∀w',Ext w w'→U 37 #[aH aA aB p n k,dH f l] w' fun e w''=> ∃q c,e= .returned (.tuple #[aH aA aB q n c,.bool true])∧w''.ownsRow w' TI 1 (.slice q n c) n (ivs ys)∧Ext w' w''))∨(o=0∧aC=j∧(∀w' R gA p1 cp1 q1 cq1,Mem w w' ([aJ w TI 1 (p1) (n) (cp1) (ivs xs),aJ w TV 4 (q1) (m) (cq1) (vs.flatMap aD),aI w (gA) aL #[aA,aB,.slice p1 n cp1,a,b,aE,aF,aC,aG,.slice q1 m cq1]]++ [R])→U 34 #[.pointer (some ⟨gA,0,none⟩),f] w' fun e w''=> ∃p5 c5 q5 d5,e= .returned (.tuple #[ai,.bool true])∧Mem w w'' ([aJ w TI 1 (p5) (n) (c5) (ivs ys),aJ w TV 4 (q5) (m2) (d5) (r.flatMap aD),aI w (gA) aL #[aA,aB,.slice p5 n c5,a,b,aE,aF,aC,d,.slice q5 m2 d5]]++ [R])))∨(o=1∧aC=j∧(∀w' R gA p1 cp1 q1 cq1,Mem w w' ([aJ w TI 1 (p1) (n) (cp1) (ivs xs),aJ w TV 4 (q1) (m) (cq1) (vs.flatMap aD),aI w (gA) aL #[aA,aB,.slice p1 n cp1,a,b,aE,aF,aC,aG,.slice q1 m cq1]]++ [R])→U 35 #[.pointer (some ⟨gA,0,none⟩),f,l] w' fun e w''=> ∃p5 c5 q5 d5,e= .returned (.tuple #[ai,.bool true])∧Mem w w'' ([aJ w TI 1 (p5) (n) (c5) (ivs ys),aJ w TV 4 (q5) (m2) (d5) (r.flatMap aD),aI w (gA) aL #[aA,aB,.slice p5 n c5,a,b,aE,aF,aC,d,.slice q5 m2 d5]]++ [R])))∨(o=2∧aC=j∧(∀w' R gA p1 cp1 q1 cq1,Mem w w' ([aJ w TI 1 (p1) (n) (cp1) (ivs xs),aJ w TV 4 (q1) (m) (cq1) (vs.flatMap aD),aI w (gA) aL #[aA,aB,.slice p1 n cp1,a,b,aE,aF,aC,aG,.slice q1 m cq1]]++ [R])→U 36 #[.pointer (some ⟨gA,0,none⟩),f] w' fun e w''=> ∃p5 c5 q5 d5,e= .returned (.tuple #[ai,.bool true])∧Mem w w'' ([aJ w TI 1 (p5) (n) (c5) (ivs ys),aJ w TV 4 (q5) (m2) (d5) (r.flatMap aD),aI w (gA) aL #[aA,aB,.slice p5 n c5,a,b,aE,aF,aC,d,.slice q5 m2 d5]]++ [R])))):
  U 13 #[.agg #[aA,aB,.slice p n k,a,b,aE,aF,aC,aG,.slice q m c2],.agg #[o,f,l]] w fun e w'=> ∃p' cap' q' c2',e= .returned (.tuple #[.agg #[aA,aB,.slice p' n cap',a,b,aE,aF,j,d,.slice q' m2 c2'],ai,.bool true])∧w'.ownsRow w TI 1 (.slice p' n cap') n (ivs ys)∧w'.ownsRow w TV 4 (.slice q' m2 c2') m2 (r.flatMap aD)∧Ext w w':=by
 go_enter func13,ntmps13;go_wp2_with fail;refine Z (a2 _ ((((Mem.start w).c0 aL #[aA,aB,.slice p n k,a,b,aE,aF,aC,aG,.slice q m c2]).c1 THD #[o,f,l]).c2 aL zT).ext) fun w1 a4=>?_
 have M1:=(((((Mem.start w).c0 aL #[aA,aB,.slice p n k,a,b,aE,aF,aC,aG,.slice q m c2]).c1 THD #[o,f,l]).c2 aL zT).adv a4)
 clear a4 a2;obtain⟨ak,al,am,an,ao,ap,aq,ar,au,av⟩:=(M1.bk 2).ten;go_wp2_with fail;clear ak al am an ao ap aq ar au av;refine(HL _ M1.ext).mono ?_;rintro e w2 ⟨p1,cp1,q1,cq1,rfl,ho,hq,hx⟩;have M2:=(M1.own2 hx ho hq (aK1 _) (by decide))
 clear M1 hx ho hq;go_upto_region 5 with fail;obtain⟨gA,a1⟩: ∃gA,gA=w2.heap.size:=⟨_,rfl⟩
 rw[←a1];have M3:=(M2.blkNew aL #[aA,aB,.slice p1 n cp1,a,b,aE,aF,aC,aG,.slice q1 m cq1] gA a1.symm)
 generalize World.alloc _ _=w3 at M3⊢;clear M2 a1;rcases D with⟨rfl,hc,hc2,h1,h2,rfl,rfl,rfl,rfl,rfl,rfl⟩|⟨rfl,rfl,rfl,rfl,rfl,rfl,hS⟩|⟨rfl,rfl,hY⟩|⟨rfl,rfl,hY⟩|⟨rfl,rfl,hY⟩
 ·obtain⟨ak,al,am,an,ao,ap,aq,ar,au,av⟩:=(M3.bk 5).ten;obtain⟨t,s,u⟩:=(M3.bk 4).tri;have k1:IntKind.i64.wrap (9999-aC)=9999-aC:=aK3 _ (by omega);have d1:decide (1≤f)=true:=by simp;omega
  have d2:decide (f≤9999-aC)=true:=by simp;omega
  go_upto_region 15 with fail;clear ak al am an ao ap aq ar au av t s u;have s:=(M3.bk 4).cl 1;obtain⟨d0,ay,d1,az,d2,a0,d3,a6,d4,a7,d5,a8,d6,a9,d7,ba,d8,bb,d9,bc⟩:=(M3.bk 0).tenf;obtain⟨f0,x,f1,y,f2,z,f3,aa,f4,ab,f5,ad,f6,ae,f7,af,f8,ag,f9,ah⟩:=(M3.bk 3).tenf;obtain⟨aw,ax⟩:=M3.nq 0 3;have k2:IntKind.i64.wrap (aC+f)=aC+f:=aK3 _ (by omega);clear HL;have M4:=(M3.st 0 7 (I (aC+f)))
  go_wp2;clear s d0 ay d1 az d2 a0 d3 a6 d4 a7 d5 a8 d6 a9 d7 ba d8 bb d9 bc f0 x f1 y f2 z f3 aa f4 ab f5 ad f6 ae f7 af f8 ag f9 ah aw ax;have M5:=(M4.put10 (i:=3) rfl (I aA) (I aB) (.slice p1 n cp1) (I a) (I b) (I aE) (I aF) (I (aC+f)) (I aG) (.slice q1 m cq1))
  generalize h:World.setCell _ _ _=wz;rw[h]at M5;clear h M3 M4;obtain⟨y0,y1,y2,y3,y4,y5,y6,y7,y8,y9⟩:=(M5.bk 3).ten;exact bodyPost_ret (v:= .tuple #[.agg #[aA,aB,.slice p1 n cp1,a,b,aE,aF,(aC+f:Int),aG,.slice q1 m cq1],(aC+f:Int),.bool true]) (by simp[results,results13,go_sem, *]) rfl ⟨p1,cp1,q1,cq1,rfl,(M5.ow 1),(M5.ow 2),M5.ext⟩
 ·obtain⟨ak,al,am,an,ao,ap,aq,ar,au,av⟩:=(M3.bk 5).ten;obtain⟨t,s,u⟩:=(M3.bk 4).tri;have HS:=xQ hS;clear hS;go_wp2_with fail;clear ak al am an ao ap aq ar au av t s u;refine(HS _ M3.ext).mono ?_;rintro e w4 ⟨p5,c5,rfl,a3,a5⟩;have M4:=(M3.call a5 a3)
  clear M3 a5 a3;have d0:=(M4.bk 1).cl 0;have ay:=(M4.bk 1).frozen 0;have d1:=(M4.bk 1).cl 1;have az:=(M4.bk 1).frozen 1;have d2:=(M4.bk 1).cl 2;have a0:=(M4.bk 1).frozen 2;go_upto_region 19 with fail;clear d0 ay d1 az d2 a0;have M5:=((M4.st 1 0 (I aA)).st 1 1 (I aB))
  have M6:=(M5.st 1 2 (.slice p5 n c5))
  have M7:=(M6)
  generalize h:World.setCell _ _ _=w5;rw[h]at M7;clear h M4 M5 M6;obtain⟨e0,e1,e2,e3,e4,e5,e6,e7,e8,e9⟩:=(M7.bk 1).ten;obtain⟨f0,x,f1,y,f2,z,f3,aa,f4,ab,f5,ad,f6,ae,f7,af,f8,ag,f9,ah⟩:=(M7.bk 4).tenf;clear HL;go_wp2;clear e0 e1 e2 e3 e4 e5 e6 e7 e8 e9 f0 x f1 y f2 z f3 aa f4 ab f5 ad f6 ae f7 af f8 ag f9 ah;have M8:=(M7.put10 (i:=4) rfl (I aA) (I aB) (.slice p5 n c5) (I a) (I b) (I aE) (I aF) (I aC) (I aG) (.slice q1 m cq1))
  generalize h:World.setCell _ _ _=wz;rw[h]at M8;clear h M7;obtain⟨y0,y1,y2,y3,y4,y5,y6,y7,y8,y9⟩:=(M8.bk 4).ten;exact bodyPost_ret (v:= .tuple #[.agg #[aA,aB,.slice p5 n c5,a,b,aE,aF,aC,aG,.slice q1 m cq1],(),.bool true]) (by simp[results,results13,go_sem, *]) rfl ⟨p5,c5,q1,cq1,rfl,(M8.ow 0),(M8.ow 3),M8.ext⟩
 ·obtain⟨t,s,u⟩:=(M3.bk 4).tri;have HY:=xQ hY;clear hY;have MK:=(show Mem w w3 ([aJ w TI 1 (p1) (n) (cp1) (ivs xs),aJ w TV 4 (q1) (m) (cq1) (vs.flatMap aD),aI w (gA) aL #[aA,aB,.slice p1 n cp1,a,b,aE,aF,aC,aG,.slice q1 m cq1]]++ [aI w (w.heap.size+1+1) aL #[(),(),((),()),(),(),(),(),(),(),((),())],aI w (w.heap.size+1) THD #[(),f,l],aI w w aL #[aA,aB,.slice p n k,a,b,aE,aF,aC,aG,.slice q m c2]])from M3.pick [1,2,0,3,4,5] (by decide) rfl)
  go_wp2_with fail;clear t s u;refine(HY _ (tW [aI w (w.heap.size+1+1) aL #[(),(),((),()),(),(),(),(),(),(),((),())],aI w (w.heap.size+1) THD #[(),f,l],aI w w aL #[aA,aB,.slice p n k,a,b,aE,aF,aC,aG,.slice q m c2]]) gA p1 cp1 q1 cq1 (MK.fold [aJ w TI 1 (p1) (n) (cp1) (ivs xs),aJ w TV 4 (q1) (m) (cq1) (vs.flatMap aD),aI w (gA) aL #[aA,aB,.slice p1 n cp1,a,b,aE,aF,aC,aG,.slice q1 m cq1]])).mono ?_;rintro e w5 ⟨p5,c5,q5,d5,rfl,aj⟩;clear M3;have M8:=(show Mem w w5 [aJ w TI 1 (p5) (n) (c5) (ivs ys),aJ w TV 4 (q5) (m2) (d5) (r.flatMap aD),aI w (gA) aL #[aA,aB,.slice p5 n c5,a,b,aE,aF,aC,d,.slice q5 m2 d5],aI w (w.heap.size+1+1) aL #[(),(),((),()),(),(),(),(),(),(),((),())],aI w (w.heap.size+1) THD #[(),f,l],aI w w aL #[aA,aB,.slice p n k,a,b,aE,aF,aC,aG,.slice q m c2]]from Mem.frame [aJ w TI 1 (p1) (n) (cp1) (ivs xs),aJ w TV 4 (q1) (m) (cq1) (vs.flatMap aD),aI w (gA) aL #[aA,aB,.slice p1 n cp1,a,b,aE,aF,aC,aG,.slice q1 m cq1]] [aJ w TI 1 (p5) (n) (c5) (ivs ys),aJ w TV 4 (q5) (m2) (d5) (r.flatMap aD),aI w (gA) aL #[aA,aB,.slice p5 n c5,a,b,aE,aF,aC,d,.slice q5 m2 d5]] MK aj)
  clear aj MK HY HL;obtain⟨e0,e1,e2,e3,e4,e5,e6,e7,e8,e9⟩:=(M8.bk 2).ten;obtain⟨f0,x,f1,y,f2,z,f3,aa,f4,ab,f5,ad,f6,ae,f7,af,f8,ag,f9,ah⟩:=(M8.bk 3).tenf;go_wp2;clear e0 e1 e2 e3 e4 e5 e6 e7 e8 e9 f0 x f1 y f2 z f3 aa f4 ab f5 ad f6 ae f7 af f8 ag f9 ah;have g:=(M8.put10 (i:=3) rfl (I aA) (I aB) (.slice p5 n c5) (I a) (I b) (I aE) (I aF) (I aC) (I d) (.slice q5 m2 d5))
  generalize h:World.setCell _ _ _=wz;rw[h]at g;clear h M8;obtain⟨y0,y1,y2,y3,y4,y5,y6,y7,y8,y9⟩:=(g.bk 3).ten;exact bodyPost_ret (v:= .tuple #[.agg #[aA,aB,.slice p5 n c5,a,b,aE,aF,aC,d,.slice q5 m2 d5],ai,.bool true]) (by simp[results,results13,go_sem, *]) rfl ⟨p5,c5,q5,d5,rfl,(g.ow 0),(g.ow 1),g.ext⟩
 ·obtain⟨t,s,u⟩:=(M3.bk 4).tri;have HY:=xQ hY;clear hY;have MK:=(show Mem w w3 ([aJ w TI 1 (p1) (n) (cp1) (ivs xs),aJ w TV 4 (q1) (m) (cq1) (vs.flatMap aD),aI w (gA) aL #[aA,aB,.slice p1 n cp1,a,b,aE,aF,aC,aG,.slice q1 m cq1]]++ [aI w (w.heap.size+1+1) aL #[(),(),((),()),(),(),(),(),(),(),((),())],aI w (w.heap.size+1) THD #[I 1,f,l],aI w w aL #[aA,aB,.slice p n k,a,b,aE,aF,aC,aG,.slice q m c2]])from M3.pick [1,2,0,3,4,5] (by decide) rfl)
  go_wp2_with fail;clear t s u;refine(HY _ (tW [aI w (w.heap.size+1+1) aL #[(),(),((),()),(),(),(),(),(),(),((),())],aI w (w.heap.size+1) THD #[I 1,f,l],aI w w aL #[aA,aB,.slice p n k,a,b,aE,aF,aC,aG,.slice q m c2]]) gA p1 cp1 q1 cq1 (MK.fold [aJ w TI 1 (p1) (n) (cp1) (ivs xs),aJ w TV 4 (q1) (m) (cq1) (vs.flatMap aD),aI w (gA) aL #[aA,aB,.slice p1 n cp1,a,b,aE,aF,aC,aG,.slice q1 m cq1]])).mono ?_;rintro e w5 ⟨p5,c5,q5,d5,rfl,aj⟩;clear M3;have M8:=(show Mem w w5 [aJ w TI 1 (p5) (n) (c5) (ivs ys),aJ w TV 4 (q5) (m2) (d5) (r.flatMap aD),aI w (gA) aL #[aA,aB,.slice p5 n c5,a,b,aE,aF,aC,d,.slice q5 m2 d5],aI w (w.heap.size+1+1) aL #[(),(),((),()),(),(),(),(),(),(),((),())],aI w (w.heap.size+1) THD #[I 1,f,l],aI w w aL #[aA,aB,.slice p n k,a,b,aE,aF,aC,aG,.slice q m c2]]from Mem.frame [aJ w TI 1 (p1) (n) (cp1) (ivs xs),aJ w TV 4 (q1) (m) (cq1) (vs.flatMap aD),aI w (gA) aL #[aA,aB,.slice p1 n cp1,a,b,aE,aF,aC,aG,.slice q1 m cq1]] [aJ w TI 1 (p5) (n) (c5) (ivs ys),aJ w TV 4 (q5) (m2) (d5) (r.flatMap aD),aI w (gA) aL #[aA,aB,.slice p5 n c5,a,b,aE,aF,aC,d,.slice q5 m2 d5]] MK aj)
  clear aj MK HY HL;obtain⟨e0,e1,e2,e3,e4,e5,e6,e7,e8,e9⟩:=(M8.bk 2).ten;obtain⟨f0,x,f1,y,f2,z,f3,aa,f4,ab,f5,ad,f6,ae,f7,af,f8,ag,f9,ah⟩:=(M8.bk 3).tenf;go_wp2;clear e0 e1 e2 e3 e4 e5 e6 e7 e8 e9 f0 x f1 y f2 z f3 aa f4 ab f5 ad f6 ae f7 af f8 ag f9 ah;have g:=(M8.put10 (i:=3) rfl (I aA) (I aB) (.slice p5 n c5) (I a) (I b) (I aE) (I aF) (I aC) (I d) (.slice q5 m2 d5))
  generalize h:World.setCell _ _ _=wz;rw[h]at g;clear h M8;obtain⟨y0,y1,y2,y3,y4,y5,y6,y7,y8,y9⟩:=(g.bk 3).ten;exact bodyPost_ret (v:= .tuple #[.agg #[aA,aB,.slice p5 n c5,a,b,aE,aF,aC,d,.slice q5 m2 d5],ai,.bool true]) (by simp[results,results13,go_sem, *]) rfl ⟨p5,c5,q5,d5,rfl,(g.ow 0),(g.ow 1),g.ext⟩
 obtain⟨t,s,u⟩:=(M3.bk 4).tri;have HY:=xQ hY;clear hY;have MK:=(show Mem w w3 ([aJ w TI 1 (p1) (n) (cp1) (ivs xs),aJ w TV 4 (q1) (m) (cq1) (vs.flatMap aD),aI w (gA) aL #[aA,aB,.slice p1 n cp1,a,b,aE,aF,aC,aG,.slice q1 m cq1]]++ [aI w (w.heap.size+1+1) aL #[(),(),((),()),(),(),(),(),(),(),((),())],aI w (w.heap.size+1) THD #[I 2,f,l],aI w w aL #[aA,aB,.slice p n k,a,b,aE,aF,aC,aG,.slice q m c2]])from M3.pick [1,2,0,3,4,5] (by decide) rfl)
 go_wp2_with fail;clear t s u;refine(HY _ (tW [aI w (w.heap.size+1+1) aL #[(),(),((),()),(),(),(),(),(),(),((),())],aI w (w.heap.size+1) THD #[I 2,f,l],aI w w aL #[aA,aB,.slice p n k,a,b,aE,aF,aC,aG,.slice q m c2]]) gA p1 cp1 q1 cq1 (MK.fold [aJ w TI 1 (p1) (n) (cp1) (ivs xs),aJ w TV 4 (q1) (m) (cq1) (vs.flatMap aD),aI w (gA) aL #[aA,aB,.slice p1 n cp1,a,b,aE,aF,aC,aG,.slice q1 m cq1]])).mono ?_;rintro e w5 ⟨p5,c5,q5,d5,rfl,aj⟩;clear M3;have M8:=(show Mem w w5 [aJ w TI 1 (p5) (n) (c5) (ivs ys),aJ w TV 4 (q5) (m2) (d5) (r.flatMap aD),aI w (gA) aL #[aA,aB,.slice p5 n c5,a,b,aE,aF,aC,d,.slice q5 m2 d5],aI w (w.heap.size+1+1) aL #[(),(),((),()),(),(),(),(),(),(),((),())],aI w (w.heap.size+1) THD #[I 2,f,l],aI w w aL #[aA,aB,.slice p n k,a,b,aE,aF,aC,aG,.slice q m c2]]from Mem.frame [aJ w TI 1 (p1) (n) (cp1) (ivs xs),aJ w TV 4 (q1) (m) (cq1) (vs.flatMap aD),aI w (gA) aL #[aA,aB,.slice p1 n cp1,a,b,aE,aF,aC,aG,.slice q1 m cq1]] [aJ w TI 1 (p5) (n) (c5) (ivs ys),aJ w TV 4 (q5) (m2) (d5) (r.flatMap aD),aI w (gA) aL #[aA,aB,.slice p5 n c5,a,b,aE,aF,aC,d,.slice q5 m2 d5]] MK aj)
 clear aj MK HY HL;obtain⟨e0,e1,e2,e3,e4,e5,e6,e7,e8,e9⟩:=(M8.bk 2).ten;obtain⟨f0,x,f1,y,f2,z,f3,aa,f4,ab,f5,ad,f6,ae,f7,af,f8,ag,f9,ah⟩:=(M8.bk 3).tenf;go_wp2;clear e0 e1 e2 e3 e4 e5 e6 e7 e8 e9 f0 x f1 y f2 z f3 aa f4 ab f5 ad f6 ae f7 af f8 ag f9 ah;have g:=(M8.put10 (i:=3) rfl (I aA) (I aB) (.slice p5 n c5) (I a) (I b) (I aE) (I aF) (I aC) (I d) (.slice q5 m2 d5))
 generalize h:World.setCell _ _ _=wz;rw[h]at g;clear h M8;obtain⟨y0,y1,y2,y3,y4,y5,y6,y7,y8,y9⟩:=(g.bk 3).ten;exact bodyPost_ret (v:= .tuple #[.agg #[aA,aB,.slice p5 n c5,a,b,aE,aF,aC,d,.slice q5 m2 d5],ai,.bool true]) (by simp[results,results13,go_sem, *]) rfl ⟨p5,c5,q5,d5,rfl,(g.ow 0),(g.ow 1),g.ext⟩
end
theorem rW (h:aO)(k a b:Int)(p:OA)(n c:Nat)(q:OA)(m c2:Nat)(w:World)(hi:IsHouse w h p n c q m c2)(d:bB h=false):
  U 13 #[bN h p n c q m c2,kG k a b] w (O (.tuple #[.agg #[(),(),((),()),(),(),(),(),(),(),((),())],(-1:Int),.bool false]) w):=
 aBv h.aA h.aB h.free h.step h.aE h.aF h.aC h.aG k a b p n c q m c2 h.cells h.vs w (xQ fun w' hx=>by have:=lJ h p n c q m c2 w' (hi.ext hx);rwa[d]at this)
theorem rI (h:aO)(k a b:Int)(p:OA)(n d:Nat)(q:OA)(m c2:Nat)(w:World)(hi:IsHouse w h p n d q m c2)(l:bB h=true)(hE:BitTab w):
  U 13 #[bN h p n d q m c2,kG k a b] w (aDb h (bU h k a b) w):=by
 obtain⟨q1,q2,q3,q4,q5⟩:=(dK h).1 l;have z:=gW l;have hl:=hi.clen;have y:=hi.vlen;have hS:=hi.cells;have hV:=hi.vs;subst hl y;have f:=xQ fun(w':World) (hx:Ext w w')=>(by have:=lJ h p _ d q _ c2 w' (hi.ext hx);rwa[l]at this:U 16 #[bN h p h.cells.length d q h.vs.length c2] w' (O (.bool true) w'))
 have HL:=xQ fun(w':World) (hx:Ext w w')=>oH h p _ d q _ c2 w' (by omega) (by omega) (hi.ext hx)
 unfold RetHouse at HL;by_cases k0:k=0
 ·subst k0;have e0:bU h 0 a b=(if 0≤(bV h.aA h.aB h.cells a).2 then some ({h with cells:=(bV h.aA h.aB h.cells a).1,vs:=jL (a,h.aC,0,h.aC) h.vs},(bV h.aA h.aB h.cells a).2)else none):=by unfold bU;rw[if_pos rfl]
  have el:(bV h.aA h.aB h.cells a).1.length=h.cells.length:=by
   by_cases h0:0≤(bV h.aA h.aB h.cells a).2
   ·obtain⟨zs,s1,_,_,s4,_⟩:=oJ q1 h0;rw[s4,aL9,s1.length_eq]
   unfold bV at h0⊢;split at h0
   ·rfl
   dsimp only at h0;omega
  have HP: ∀(w':World) (p1:OA) (cp1:Nat),Sl w' p1 h.cells.length cp1 1 (ivs h.cells)→U 69 #[aH h.aA h.aB p1 h.cells.length cp1,a] w' fun e w''=> ∃q c,e= .returned (.tuple #[aH h.aA h.aB q h.cells.length c,I (bV h.aA h.aB h.cells a).2])∧w''.ownsRow w' TI 1 (.slice q h.cells c) h.cells.length (ivs (bV h.aA h.aB h.cells a).1)∧Ext w' w'':=fun w' p1 cp1 hs=>by have:=aE8 h.aA h.aB a p1 _ cp1 h.cells w' hs q1;unfold cF at this;rw[el]at this;exact this
  rw[e0];by_cases h0:0≤(bV h.aA h.aB h.cells a).2
  ·rw[if_pos h0];refine(kA h.aA h.aB h.free h.step h.aE h.aF h.aC h.aG 0 a b h.aC h.aG (bV h.aA h.aB h.cells a).2 p _ d q _ c2 (h.vs.length+1) h.cells (bV h.aA h.aB h.cells a).1 h.vs (jL (a,h.aC,0,h.aC) h.vs) w f HL (.inr (.inr (.inl ⟨rfl,rfl,fun w' R gA p1 cp1 q1 cq1 hM=> ?_⟩)))).mono ?_
   ·exact aBy w w' R gA h.aA h.aB h.free h.step h.aE h.aF h.aC h.aG a _ p1 _ cp1 q1 _ cq1 h.cells _ h.vs (by omega) h0 rfl hM (fun w2 hx=>HP w2 p1 cp1 ((Mem.sl hM (i:=0) rfl).ext hx))
   rintro e w' ⟨p',cap',q',g,rfl,o1,o2,hx⟩;refine⟨p',cap',q',g,?_,?_,?_,hx⟩
   ·simp[bN,el,pA]
   ·dsimp only;rw[el];exact o1
   dsimp only;rw[pA];exact o2
  rw[if_neg h0];exact fV h.aA h.aB h.free h.step h.aE h.aF h.aC h.aG 0 a b p _ d q _ c2 h.cells h.cells h.vs w f HL (.inr (.inr (.inr (.inr (.inl ⟨rfl,fun w' R gA p1 cp1 q1 cq1 hM=>aEn w' gA h.aA h.aB h.free h.step h.aE h.aF h.aC h.aG a _ p1 _ cp1 q1 _ cq1 _ (by omega) (Mem.blk hM (i:=2) rfl) (fun w2 hx2=>HP w2 p1 cp1 ((Mem.sl hM (i:=0) rfl).ext hx2))⟩)))))
 by_cases k1:k=1
 ·subst k1;have e0:bU h 1 a b=mL h a b:=by unfold bU;rw[if_neg (by omega),if_pos rfl]
  rw[e0];rcases kX a h.vs with⟨h1,h2⟩|⟨kk,a1,a2,a3,hk,h1,hx,h2⟩
  ·have hr:mL h a b=none:=by unfold mL;rw[h2]
   rw[hr]
   exact fV h.aA h.aB h.free h.step h.aE h.aF h.aC h.aG 1 a b p _ d q _ c2 h.cells h.cells h.vs w f HL (.inr (.inr (.inr (.inr (.inr (.inl ⟨rfl,fun w' R gA p1 cp1 q1 cq1 hM=>zL w' gA h.aA h.aB h.free h.step h.aE h.aF h.aC h.aG a b p1 _ cp1 q1 _ cq1 (Mem.blk hM (i:=2) rfl) (fun w2 hx2=>by
    have:=iC h.aA h.aB h.free h.step h.aE h.aF h.aC h.aG a p1 h.cells.length cp1 q1 _ cq1 h.vs w2 ((Mem.sl hM (i:=1) rfl).ext hx2)
    rwa[h1]at this)⟩))))))
  obtain⟨s1,s2⟩:=(fR _ _).1 (q5 _ (aK5 hx));dsimp only at s1 s2;have hD:=(iP q2 s1 s2 q3.2.1).1;have HP:=fun(w':World)=>zD h.free h.step h.aE h.aF a1 a2 a3 h.aC b w' q2 s1 s2 q3.2.1
  have j:=wO (amt:=b) hD;have hr:mL h a b=if(eM h.free h.step h.aE h.aF a1 a2 a3 h.aC b).2.2=true∧h.aG+b-(eM h.free h.step h.aE h.aF a1 a2 a3 h.aC b).2.1≤99999 then some ({h with aG:=h.aG+b-(eM h.free h.step h.aE h.aF a1 a2 a3 h.aC b).2.1,vs:=h.vs.set kk (a,(eM h.free h.step h.aE h.aF a1 a2 a3 h.aC b).1)},(eM h.free h.step h.aE h.aF a1 a2 a3 h.aC b).2.1)else none:=by unfold mL;rw[h2,h1];rfl
  rw[hr];generalize eM h.free h.step h.aE h.aF a1 a2 a3 h.aC b=r at*;obtain⟨⟨S1,S2,S3⟩,bk,s⟩:=r;dsimp only at HP j⊢;have t: ∀(w':World) (p1:OA) (cp1:Nat) (q1:OA) (cq1:Nat),Sl w' q1 h.vs.length cq1 4 (h.vs.flatMap aD)→U 38 #[.agg #[h.aA,h.aB,.slice p1 h.cells cp1,h.free,h.step,h.aE,h.aF,h.aC,h.aG,.slice q1 h.vs cq1],a] w' (O (I kk) w'):=fun w' p1 cp1 q1 cq1 hs=>by have:=iC h.aA h.aB h.free h.step h.aE h.aF h.aC h.aG a p1 h.cells.length cp1 q1 _ cq1 h.vs w' hs;rwa[h1]at this
  by_cases hq:s=true∧h.aG+b-bk≤99999
  ·rw[if_pos hq];refine(kA h.aA h.aB h.free h.step h.aE h.aF h.aC h.aG 1 a b h.aC (h.aG+b-bk) bk p _ d q _ c2 h.vs.length h.cells h.cells h.vs (h.vs.set kk (a,S1,S2,S3)) w f HL (.inr (.inr (.inr (.inl ⟨rfl,rfl,fun w' R gA p1 cp1 q1 cq1 hM=> ?_⟩))))).mono ?_
   ·obtain⟨gq,rfl,_,_⟩:=Mem.some hM (i:=1) rfl (by omega);refine(zK w w' R gA gq h.aA h.aB h.free h.step h.aE h.aF h.aC h.aG a b p1 _ cp1 _ cq1 kk h.cells h.vs a a1 a2 a3 S1 S2 S3 bk s hk (by omega) q3.2.2.1 q3.2.2.2 j hx hM (fun w2 hx2=>t w2 p1 cp1 _ cq1 ((Mem.sl hM (i:=1) rfl).ext hx2)) HP).mono ?_;rintro e w2 (⟨_,hno,_⟩|⟨_,_,rfl,o⟩)
    ·exact absurd hq hno
    exact⟨p1,cp1,_,cq1,rfl,o⟩
   rintro e w' ⟨p',cap',q',g,rfl,o1,o2,hx⟩;refine⟨p',cap',q',g,?_,o1,?_,hx⟩
   ·simp[bN]
   simpa using o2
  rw[if_neg hq];refine fV h.aA h.aB h.free h.step h.aE h.aF h.aC h.aG 1 a b p _ d q _ c2 h.cells h.cells h.vs w f HL (.inr (.inr (.inr (.inr (.inr (.inl ⟨rfl,fun w' R gA p1 cp1 q1 cq1 hM=> ?_⟩))))));obtain⟨gq,rfl,_,_⟩:=Mem.some hM (i:=1) rfl (by omega);refine(zK w w' R gA gq h.aA h.aB h.free h.step h.aE h.aF h.aC h.aG a b p1 _ cp1 _ cq1 kk h.cells h.vs a a1 a2 a3 S1 S2 S3 bk s hk (by omega) q3.2.2.1 q3.2.2.2 j hx hM (fun w2 hx2=>t w2 p1 cp1 _ cq1 ((Mem.sl hM (i:=1) rfl).ext hx2)) HP).mono ?_;rintro e w2 (⟨rfl,_,hx2⟩|⟨e1,e2,_,_⟩)
  ·exact⟨rfl,hx2⟩
  exact absurd ⟨e1,e2⟩ hq
 by_cases k2:k=2
 ·subst k2;have HP: ∀(w':World) (p1:OA) (cp1:Nat),Ext w w'→Sl w' p1 h.cells.length cp1 1 (ivs h.cells)→U 73 #[aH h.aA h.aB p1 h.cells.length cp1,a] w' fun e w''=> ∃q c,e= .returned (.tuple #[aH h.aA h.aB q h.cells.length c,I (bR h.aA h.aB h.cells a).2])∧w''.ownsRow w' TI 1 (.slice q h.cells c) h.cells.length (ivs (bR h.aA h.aB h.cells a).1)∧Ext w' w'':=fun w' p1 cp1 hx hs=>by
   have:=aEk h.aA h.aB a p1 _ cp1 h.cells w' hs q1 (hE.ext hx);have el:(bR h.aA h.aB h.cells a).1.length=h.cells.length:=by
    by_cases h0:0≤(bR h.aA h.aB h.cells a).2
    ·obtain⟨zs,s1,_,_,s4,_⟩:=mD q1 h0;rw[s4,aL9,s1.length_eq]
    unfold bR at h0⊢;split at h0
    ·rfl
    dsimp only at h0;omega
   unfold cF at this;rw[el]at this;exact this
  have el:(bR h.aA h.aB h.cells a).1.length=h.cells.length:=by
   by_cases h0:0≤(bR h.aA h.aB h.cells a).2
   ·obtain⟨zs,s1,_,_,s4,_⟩:=mD q1 h0;rw[s4,aL9,s1.length_eq]
   unfold bR at h0⊢;split at h0
   ·rfl
   dsimp only at h0;omega
  have HM: ∀(w':World) (p1:OA) (cp1:Nat) (q1:OA) (cq1:Nat),Sl w' p1 h.cells.length cp1 1 (ivs h.cells)→Sl w' q1 h.vs.length cq1 4 (h.vs.flatMap aD)→U 72 #[.agg #[h.aA,h.aB,.slice p1 h.cells cp1,h.free,h.step,h.aE,h.aF,h.aC,h.aG,.slice q1 h.vs cq1],a] w' (O (.bool (dB h a)) w'):=fun w' p1 cp1 q1 cq1 hs hv=>wW h a p1 _ cp1 q1 _ cq1 w' ⟨hs,hv⟩
  have e0:bU h 2 a b=(if dB h a=true∧0≤(bR h.aA h.aB h.cells a).2 then some ({h with cells:=(bR h.aA h.aB h.cells a).1,vs:=h.vs.eraseIdx (vix a h.vs).toNat},(bR h.aA h.aB h.cells a).2)else none):=by unfold bU;rw[if_neg (by omega),if_neg (by omega),if_pos rfl]
  rw[e0];by_cases hmy:dB h a=true
  ·rw[hmy]at HM;by_cases h0:0≤(bR h.aA h.aB h.cells a).2
   ·rw[if_pos ⟨hmy,h0⟩];have hv: ∃v,dI a h.vs=some v:=by
     have:=hmy;unfold dB cX at this;rw[if_pos l]at this;cases hv:dI a h.vs with
     |none=>rw[hv]at this;simp at this
     |some v=>exact⟨v,rfl⟩
    obtain⟨v,hv⟩:=hv;obtain⟨v1,v2,v3,v4,v5,v6⟩:=iY hv;generalize hk:(vix a h.vs).toNat=kk at*;have u:(h.vs.eraseIdx kk).length=h.vs.length-1:=by rw[List.length_eraseIdx,if_pos v4]
    refine(kA h.aA h.aB h.free h.step h.aE h.aF h.aC h.aG 2 a b h.aC h.aG (bR h.aA h.aB h.cells a).2 p _ d q _ c2 (h.vs.length-1) h.cells (bR h.aA h.aB h.cells a).1 h.vs (h.vs.eraseIdx kk) w f HL (.inr (.inr (.inr (.inr ⟨rfl,rfl,fun w' R gA p1 cp1 q1 cq1 hM=> ?_⟩))))).mono ?_
    ·obtain⟨gq,rfl,_,_⟩:=Mem.some hM (i:=1) rfl (by omega);refine(aBw w w' R gA h.aA h.aB h.free h.step h.aE h.aF h.aC h.aG a _ p1 _ cp1 gq _ cq1 kk h.cells _ h.vs v4 (by omega) h0 hM (fun w2 hx2=>HM w2 p1 cp1 _ cq1 ((Mem.sl hM (i:=0) rfl).ext hx2) ((Mem.sl hM (i:=1) rfl).ext hx2)) (fun w2 hx2=>HP w2 p1 cp1 (hM.ext.trans hx2) ((Mem.sl hM (i:=0) rfl).ext hx2)) (fun w2 p' cap' hs=> ?_)).mono ?_
     ·have:=iC h.aA h.aB h.free h.step h.aE h.aF h.aC h.aG a p' h.cells.length cap' _ _ cq1 h.vs w2 hs;rwa[v5]at this
     rintro e w2 ⟨p5,c5,rfl,o⟩;exact⟨p5,c5,_,cq1,rfl,o⟩
    rintro e w' ⟨p',cap',q',g,rfl,o1,o2,hx⟩;refine⟨p',cap',q',g,?_,?_,?_,hx⟩
    ·simp only[bN,el,u]
    ·dsimp only;rw[el];exact o1
    dsimp only;rw[u];exact o2
   rw[if_neg (by intro e;exact h0 e.2)];exact fV h.aA h.aB h.free h.step h.aE h.aF h.aC h.aG 2 a b p _ d q _ c2 h.cells h.cells h.vs w f HL (.inr (.inr (.inr (.inr (.inr (.inr ⟨rfl,fun w' R gA p1 cp1 q1 cq1 hM=>aEm w' gA h.aA h.aB h.free h.step h.aE h.aF h.aC h.aG a _ p1 _ cp1 q1 _ cq1 _ (by omega) (Mem.blk hM (i:=2) rfl) (fun w2 hx2=>HM w2 p1 cp1 _ cq1 ((Mem.sl hM (i:=0) rfl).ext hx2) ((Mem.sl hM (i:=1) rfl).ext hx2)) (fun w2 hx2=>HP w2 p1 cp1 (hM.ext.trans hx2) ((Mem.sl hM (i:=0) rfl).ext hx2))⟩))))))
  rw[if_neg (by intro e;exact hmy e.1)];have x:dB h a=false:=by simpa using hmy
  rw[x]at HM;exact fV h.aA h.aB h.free h.step h.aE h.aF h.aC h.aG 2 a b p _ d q _ c2 h.cells h.cells h.vs w f HL (.inr (.inr (.inr (.inr (.inr (.inr ⟨rfl,fun w' R gA p1 cp1 q1 cq1 hM=>aBx w' gA h.aA h.aB h.free h.step h.aE h.aF h.aC h.aG a 0 p1 _ cp1 q1 _ cq1 (Mem.blk hM (i:=2) rfl) (fun w2 hx2=>HM w2 p1 cp1 _ cq1 ((Mem.sl hM (i:=0) rfl).ext hx2) ((Mem.sl hM (i:=1) rfl).ext hx2))⟩))))))
 by_cases k3:k=3
 ·subst k3;have e0:bU h 3 a b=(if 1≤a∧a≤9999-h.aC then some ({h with aC:=h.aC+a},h.aC+a)else none):=by unfold bU;rw[if_neg (by omega),if_neg (by omega),if_neg (by omega),if_pos rfl]
  rw[e0];by_cases h1:1≤a
  ·by_cases h2:a≤9999-h.aC
   ·rw[if_pos ⟨h1,h2⟩];exact kA h.aA h.aB h.free h.step h.aE h.aF h.aC h.aG 3 a b (h.aC+a) h.aG (h.aC+a) p _ d q _ c2 _ h.cells _ h.vs _ w f HL (.inl ⟨rfl,q3.1,q3.2.1,h1,h2,rfl,rfl,rfl,rfl,rfl,rfl⟩)
   rw[if_neg (by omega)];exact fV h.aA h.aB h.free h.step h.aE h.aF h.aC h.aG 3 a b p _ d q _ c2 h.cells h.cells h.vs w f HL (.inr (.inr (.inl ⟨rfl,q3.1,q3.2.1,h1,by omega⟩)))
  rw[if_neg (by omega)];exact fV h.aA h.aB h.free h.step h.aE h.aF h.aC h.aG 3 a b p _ d q _ c2 h.cells h.cells h.vs w f HL (.inr (.inl ⟨rfl,q3.1,q3.2.1,by omega⟩))
 by_cases k4:k=4
 ·subst k4;have HP:=xQ fun(w':World) (hx:Ext w w')=>vI h.aA h.aB a b p _ d h.cells w' (hS.ext hx) q1
  have e0:bU h 4 a b=(if aX h.aA h.aB h.cells a b=true then some ({h with cells:=bD h.aA h.aB h.cells a b},0)else none):=by unfold bU;rw[if_neg (by omega),if_neg (by omega),if_neg (by omega),if_neg (by omega),if_pos rfl]
  unfold cG at HP;rw[cJ]at HP;rw[e0];cases hm:aX h.aA h.aB h.cells a b with
  |true=>
   rw[hm]at HP;rw[if_pos rfl];refine(kA h.aA h.aB h.free h.step h.aE h.aF h.aC h.aG 4 a b h.aC h.aG 0 p _ d q _ c2 _ h.cells (bD h.aA h.aB h.cells a b) h.vs _ w f HL (.inr (.inl ⟨rfl,rfl,rfl,rfl,rfl,rfl,HP⟩))).mono ?_;rintro e w' ⟨p',cap',q',g,rfl,o1,o2,hx⟩;refine⟨p',cap',q',g,?_,?_,o2,hx⟩
   ·simp only[bN,cJ]
   dsimp only;rw[cJ];exact o1
  |false=>rw[hm]at HP;rw[if_neg (by simp)];exact fV h.aA h.aB h.free h.step h.aE h.aF h.aC h.aG 4 a b p _ d q _ c2 h.cells (bD h.aA h.aB h.cells a b) h.vs w f HL (.inr (.inr (.inr (.inl ⟨rfl,HP⟩))))
 have e0:bU h k a b=none:=by unfold bU;rw[if_neg k0,if_neg k1,if_neg k2,if_neg k3,if_neg k4]
 rw[e0];exact fV h.aA h.aB h.free h.step h.aE h.aF h.aC h.aG k a b p _ d q _ c2 h.cells h.cells h.vs w f HL (.inl ⟨k0,k1,k2,k3,k4⟩)
end Go.Proofs.YtbgkcehffiogcaaGreatDoor
