/- Lemmas (@packed). -/
import Derived.Test.YthfmmibomhhmpabGreatDoorZ18
namespace Go.Proofs.YthfmmibomhhmpabGreatDoor
open Go.RowKit Go.Proofs.Tryz
set_option linter.all false
set_option maxHeartbeats 8000000
set_option maxRecDepth 100000
variable{n:Int}{l:List UInt8}{A:List fH}{m q k:Nat}{c:UInt8}{v:Value}{w:World}{d:fH}(first:Int)(h:aQ)(aA aB a b aE aF aD aG:Int)(p:OA)
theorem kE (g k u:Int)(p:OA)(n t:Nat)(q:OA)(m c2:Nat)(xs ys:List Int)(vs:List aV)(w:World)(y:xB 12 #[.agg #[aA,aB,.slice p n t,a,b,aE,aF,aD,aG,.slice q m c2]] w true)(HL:xC 39 #[.agg #[aA,aB,.slice p n t,a,b,aE,aF,aD,aG,.slice q m c2]] w fun w' e w''=> ∃p' cap' q' c2',e= .returned (.agg #[aA,aB,.slice p' n cap',a,b,aE,aF,aD,aG,.slice q' m c2'])∧w''.ownsRow w' TI 1 (.slice p' n cap') n (ivs xs)∧w''.ownsRow w' TV 4 (.slice q' m c2') m (vs.flatMap aC)∧Ext w' w'')(D:(g≠0∧g≠1∧g≠2∧g≠3∧g≠4)∨(g=3∧0≤aD∧aD≤9999∧k<1)∨(g=3∧0≤aD∧aD≤9999∧1≤k∧9999-aD<k)∨(g=4∧(∀w',Ext w w'→U 75 #[aH aA aB p n t,eV k u] w' (aYy TI 1 n (ivs ys) w' fun q c=> .tuple #[aH aA aB q n c,.bool false])))∨(g=0∧(∀w' R gA p1 cp1 q1 cq1,Mem w w' ([aJ w TI 1 (p1) (n) (cp1) (ivs xs),aJ w TV 4 (q1) (m) (cq1) (vs.flatMap aC),aI w (gA) aN #[aA,aB,.slice p1 n cp1,a,b,aE,aF,aD,aG,.slice q1 m cq1]]++ [R])→U 72 #[.pointer (some ⟨gA,0,none⟩),k] w' (Z (.tuple #[(-1:Int),.bool false]) w')))∨(g=1∧(∀w' R gA p1 cp1 q1 cq1,Mem w w' ([aJ w TI 1 (p1) (n) (cp1) (ivs xs),aJ w TV 4 (q1) (m) (cq1) (vs.flatMap aC),aI w (gA) aN #[aA,aB,.slice p1 n cp1,a,b,aE,aF,aD,aG,.slice q1 m cq1]]++ [R])→U 73 #[.pointer (some ⟨gA,0,none⟩),k,u] w' (Z (.tuple #[(-1:Int),.bool false]) w')))∨(g=2∧(∀w' R gA p1 cp1 q1 cq1,Mem w w' ([aJ w TI 1 (p1) (n) (cp1) (ivs xs),aJ w TV 4 (q1) (m) (cq1) (vs.flatMap aC),aI w (gA) aN #[aA,aB,.slice p1 n cp1,a,b,aE,aF,aD,aG,.slice q1 m cq1]]++ [R])→U 74 #[.pointer (some ⟨gA,0,none⟩),k] w' (Z (.tuple #[(-1:Int),.bool false]) w')))):
  U 40 #[.agg #[aA,aB,.slice p n t,a,b,aE,aF,aD,aG,.slice q m c2],.agg #[g,k,u]] w (aYz w n (ivs xs) m (vs.flatMap aC) w fun p' cap' q' c2'=> .tuple #[.agg #[aA,aB,.slice p' n cap',a,b,aE,aF,aD,aG,.slice q' m c2'],(-1:Int),.bool false]):=by
 go_enter func40,ntmps40;go_wp2_with fail;refine Ω (y _ (Mem.b3 w).ext) fun w1 aa=>?_
 have M1:=((Mem.b3 w).adv aa)
 clear aa y;have j:=(M1.bk 2).ten;go_wp2_with fail;clear j;refine(HL _ M1.ext).mono ?_;rintro e w2 ⟨p1,cp1,q1,cq1,rfl,ho,hq,hx⟩;have M2:=(M1.own2 hx ho hq (aVz _) (by decide))
 clear M1 hx ho hq;go_upto_region 5 with fail;obtain⟨gA,x⟩: ∃gA,gA=w2.heap.size:=⟨_,rfl⟩
 rw[←x];have M3:=(M2.blkNew aN #[aA,aB,.slice p1 n cp1,a,b,aE,aF,aD,aG,.slice q1 m cq1] gA x.symm)
 generalize World.alloc _ _=w3 at M3⊢;clear M2 x;rcases D with⟨h0,h1,h2,h3,h4⟩|⟨rfl,hc,hc2,h1⟩|⟨rfl,hc,hc2,h1,h2⟩|⟨rfl,hS⟩|⟨rfl,hN⟩|⟨rfl,hN⟩|⟨rfl,hN⟩
 ·have j:=(M3.bk 5).ten;have l:=(M3.bk 4).cl 0;have k0:(g==0)=false:=by simp;omega
  have k1:(g==1)=false:=by simp;omega
  have k2:(g==2)=false:=by simp;omega
  have k3:(g==3)=false:=by simp;omega
  have k4:(g==4)=false:=by simp;omega
  go_wp2_with fail;clear j l;refine(HL _ M3.ext).mono ?_;rintro e w9 ⟨p9,d,q9,f,rfl,ho,hq,hx⟩;have M4:=(M3.own2 hx ho hq (aVz _) (by decide))
  clear M3 hx ho hq HL;have f_:=(M4.bk 5).tenf;go_wp2;clear f_;have M5:=(M4.put10 (i:=5) rfl (I aA) (I aB) (.slice p9 n d) (I a) (I b) (I aE) (I aF) (I aD) (I aG) (.slice q9 m f))
  generalize h:World.setCell _ _ _=wz;rw[h]at M5;clear h M4;have y_:=(M5.bk 5).ten;exact aYw (v:= .tuple #[.agg #[aA,aB,.slice p9 n d,a,b,aE,aF,aD,aG,.slice q9 m f],(-1:Int),.bool false]) ⟨p9,d,q9,f,rfl,(M5.ow 0),(M5.ow 1),M5.ext⟩
 ·have j:=(M3.bk 5).ten;obtain⟨l,o,r⟩:=(M3.bk 4).tri;have k1:=aYs (9999-aD);have d1:=aYu (1≤k);go_wp2_with fail;clear j l o r;refine(HL _ M3.ext).mono ?_;rintro e w9 ⟨p9,d,q9,f,rfl,ho,hq,hx⟩;have M4:=(M3.own2 hx ho hq (aVz _) (by decide))
  clear M3 hx ho hq HL;have f_:=(M4.bk 5).tenf;go_wp2;clear f_;have M5:=(M4.put10 (i:=5) rfl (I aA) (I aB) (.slice p9 n d) (I a) (I b) (I aE) (I aF) (I aD) (I aG) (.slice q9 m f))
  generalize h:World.setCell _ _ _=wz;rw[h]at M5;clear h M4;have y_:=(M5.bk 5).ten;exact aYw (v:= .tuple #[.agg #[aA,aB,.slice p9 n d,a,b,aE,aF,aD,aG,.slice q9 m f],(-1:Int),.bool false]) ⟨p9,d,q9,f,rfl,(M5.ow 0),(M5.ow 1),M5.ext⟩
 ·have j:=(M3.bk 5).ten;obtain⟨l,o,r⟩:=(M3.bk 4).tri;have k1:=aYs (9999-aD);have d1:=aYv (1≤k);have d2:=aYu (k≤9999-aD);go_wp2_with fail;clear j l o r;refine(HL _ M3.ext).mono ?_;rintro e w9 ⟨p9,d,q9,f,rfl,ho,hq,hx⟩;have M4:=(M3.own2 hx ho hq (aVz _) (by decide))
  clear M3 hx ho hq HL;have f_:=(M4.bk 5).tenf;go_wp2;clear f_;have M5:=(M4.put10 (i:=5) rfl (I aA) (I aB) (.slice p9 n d) (I a) (I b) (I aE) (I aF) (I aD) (I aG) (.slice q9 m f))
  generalize h:World.setCell _ _ _=wz;rw[h]at M5;clear h M4;have y_:=(M5.bk 5).ten;exact aYw (v:= .tuple #[.agg #[aA,aB,.slice p9 n d,a,b,aE,aF,aD,aG,.slice q9 m f],(-1:Int),.bool false]) ⟨p9,d,q9,f,rfl,(M5.ow 0),(M5.ow 1),M5.ext⟩
 ·have j:=(M3.bk 5).ten;obtain⟨l,o,r⟩:=(M3.bk 4).tri;have HS:=xQ hS;clear hS;go_wp2_with fail;clear j l o r;refine(HS _ M3.ext).mono ?_;rintro e w4 ⟨p5,c5,rfl,z,s⟩;have M4:=(M3.call s z)
  clear M3 s z;have d0:=(M4.bk 1).cl 0;have ab:=(M4.bk 1).frozen 0;have d1:=(M4.bk 1).cl 1;have ad:=(M4.bk 1).frozen 1;have d2:=(M4.bk 1).cl 2;have ae:=(M4.bk 1).frozen 2;go_upto_region 19 with fail;clear d0 ab d1 ad d2 ae;have M5:=((M4.st 1 0 (I aA)).st 1 1 (I aB))
  have M6:=(M5.st 1 2 (.slice p5 n c5))
  have M7:=(M6)
  generalize h:World.setCell _ _ _=w5;rw[h]at M7;clear h M4 M5 M6;have j:=(M7.bk 6).ten;go_wp2_with fail;clear j;refine(HL _ M7.ext).mono ?_;rintro e w9 ⟨p9,d,q9,f,rfl,ho,hq,hx⟩;have M8:=(M7.own2 hx ho hq (aVz _) (by decide))
  clear M7 hx ho hq HL;have f_:=(M8.bk 6).tenf;go_wp2;clear f_;have M9:=(M8.put10 (i:=6) rfl (I aA) (I aB) (.slice p9 n d) (I a) (I b) (I aE) (I aF) (I aD) (I aG) (.slice q9 m f))
  generalize h:World.setCell _ _ _=wz;rw[h]at M9;clear h M8;have y_:=(M9.bk 6).ten;exact aYw (v:= .tuple #[.agg #[aA,aB,.slice p9 n d,a,b,aE,aF,aD,aG,.slice q9 m f],(-1:Int),.bool false]) ⟨p9,d,q9,f,rfl,(M9.ow 0),(M9.ow 1),M9.ext⟩
 ·obtain⟨l,o,r⟩:=(M3.bk 4).tri;have HN:=xQ hN;clear hN;have MK:=(show Mem w w3 ([aJ w TI 1 (p1) (n) (cp1) (ivs xs),aJ w TV 4 (q1) (m) (cq1) (vs.flatMap aC),aI w (gA) aN #[aA,aB,.slice p1 n cp1,a,b,aE,aF,aD,aG,.slice q1 m cq1]]++ [aI w (w.heap.size+1+1) aN #[(),(),((),()),(),(),(),(),(),(),((),())],aI w (w.heap.size+1) THD #[(),k,u],aI w w aN #[aA,aB,.slice p n t,a,b,aE,aF,aD,aG,.slice q m c2]])from M3.pick [1,2,0,3,4,5] (by decide) rfl)
  go_wp2_with fail;clear l o r;refine Ω (HN _ (aCu [aI w (w.heap.size+1+1) aN #[(),(),((),()),(),(),(),(),(),(),((),())],aI w (w.heap.size+1) THD #[(),k,u],aI w w aN #[aA,aB,.slice p n t,a,b,aE,aF,aD,aG,.slice q m c2]]) gA p1 cp1 q1 cq1 (MK.fold [aJ w TI 1 (p1) (n) (cp1) (ivs xs),aJ w TV 4 (q1) (m) (cq1) (vs.flatMap aC),aI w (gA) aN #[aA,aB,.slice p1 n cp1,a,b,aE,aF,aD,aG,.slice q1 m cq1]])) fun w4 s=>?_
  have M4:=(M3.adv s)
  clear M3 s HN MK;have j:=(M4.bk 5).ten;go_wp2_with fail;clear j;refine(HL _ M4.ext).mono ?_;rintro e w9 ⟨p9,d,q9,f,rfl,ho,hq,hx⟩;have M5:=(M4.own2 hx ho hq (aVz _) (by decide))
  clear M4 hx ho hq HL;have f_:=(M5.bk 5).tenf;go_wp2;clear f_;have M6:=(M5.put10 (i:=5) rfl (I aA) (I aB) (.slice p9 n d) (I a) (I b) (I aE) (I aF) (I aD) (I aG) (.slice q9 m f))
  generalize h:World.setCell _ _ _=wz;rw[h]at M6;clear h M5;have y_:=(M6.bk 5).ten;exact aYw (v:= .tuple #[.agg #[aA,aB,.slice p9 n d,a,b,aE,aF,aD,aG,.slice q9 m f],(-1:Int),.bool false]) ⟨p9,d,q9,f,rfl,(M6.ow 0),(M6.ow 1),M6.ext⟩
 ·obtain⟨l,o,r⟩:=(M3.bk 4).tri;have HN:=xQ hN;clear hN;have MK:=(show Mem w w3 ([aJ w TI 1 (p1) (n) (cp1) (ivs xs),aJ w TV 4 (q1) (m) (cq1) (vs.flatMap aC),aI w (gA) aN #[aA,aB,.slice p1 n cp1,a,b,aE,aF,aD,aG,.slice q1 m cq1]]++ [aI w (w.heap.size+1+1) aN #[(),(),((),()),(),(),(),(),(),(),((),())],aI w (w.heap.size+1) THD #[I 1,k,u],aI w w aN #[aA,aB,.slice p n t,a,b,aE,aF,aD,aG,.slice q m c2]])from M3.pick [1,2,0,3,4,5] (by decide) rfl)
  go_wp2_with fail;clear l o r;refine Ω (HN _ (aCu [aI w (w.heap.size+1+1) aN #[(),(),((),()),(),(),(),(),(),(),((),())],aI w (w.heap.size+1) THD #[I 1,k,u],aI w w aN #[aA,aB,.slice p n t,a,b,aE,aF,aD,aG,.slice q m c2]]) gA p1 cp1 q1 cq1 (MK.fold [aJ w TI 1 (p1) (n) (cp1) (ivs xs),aJ w TV 4 (q1) (m) (cq1) (vs.flatMap aC),aI w (gA) aN #[aA,aB,.slice p1 n cp1,a,b,aE,aF,aD,aG,.slice q1 m cq1]])) fun w4 s=>?_
  have M4:=(M3.adv s)
  clear M3 s HN MK;have j:=(M4.bk 5).ten;go_wp2_with fail;clear j;refine(HL _ M4.ext).mono ?_;rintro e w9 ⟨p9,d,q9,f,rfl,ho,hq,hx⟩;have M5:=(M4.own2 hx ho hq (aVz _) (by decide))
  clear M4 hx ho hq HL;have f_:=(M5.bk 5).tenf;go_wp2;clear f_;have M6:=(M5.put10 (i:=5) rfl (I aA) (I aB) (.slice p9 n d) (I a) (I b) (I aE) (I aF) (I aD) (I aG) (.slice q9 m f))
  generalize h:World.setCell _ _ _=wz;rw[h]at M6;clear h M5;have y_:=(M6.bk 5).ten;exact aYw (v:= .tuple #[.agg #[aA,aB,.slice p9 n d,a,b,aE,aF,aD,aG,.slice q9 m f],(-1:Int),.bool false]) ⟨p9,d,q9,f,rfl,(M6.ow 0),(M6.ow 1),M6.ext⟩
 obtain⟨l,o,r⟩:=(M3.bk 4).tri;have HN:=xQ hN;clear hN;have MK:=(show Mem w w3 ([aJ w TI 1 (p1) (n) (cp1) (ivs xs),aJ w TV 4 (q1) (m) (cq1) (vs.flatMap aC),aI w (gA) aN #[aA,aB,.slice p1 n cp1,a,b,aE,aF,aD,aG,.slice q1 m cq1]]++ [aI w (w.heap.size+1+1) aN #[(),(),((),()),(),(),(),(),(),(),((),())],aI w (w.heap.size+1) THD #[I 2,k,u],aI w w aN #[aA,aB,.slice p n t,a,b,aE,aF,aD,aG,.slice q m c2]])from M3.pick [1,2,0,3,4,5] (by decide) rfl)
 go_wp2_with fail;clear l o r;refine Ω (HN _ (aCu [aI w (w.heap.size+1+1) aN #[(),(),((),()),(),(),(),(),(),(),((),())],aI w (w.heap.size+1) THD #[I 2,k,u],aI w w aN #[aA,aB,.slice p n t,a,b,aE,aF,aD,aG,.slice q m c2]]) gA p1 cp1 q1 cq1 (MK.fold [aJ w TI 1 (p1) (n) (cp1) (ivs xs),aJ w TV 4 (q1) (m) (cq1) (vs.flatMap aC),aI w (gA) aN #[aA,aB,.slice p1 n cp1,a,b,aE,aF,aD,aG,.slice q1 m cq1]])) fun w4 s=>?_
 have M4:=(M3.adv s)
 clear M3 s HN MK;have j:=(M4.bk 5).ten;go_wp2_with fail;clear j;refine(HL _ M4.ext).mono ?_;rintro e w9 ⟨p9,d,q9,f,rfl,ho,hq,hx⟩;have M5:=(M4.own2 hx ho hq (aVz _) (by decide))
 clear M4 hx ho hq HL;have f_:=(M5.bk 5).tenf;go_wp2;clear f_;have M6:=(M5.put10 (i:=5) rfl (I aA) (I aB) (.slice p9 n d) (I a) (I b) (I aE) (I aF) (I aD) (I aG) (.slice q9 m f))
 generalize h:World.setCell _ _ _=wz;rw[h]at M6;clear h M5;have y_:=(M6.bk 5).ten;exact aYw (v:= .tuple #[.agg #[aA,aB,.slice p9 n d,a,b,aE,aF,aD,aG,.slice q9 m f],(-1:Int),.bool false]) ⟨p9,d,q9,f,rfl,(M6.ow 0),(M6.ow 1),M6.ext⟩
theorem oH (s f l j d x:Int)(p:OA)(n k:Nat)(q:OA)(m c2 m2:Nat)(xs ys:List Int)(vs o:List aV)(w:World)(ah:xB 12 #[.agg #[aA,aB,.slice p n k,a,b,aE,aF,aD,aG,.slice q m c2]] w true)(HL:xC 39 #[.agg #[aA,aB,.slice p n k,a,b,aE,aF,aD,aG,.slice q m c2]] w fun w' e w''=> ∃p' cap' q' c2',e= .returned (.agg #[aA,aB,.slice p' n cap',a,b,aE,aF,aD,aG,.slice q' m c2'])∧w''.ownsRow w' TI 1 (.slice p' n cap') n (ivs xs)∧w''.ownsRow w' TV 4 (.slice q' m c2') m (vs.flatMap aC)∧Ext w' w'')(D:(s=3∧0≤aD∧aD≤9999∧1≤f∧f≤9999-aD∧aD+f=j∧aG=d∧aD+f=x∧xs=ys∧vs=o∧m=m2)∨(s=4∧aD=j∧aG=d∧0=x∧vs=o∧m=m2∧(∀w',Ext w w'→U 75 #[aH aA aB p n k,eV f l] w' (aYy TI 1 n (ivs ys) w' fun q c=> .tuple #[aH aA aB q n c,.bool true])))∨(s=0∧aD=j∧(∀w' R gA p1 cp1 q1 cq1,Mem w w' ([aJ w TI 1 (p1) (n) (cp1) (ivs xs),aJ w TV 4 (q1) (m) (cq1) (vs.flatMap aC),aI w (gA) aN #[aA,aB,.slice p1 n cp1,a,b,aE,aF,aD,aG,.slice q1 m cq1]]++ [R])→U 72 #[.pointer (some ⟨gA,0,none⟩),f] w' fun e w''=> ∃p5 c5 q5 d5,e= .returned (.tuple #[x,.bool true])∧Mem w w'' ([aJ w TI 1 (p5) (n) (c5) (ivs ys),aJ w TV 4 (q5) (m2) (d5) (o.flatMap aC),aI w (gA) aN #[aA,aB,.slice p5 n c5,a,b,aE,aF,aD,d,.slice q5 m2 d5]]++ [R])))∨(s=1∧aD=j∧(∀w' R gA p1 cp1 q1 cq1,Mem w w' ([aJ w TI 1 (p1) (n) (cp1) (ivs xs),aJ w TV 4 (q1) (m) (cq1) (vs.flatMap aC),aI w (gA) aN #[aA,aB,.slice p1 n cp1,a,b,aE,aF,aD,aG,.slice q1 m cq1]]++ [R])→U 73 #[.pointer (some ⟨gA,0,none⟩),f,l] w' fun e w''=> ∃p5 c5 q5 d5,e= .returned (.tuple #[x,.bool true])∧Mem w w'' ([aJ w TI 1 (p5) (n) (c5) (ivs ys),aJ w TV 4 (q5) (m2) (d5) (o.flatMap aC),aI w (gA) aN #[aA,aB,.slice p5 n c5,a,b,aE,aF,aD,d,.slice q5 m2 d5]]++ [R])))∨(s=2∧aD=j∧(∀w' R gA p1 cp1 q1 cq1,Mem w w' ([aJ w TI 1 (p1) (n) (cp1) (ivs xs),aJ w TV 4 (q1) (m) (cq1) (vs.flatMap aC),aI w (gA) aN #[aA,aB,.slice p1 n cp1,a,b,aE,aF,aD,aG,.slice q1 m cq1]]++ [R])→U 74 #[.pointer (some ⟨gA,0,none⟩),f] w' fun e w''=> ∃p5 c5 q5 d5,e= .returned (.tuple #[x,.bool true])∧Mem w w'' ([aJ w TI 1 (p5) (n) (c5) (ivs ys),aJ w TV 4 (q5) (m2) (d5) (o.flatMap aC),aI w (gA) aN #[aA,aB,.slice p5 n c5,a,b,aE,aF,aD,d,.slice q5 m2 d5]]++ [R])))):
  U 40 #[.agg #[aA,aB,.slice p n k,a,b,aE,aF,aD,aG,.slice q m c2],.agg #[s,f,l]] w (aYz w n (ivs ys) m2 (o.flatMap aC) w fun p' cap' q' c2'=> .tuple #[.agg #[aA,aB,.slice p' n cap',a,b,aE,aF,j,d,.slice q' m2 c2'],x,.bool true]):=by
 go_enter func40,ntmps40;go_wp2_with fail;refine Ω (ah _ (Mem.b3 w).ext) fun w1 aj=>?_
 have M1:=((Mem.b3 w).adv aj)
 clear aj ah;have z:=(M1.bk 2).ten;go_wp2_with fail;clear z;refine(HL _ M1.ext).mono ?_;rintro e w2 ⟨p1,cp1,q1,cq1,rfl,ho,hq,hx⟩;have M2:=(M1.own2 hx ho hq (aVz _) (by decide))
 clear M1 hx ho hq;go_upto_region 5 with fail;obtain⟨gA,ag⟩: ∃gA,gA=w2.heap.size:=⟨_,rfl⟩
 rw[←ag];have M3:=(M2.blkNew aN #[aA,aB,.slice p1 n cp1,a,b,aE,aF,aD,aG,.slice q1 m cq1] gA ag.symm)
 generalize World.alloc _ _=w3 at M3⊢;clear M2 ag;rcases D with⟨rfl,hc,hc2,h1,h2,rfl,rfl,rfl,rfl,rfl,rfl⟩|⟨rfl,rfl,rfl,rfl,rfl,rfl,hS⟩|⟨rfl,rfl,hY⟩|⟨rfl,rfl,hY⟩|⟨rfl,rfl,hY⟩
 ·have z:=(M3.bk 5).ten;obtain⟨t,r,u⟩:=(M3.bk 4).tri;have k1:=aYs (9999-aD);have d1:=aYv (1≤f);have d2:=aYv (f≤9999-aD);go_upto_region 15 with fail;clear z t r u;have r:=(M3.bk 4).cl 1;obtain⟨d0,ad,d1,ae,d2,af,d3,al,d4,am,d5,an,d6,ao,d7,ap,d8,aq,d9,ar⟩:=(M3.bk 0).tenf;have f_:=(M3.bk 3).tenf;obtain⟨aa,ab⟩:=M3.nq 0 3;have k2:=aYs (aD+f);clear HL;have M4:=(M3.st 0 7 (I (aD+f)))
  go_wp2;clear r d0 ad d1 ae d2 af d3 al d4 am d5 an d6 ao d7 ap d8 aq d9 ar f_ aa ab;have M5:=(M4.put10 (i:=3) rfl (I aA) (I aB) (.slice p1 n cp1) (I a) (I b) (I aE) (I aF) (I (aD+f)) (I aG) (.slice q1 m cq1))
  generalize h:World.setCell _ _ _=wz;rw[h]at M5;clear h M3 M4;have y_:=(M5.bk 3).ten;exact aYw (v:= .tuple #[.agg #[aA,aB,.slice p1 n cp1,a,b,aE,aF,(aD+f:Int),aG,.slice q1 m cq1],(aD+f:Int),.bool true]) ⟨p1,cp1,q1,cq1,rfl,(M5.ow 1),(M5.ow 2),M5.ext⟩
 ·have z:=(M3.bk 5).ten;obtain⟨t,r,u⟩:=(M3.bk 4).tri;have HS:=xQ hS;clear hS;go_wp2_with fail;clear z t r u;refine(HS _ M3.ext).mono ?_;rintro e w4 ⟨p5,c5,rfl,ai,ak⟩;have M4:=(M3.call ak ai)
  clear M3 ak ai;have d0:=(M4.bk 1).cl 0;have ad:=(M4.bk 1).frozen 0;have d1:=(M4.bk 1).cl 1;have ae:=(M4.bk 1).frozen 1;have d2:=(M4.bk 1).cl 2;have af:=(M4.bk 1).frozen 2;go_upto_region 19 with fail;clear d0 ad d1 ae d2 af;have M5:=((M4.st 1 0 (I aA)).st 1 1 (I aB))
  have M6:=(M5.st 1 2 (.slice p5 n c5))
  have M7:=(M6)
  generalize h:World.setCell _ _ _=w5;rw[h]at M7;clear h M4 M5 M6;have e_:=(M7.bk 1).ten;have f_:=(M7.bk 4).tenf;clear HL;go_wp2;clear e_ f_;have M8:=(M7.put10 (i:=4) rfl (I aA) (I aB) (.slice p5 n c5) (I a) (I b) (I aE) (I aF) (I aD) (I aG) (.slice q1 m cq1))
  generalize h:World.setCell _ _ _=wz;rw[h]at M8;clear h M7;have y_:=(M8.bk 4).ten;exact aYw (v:= .tuple #[.agg #[aA,aB,.slice p5 n c5,a,b,aE,aF,aD,aG,.slice q1 m cq1],(),.bool true]) ⟨p5,c5,q1,cq1,rfl,(M8.ow 0),(M8.ow 3),M8.ext⟩
 ·obtain⟨t,r,u⟩:=(M3.bk 4).tri;have HY:=xQ hY;clear hY;have MK:=(show Mem w w3 ([aJ w TI 1 (p1) (n) (cp1) (ivs xs),aJ w TV 4 (q1) (m) (cq1) (vs.flatMap aC),aI w (gA) aN #[aA,aB,.slice p1 n cp1,a,b,aE,aF,aD,aG,.slice q1 m cq1]]++ [aI w (w.heap.size+1+1) aN #[(),(),((),()),(),(),(),(),(),(),((),())],aI w (w.heap.size+1) THD #[(),f,l],aI w w aN #[aA,aB,.slice p n k,a,b,aE,aF,aD,aG,.slice q m c2]])from M3.pick [1,2,0,3,4,5] (by decide) rfl)
  go_wp2_with fail;clear t r u;refine(HY _ (aCu [aI w (w.heap.size+1+1) aN #[(),(),((),()),(),(),(),(),(),(),((),())],aI w (w.heap.size+1) THD #[(),f,l],aI w w aN #[aA,aB,.slice p n k,a,b,aE,aF,aD,aG,.slice q m c2]]) gA p1 cp1 q1 cq1 (MK.fold [aJ w TI 1 (p1) (n) (cp1) (ivs xs),aJ w TV 4 (q1) (m) (cq1) (vs.flatMap aC),aI w (gA) aN #[aA,aB,.slice p1 n cp1,a,b,aE,aF,aD,aG,.slice q1 m cq1]])).mono ?_;rintro e w5 ⟨p5,c5,q5,d5,rfl,y⟩;clear M3;have M8:=(show Mem w w5 [aJ w TI 1 (p5) (n) (c5) (ivs ys),aJ w TV 4 (q5) (m2) (d5) (o.flatMap aC),aI w (gA) aN #[aA,aB,.slice p5 n c5,a,b,aE,aF,aD,d,.slice q5 m2 d5],aI w (w.heap.size+1+1) aN #[(),(),((),()),(),(),(),(),(),(),((),())],aI w (w.heap.size+1) THD #[(),f,l],aI w w aN #[aA,aB,.slice p n k,a,b,aE,aF,aD,aG,.slice q m c2]]from Mem.frame [aJ w TI 1 (p1) (n) (cp1) (ivs xs),aJ w TV 4 (q1) (m) (cq1) (vs.flatMap aC),aI w (gA) aN #[aA,aB,.slice p1 n cp1,a,b,aE,aF,aD,aG,.slice q1 m cq1]] [aJ w TI 1 (p5) (n) (c5) (ivs ys),aJ w TV 4 (q5) (m2) (d5) (o.flatMap aC),aI w (gA) aN #[aA,aB,.slice p5 n c5,a,b,aE,aF,aD,d,.slice q5 m2 d5]] MK y)
  clear y MK HY HL;have e_:=(M8.bk 2).ten;have f_:=(M8.bk 3).tenf;go_wp2;clear e_ f_;have g:=(M8.put10 (i:=3) rfl (I aA) (I aB) (.slice p5 n c5) (I a) (I b) (I aE) (I aF) (I aD) (I d) (.slice q5 m2 d5))
  generalize h:World.setCell _ _ _=wz;rw[h]at g;clear h M8;have y_:=(g.bk 3).ten;exact aYw (v:= .tuple #[.agg #[aA,aB,.slice p5 n c5,a,b,aE,aF,aD,d,.slice q5 m2 d5],x,.bool true]) ⟨p5,c5,q5,d5,rfl,(g.ow 0),(g.ow 1),g.ext⟩
 ·obtain⟨t,r,u⟩:=(M3.bk 4).tri;have HY:=xQ hY;clear hY;have MK:=(show Mem w w3 ([aJ w TI 1 (p1) (n) (cp1) (ivs xs),aJ w TV 4 (q1) (m) (cq1) (vs.flatMap aC),aI w (gA) aN #[aA,aB,.slice p1 n cp1,a,b,aE,aF,aD,aG,.slice q1 m cq1]]++ [aI w (w.heap.size+1+1) aN #[(),(),((),()),(),(),(),(),(),(),((),())],aI w (w.heap.size+1) THD #[I 1,f,l],aI w w aN #[aA,aB,.slice p n k,a,b,aE,aF,aD,aG,.slice q m c2]])from M3.pick [1,2,0,3,4,5] (by decide) rfl)
  go_wp2_with fail;clear t r u;refine(HY _ (aCu [aI w (w.heap.size+1+1) aN #[(),(),((),()),(),(),(),(),(),(),((),())],aI w (w.heap.size+1) THD #[I 1,f,l],aI w w aN #[aA,aB,.slice p n k,a,b,aE,aF,aD,aG,.slice q m c2]]) gA p1 cp1 q1 cq1 (MK.fold [aJ w TI 1 (p1) (n) (cp1) (ivs xs),aJ w TV 4 (q1) (m) (cq1) (vs.flatMap aC),aI w (gA) aN #[aA,aB,.slice p1 n cp1,a,b,aE,aF,aD,aG,.slice q1 m cq1]])).mono ?_;rintro e w5 ⟨p5,c5,q5,d5,rfl,y⟩;clear M3;have M8:=(show Mem w w5 [aJ w TI 1 (p5) (n) (c5) (ivs ys),aJ w TV 4 (q5) (m2) (d5) (o.flatMap aC),aI w (gA) aN #[aA,aB,.slice p5 n c5,a,b,aE,aF,aD,d,.slice q5 m2 d5],aI w (w.heap.size+1+1) aN #[(),(),((),()),(),(),(),(),(),(),((),())],aI w (w.heap.size+1) THD #[I 1,f,l],aI w w aN #[aA,aB,.slice p n k,a,b,aE,aF,aD,aG,.slice q m c2]]from Mem.frame [aJ w TI 1 (p1) (n) (cp1) (ivs xs),aJ w TV 4 (q1) (m) (cq1) (vs.flatMap aC),aI w (gA) aN #[aA,aB,.slice p1 n cp1,a,b,aE,aF,aD,aG,.slice q1 m cq1]] [aJ w TI 1 (p5) (n) (c5) (ivs ys),aJ w TV 4 (q5) (m2) (d5) (o.flatMap aC),aI w (gA) aN #[aA,aB,.slice p5 n c5,a,b,aE,aF,aD,d,.slice q5 m2 d5]] MK y)
  clear y MK HY HL;have e_:=(M8.bk 2).ten;have f_:=(M8.bk 3).tenf;go_wp2;clear e_ f_;have g:=(M8.put10 (i:=3) rfl (I aA) (I aB) (.slice p5 n c5) (I a) (I b) (I aE) (I aF) (I aD) (I d) (.slice q5 m2 d5))
  generalize h:World.setCell _ _ _=wz;rw[h]at g;clear h M8;have y_:=(g.bk 3).ten;exact aYw (v:= .tuple #[.agg #[aA,aB,.slice p5 n c5,a,b,aE,aF,aD,d,.slice q5 m2 d5],x,.bool true]) ⟨p5,c5,q5,d5,rfl,(g.ow 0),(g.ow 1),g.ext⟩
 obtain⟨t,r,u⟩:=(M3.bk 4).tri;have HY:=xQ hY;clear hY;have MK:=(show Mem w w3 ([aJ w TI 1 (p1) (n) (cp1) (ivs xs),aJ w TV 4 (q1) (m) (cq1) (vs.flatMap aC),aI w (gA) aN #[aA,aB,.slice p1 n cp1,a,b,aE,aF,aD,aG,.slice q1 m cq1]]++ [aI w (w.heap.size+1+1) aN #[(),(),((),()),(),(),(),(),(),(),((),())],aI w (w.heap.size+1) THD #[I 2,f,l],aI w w aN #[aA,aB,.slice p n k,a,b,aE,aF,aD,aG,.slice q m c2]])from M3.pick [1,2,0,3,4,5] (by decide) rfl)
 go_wp2_with fail;clear t r u;refine(HY _ (aCu [aI w (w.heap.size+1+1) aN #[(),(),((),()),(),(),(),(),(),(),((),())],aI w (w.heap.size+1) THD #[I 2,f,l],aI w w aN #[aA,aB,.slice p n k,a,b,aE,aF,aD,aG,.slice q m c2]]) gA p1 cp1 q1 cq1 (MK.fold [aJ w TI 1 (p1) (n) (cp1) (ivs xs),aJ w TV 4 (q1) (m) (cq1) (vs.flatMap aC),aI w (gA) aN #[aA,aB,.slice p1 n cp1,a,b,aE,aF,aD,aG,.slice q1 m cq1]])).mono ?_;rintro e w5 ⟨p5,c5,q5,d5,rfl,y⟩;clear M3;have M8:=(show Mem w w5 [aJ w TI 1 (p5) (n) (c5) (ivs ys),aJ w TV 4 (q5) (m2) (d5) (o.flatMap aC),aI w (gA) aN #[aA,aB,.slice p5 n c5,a,b,aE,aF,aD,d,.slice q5 m2 d5],aI w (w.heap.size+1+1) aN #[(),(),((),()),(),(),(),(),(),(),((),())],aI w (w.heap.size+1) THD #[I 2,f,l],aI w w aN #[aA,aB,.slice p n k,a,b,aE,aF,aD,aG,.slice q m c2]]from Mem.frame [aJ w TI 1 (p1) (n) (cp1) (ivs xs),aJ w TV 4 (q1) (m) (cq1) (vs.flatMap aC),aI w (gA) aN #[aA,aB,.slice p1 n cp1,a,b,aE,aF,aD,aG,.slice q1 m cq1]] [aJ w TI 1 (p5) (n) (c5) (ivs ys),aJ w TV 4 (q5) (m2) (d5) (o.flatMap aC),aI w (gA) aN #[aA,aB,.slice p5 n c5,a,b,aE,aF,aD,d,.slice q5 m2 d5]] MK y)
 clear y MK HY HL;have e_:=(M8.bk 2).ten;have f_:=(M8.bk 3).tenf;go_wp2;clear e_ f_;have g:=(M8.put10 (i:=3) rfl (I aA) (I aB) (.slice p5 n c5) (I a) (I b) (I aE) (I aF) (I aD) (I d) (.slice q5 m2 d5))
 generalize h:World.setCell _ _ _=wz;rw[h]at g;clear h M8;have y_:=(g.bk 3).ten;exact aYw (v:= .tuple #[.agg #[aA,aB,.slice p5 n c5,a,b,aE,aF,aD,d,.slice q5 m2 d5],x,.bool true]) ⟨p5,c5,q5,d5,rfl,(g.ow 0),(g.ow 1),g.ext⟩
theorem aIz (k a b:Int)(p:OA)(n d:Nat)(q:OA)(m c2:Nat)(w:World)(hi:IsHouse w h p n d q m c2)(l:bC h=true)(hE:BitTab w):
  U 40 #[bV h p n d q m c2,cS k a b] w (aNe h (dF h k a b) w):=by
 obtain⟨q1,q2,q3,q4,q5⟩:=(jE h).1 l;have z:=fU l;have hl:=hi.clen;have y:=hi.vlen;have hS:=hi.cells;have hV:=hi.vs;subst hl y;have f:=xQ fun(w':World) (hx:Ext w w')=>(by have:=lB h p _ d q _ c2 w' (hi.ext hx);rwa[l]at this:U 12 #[bV h p h.cells.length d q h.vs.length c2] w' (Z (.bool true) w'))
 have HL:=xQ fun(w':World) (hx:Ext w w')=>vK h p _ d q _ c2 w' (by omega) (by omega) (hi.ext hx)
 unfold RetHouse at HL;by_cases k0:k=0
 ·subst k0;have e0:dF h 0 a b=(if 0≤(cZ h.aA h.aB h.cells a).2 then some ({h with cells:=(cZ h.aA h.aB h.cells a).1,vs:=nM (a,h.aD,0,h.aD) h.vs},(cZ h.aA h.aB h.cells a).2)else none):=by unfold dF;rw[if_pos rfl]
  have el:(cZ h.aA h.aB h.cells a).1.length=h.cells.length:=by
   by_cases h0:0≤(cZ h.aA h.aB h.cells a).2
   ·obtain⟨zs,s1,_,_,s4,_⟩:=vN q1 h0;rw[s4,aXf,s1.length_eq]
   unfold cZ at h0⊢;split at h0
   ·rfl
   dsimp only at h0;omega
  have HP: ∀(w':World) (p1:OA) (cp1:Nat),Sl w' p1 h.cells.length cp1 1 (ivs h.cells)→U 110 #[aH h.aA h.aB p1 h.cells.length cp1,a] w' (aYy TI 1 h.cells.length (ivs (cZ h.aA h.aB h.cells a).1) w' fun q c=> .tuple #[aH h.aA h.aB q h.cells.length c,I (cZ h.aA h.aB h.cells a).2]):=fun w' p1 cp1 hs=>by have:=aOq h.aA h.aB a p1 _ cp1 h.cells w' hs q1;unfold dK at this;rw[el]at this;exact this
  rw[e0];by_cases h0:0≤(cZ h.aA h.aB h.cells a).2
  ·rw[if_pos h0];refine(oH h.aA h.aB h.free h.step h.aE h.aF h.aD h.aG 0 a b h.aD h.aG (cZ h.aA h.aB h.cells a).2 p _ d q _ c2 (h.vs.length+1) h.cells (cZ h.aA h.aB h.cells a).1 h.vs (nM (a,h.aD,0,h.aD) h.vs) w f HL (.inr (.inr (.inl ⟨rfl,rfl,fun w' R gA p1 cp1 q1 cq1 hM=> ?_⟩)))).mono ?_
   ·exact aLv w w' R gA h.aA h.aB h.free h.step h.aE h.aF h.aD h.aG a _ p1 _ cp1 q1 _ cq1 h.cells _ h.vs (by omega) h0 rfl hM (fun w2 hx=>HP w2 p1 cp1 ((Mem.sl hM (i:=0) rfl).ext hx))
   rintro e w' ⟨p',cap',q',g,rfl,o1,o2,hx⟩;refine⟨p',cap',q',g,?_,?_,?_,hx⟩
   ·simp[bV,el,wW]
   ·dsimp only;rw[el];exact o1
   dsimp only;rw[wW];exact o2
  rw[if_neg h0];exact kE h.aA h.aB h.free h.step h.aE h.aF h.aD h.aG 0 a b p _ d q _ c2 h.cells h.cells h.vs w f HL (.inr (.inr (.inr (.inr (.inl ⟨rfl,fun w' R gA p1 cp1 q1 cq1 hM=>aP6 w' gA h.aA h.aB h.free h.step h.aE h.aF h.aD h.aG a _ p1 _ cp1 q1 _ cq1 _ (by omega) (Mem.blk hM (i:=2) rfl) (fun w2 hx2=>HP w2 p1 cp1 ((Mem.sl hM (i:=0) rfl).ext hx2))⟩)))))
 by_cases k1:k=1
 ·subst k1;have e0:dF h 1 a b=vR h a b:=by unfold dF;rw[if_neg (by omega),if_pos rfl]
  rw[e0];rcases pS a h.vs with⟨h1,h2⟩|⟨kk,a1,a2,a3,hk,h1,hx,h2⟩
  ·have hr:vR h a b=none:=by unfold vR;rw[h2]
   rw[hr]
   exact kE h.aA h.aB h.free h.step h.aE h.aF h.aD h.aG 1 a b p _ d q _ c2 h.cells h.cells h.vs w f HL (.inr (.inr (.inr (.inr (.inr (.inl ⟨rfl,fun w' R gA p1 cp1 q1 cq1 hM=>aJ3 w' gA h.aA h.aB h.free h.step h.aE h.aF h.aD h.aG a b p1 _ cp1 q1 _ cq1 (Mem.blk hM (i:=2) rfl) (fun w2 hx2=>by
    have:=lJ h.aA h.aB h.free h.step h.aE h.aF h.aD h.aG a p1 h.cells.length cp1 q1 _ cq1 h.vs w2 ((Mem.sl hM (i:=1) rfl).ext hx2)
    rwa[h1]at this)⟩))))))
  obtain⟨s1,s2⟩:=(mC _ _).1 (q5 _ (aW1 hx));dsimp only at s1 s2;have hD:=(oB q2 s1 s2 q3.2.1).1;have HP:=fun(w':World)=>aIu h.free h.step h.aE h.aF a1 a2 a3 h.aD b w' q2 s1 s2 q3.2.1
  have j:=aFw (amt:=b) hD;have hr:vR h a b=if(kD h.free h.step h.aE h.aF a1 a2 a3 h.aD b).2.2=true∧h.aG+b-(kD h.free h.step h.aE h.aF a1 a2 a3 h.aD b).2.1≤99999 then some ({h with aG:=h.aG+b-(kD h.free h.step h.aE h.aF a1 a2 a3 h.aD b).2.1,vs:=h.vs.set kk (a,(kD h.free h.step h.aE h.aF a1 a2 a3 h.aD b).1)},(kD h.free h.step h.aE h.aF a1 a2 a3 h.aD b).2.1)else none:=by unfold vR;rw[h2,h1];rfl
  rw[hr];generalize kD h.free h.step h.aE h.aF a1 a2 a3 h.aD b=r at*;obtain⟨⟨S1,S2,S3⟩,bk,s⟩:=r;dsimp only at HP j⊢;have t: ∀(w':World) (p1:OA) (cp1:Nat) (q1:OA) (cq1:Nat),Sl w' q1 h.vs.length cq1 4 (h.vs.flatMap aC)→U 112 #[.agg (aYo h p1 cp1 q1 cq1),a] w' (Z (I kk) w'):=fun w' p1 cp1 q1 cq1 hs=>by have:=lJ h.aA h.aB h.free h.step h.aE h.aF h.aD h.aG a p1 h.cells.length cp1 q1 _ cq1 h.vs w' hs;rwa[h1]at this
  by_cases hq:s=true∧h.aG+b-bk≤99999
  ·rw[if_pos hq];refine(oH h.aA h.aB h.free h.step h.aE h.aF h.aD h.aG 1 a b h.aD (h.aG+b-bk) bk p _ d q _ c2 h.vs.length h.cells h.cells h.vs (h.vs.set kk (a,S1,S2,S3)) w f HL (.inr (.inr (.inr (.inl ⟨rfl,rfl,fun w' R gA p1 cp1 q1 cq1 hM=> ?_⟩))))).mono ?_
   ·obtain⟨gq,rfl,_,_⟩:=Mem.some hM (i:=1) rfl (by omega);refine(aJ2 w w' R gA gq h.aA h.aB h.free h.step h.aE h.aF h.aD h.aG a b p1 _ cp1 _ cq1 kk h.cells h.vs a a1 a2 a3 S1 S2 S3 bk s hk (by omega) q3.2.2.1 q3.2.2.2 j hx hM (fun w2 hx2=>t w2 p1 cp1 _ cq1 ((Mem.sl hM (i:=1) rfl).ext hx2)) HP).mono ?_;rintro e w2 (⟨_,hno,_⟩|⟨_,_,rfl,o⟩)
    ·exact absurd hq hno
    exact⟨p1,cp1,_,cq1,rfl,o⟩
   rintro e w' ⟨p',cap',q',g,rfl,o1,o2,hx⟩;refine⟨p',cap',q',g,?_,o1,?_,hx⟩
   ·simp[bV]
   simpa using o2
  rw[if_neg hq];refine kE h.aA h.aB h.free h.step h.aE h.aF h.aD h.aG 1 a b p _ d q _ c2 h.cells h.cells h.vs w f HL (.inr (.inr (.inr (.inr (.inr (.inl ⟨rfl,fun w' R gA p1 cp1 q1 cq1 hM=> ?_⟩))))));obtain⟨gq,rfl,_,_⟩:=Mem.some hM (i:=1) rfl (by omega);refine(aJ2 w w' R gA gq h.aA h.aB h.free h.step h.aE h.aF h.aD h.aG a b p1 _ cp1 _ cq1 kk h.cells h.vs a a1 a2 a3 S1 S2 S3 bk s hk (by omega) q3.2.2.1 q3.2.2.2 j hx hM (fun w2 hx2=>t w2 p1 cp1 _ cq1 ((Mem.sl hM (i:=1) rfl).ext hx2)) HP).mono ?_;rintro e w2 (⟨rfl,_,hx2⟩|⟨e1,e2,_,_⟩)
  ·exact⟨rfl,hx2⟩
  exact absurd ⟨e1,e2⟩ hq
 by_cases k2:k=2
 ·subst k2;have HP: ∀(w':World) (p1:OA) (cp1:Nat),Ext w w'→Sl w' p1 h.cells.length cp1 1 (ivs h.cells)→U 115 #[aH h.aA h.aB p1 h.cells.length cp1,a] w' (aYy TI 1 h.cells.length (ivs (cN h.aA h.aB h.cells a).1) w' fun q c=> .tuple #[aH h.aA h.aB q h.cells.length c,I (cN h.aA h.aB h.cells a).2]):=fun w' p1 cp1 hx hs=>by
   have:=aP2 h.aA h.aB a p1 _ cp1 h.cells w' hs q1 (hE.ext hx);have el:(cN h.aA h.aB h.cells a).1.length=h.cells.length:=by
    by_cases h0:0≤(cN h.aA h.aB h.cells a).2
    ·obtain⟨zs,s1,_,_,s4,_⟩:=rK q1 h0;rw[s4,aXf,s1.length_eq]
    unfold cN at h0⊢;split at h0
    ·rfl
    dsimp only at h0;omega
   unfold dK at this;rw[el]at this;exact this
  have el:(cN h.aA h.aB h.cells a).1.length=h.cells.length:=by
   by_cases h0:0≤(cN h.aA h.aB h.cells a).2
   ·obtain⟨zs,s1,_,_,s4,_⟩:=rK q1 h0;rw[s4,aXf,s1.length_eq]
   unfold cN at h0⊢;split at h0
   ·rfl
   dsimp only at h0;omega
  have HM: ∀(w':World) (p1:OA) (cp1:Nat) (q1:OA) (cq1:Nat),Sl w' p1 h.cells.length cp1 1 (ivs h.cells)→Sl w' q1 h.vs.length cq1 4 (h.vs.flatMap aC)→U 114 #[.agg (aYo h p1 cp1 q1 cq1),a] w' (Z (.bool (gI h a)) w'):=fun w' p1 cp1 q1 cq1 hs hv=>aGl h a p1 _ cp1 q1 _ cq1 w' ⟨hs,hv⟩
  have e0:dF h 2 a b=(if gI h a=true∧0≤(cN h.aA h.aB h.cells a).2 then some ({h with cells:=(cN h.aA h.aB h.cells a).1,vs:=h.vs.eraseIdx (vix a h.vs).toNat},(cN h.aA h.aB h.cells a).2)else none):=by unfold dF;rw[if_neg (by omega),if_neg (by omega),if_pos rfl]
  rw[e0];by_cases hmy:gI h a=true
  ·rw[hmy]at HM;by_cases h0:0≤(cN h.aA h.aB h.cells a).2
   ·rw[if_pos ⟨hmy,h0⟩];have hv: ∃v,iS a h.vs=some v:=by
     have:=hmy;unfold gI iL at this;rw[if_pos l]at this;cases hv:iS a h.vs with
     |none=>rw[hv]at this;simp at this
     |some v=>exact⟨v,rfl⟩
    obtain⟨v,hv⟩:=hv;obtain⟨v1,v2,v3,v4,v5,v6⟩:=oO hv;generalize hk:(vix a h.vs).toNat=kk at*;have u:(h.vs.eraseIdx kk).length=h.vs.length-1:=by rw[List.length_eraseIdx,if_pos v4]
    refine(oH h.aA h.aB h.free h.step h.aE h.aF h.aD h.aG 2 a b h.aD h.aG (cN h.aA h.aB h.cells a).2 p _ d q _ c2 (h.vs.length-1) h.cells (cN h.aA h.aB h.cells a).1 h.vs (h.vs.eraseIdx kk) w f HL (.inr (.inr (.inr (.inr ⟨rfl,rfl,fun w' R gA p1 cp1 q1 cq1 hM=> ?_⟩))))).mono ?_
    ·obtain⟨gq,rfl,_,_⟩:=Mem.some hM (i:=1) rfl (by omega);refine(aLt w w' R gA h.aA h.aB h.free h.step h.aE h.aF h.aD h.aG a _ p1 _ cp1 gq _ cq1 kk h.cells _ h.vs v4 (by omega) h0 hM (fun w2 hx2=>HM w2 p1 cp1 _ cq1 ((Mem.sl hM (i:=0) rfl).ext hx2) ((Mem.sl hM (i:=1) rfl).ext hx2)) (fun w2 hx2=>HP w2 p1 cp1 (hM.ext.trans hx2) ((Mem.sl hM (i:=0) rfl).ext hx2)) (fun w2 p' cap' hs=> ?_)).mono ?_
     ·have:=lJ h.aA h.aB h.free h.step h.aE h.aF h.aD h.aG a p' h.cells.length cap' _ _ cq1 h.vs w2 hs;rwa[v5]at this
     rintro e w2 ⟨p5,c5,rfl,o⟩;exact⟨p5,c5,_,cq1,rfl,o⟩
    rintro e w' ⟨p',cap',q',g,rfl,o1,o2,hx⟩;refine⟨p',cap',q',g,?_,?_,?_,hx⟩
    ·simp only[bV,el,u]
    ·dsimp only;rw[el];exact o1
    dsimp only;rw[u];exact o2
   rw[if_neg (by intro e;exact h0 e.2)];exact kE h.aA h.aB h.free h.step h.aE h.aF h.aD h.aG 2 a b p _ d q _ c2 h.cells h.cells h.vs w f HL (.inr (.inr (.inr (.inr (.inr (.inr ⟨rfl,fun w' R gA p1 cp1 q1 cq1 hM=>aP5 w' gA h.aA h.aB h.free h.step h.aE h.aF h.aD h.aG a _ p1 _ cp1 q1 _ cq1 _ (by omega) (Mem.blk hM (i:=2) rfl) (fun w2 hx2=>HM w2 p1 cp1 _ cq1 ((Mem.sl hM (i:=0) rfl).ext hx2) ((Mem.sl hM (i:=1) rfl).ext hx2)) (fun w2 hx2=>HP w2 p1 cp1 (hM.ext.trans hx2) ((Mem.sl hM (i:=0) rfl).ext hx2))⟩))))))
  rw[if_neg (by intro e;exact hmy e.1)];have x:gI h a=false:=by simpa using hmy
  rw[x]at HM;exact kE h.aA h.aB h.free h.step h.aE h.aF h.aD h.aG 2 a b p _ d q _ c2 h.cells h.cells h.vs w f HL (.inr (.inr (.inr (.inr (.inr (.inr ⟨rfl,fun w' R gA p1 cp1 q1 cq1 hM=>aLu w' gA h.aA h.aB h.free h.step h.aE h.aF h.aD h.aG a 0 p1 _ cp1 q1 _ cq1 (Mem.blk hM (i:=2) rfl) (fun w2 hx2=>HM w2 p1 cp1 _ cq1 ((Mem.sl hM (i:=0) rfl).ext hx2) ((Mem.sl hM (i:=1) rfl).ext hx2))⟩))))))
 by_cases k3:k=3
 ·subst k3;have e0:dF h 3 a b=(if 1≤a∧a≤9999-h.aD then some ({h with aD:=h.aD+a},h.aD+a)else none):=by unfold dF;rw[if_neg (by omega),if_neg (by omega),if_neg (by omega),if_pos rfl]
  rw[e0];by_cases h1:1≤a
  ·by_cases h2:a≤9999-h.aD
   ·rw[if_pos ⟨h1,h2⟩];exact oH h.aA h.aB h.free h.step h.aE h.aF h.aD h.aG 3 a b (h.aD+a) h.aG (h.aD+a) p _ d q _ c2 _ h.cells _ h.vs _ w f HL (.inl ⟨rfl,q3.1,q3.2.1,h1,h2,rfl,rfl,rfl,rfl,rfl,rfl⟩)
   rw[if_neg (by omega)];exact kE h.aA h.aB h.free h.step h.aE h.aF h.aD h.aG 3 a b p _ d q _ c2 h.cells h.cells h.vs w f HL (.inr (.inr (.inl ⟨rfl,q3.1,q3.2.1,h1,by omega⟩)))
  rw[if_neg (by omega)];exact kE h.aA h.aB h.free h.step h.aE h.aF h.aD h.aG 3 a b p _ d q _ c2 h.cells h.cells h.vs w f HL (.inr (.inl ⟨rfl,q3.1,q3.2.1,by omega⟩))
 by_cases k4:k=4
 ·subst k4;have HP:=xQ fun(w':World) (hx:Ext w w')=>aEn h.aA h.aB a b p _ d h.cells w' (hS.ext hx) q1
  have e0:dF h 4 a b=(if bM h.aA h.aB h.cells a b=true then some ({h with cells:=bQ h.aA h.aB h.cells a b},0)else none):=by unfold dF;rw[if_neg (by omega),if_neg (by omega),if_neg (by omega),if_neg (by omega),if_pos rfl]
  unfold dL at HP;rw[dO]at HP;rw[e0];cases hm:bM h.aA h.aB h.cells a b with
  |true=>
   rw[hm]at HP;rw[if_pos rfl];refine(oH h.aA h.aB h.free h.step h.aE h.aF h.aD h.aG 4 a b h.aD h.aG 0 p _ d q _ c2 _ h.cells (bQ h.aA h.aB h.cells a b) h.vs _ w f HL (.inr (.inl ⟨rfl,rfl,rfl,rfl,rfl,rfl,HP⟩))).mono ?_;rintro e w' ⟨p',cap',q',g,rfl,o1,o2,hx⟩;refine⟨p',cap',q',g,?_,?_,o2,hx⟩
   ·simp only[bV,dO]
   dsimp only;rw[dO];exact o1
  |false=>rw[hm]at HP;rw[if_neg (by simp)];exact kE h.aA h.aB h.free h.step h.aE h.aF h.aD h.aG 4 a b p _ d q _ c2 h.cells (bQ h.aA h.aB h.cells a b) h.vs w f HL (.inr (.inr (.inr (.inl ⟨rfl,HP⟩))))
 have e0:dF h k a b=none:=by unfold dF;rw[if_neg k0,if_neg k1,if_neg k2,if_neg k3,if_neg k4]
 rw[e0];exact kE h.aA h.aB h.free h.step h.aE h.aF h.aD h.aG k a b p _ d q _ c2 h.cells h.cells h.vs w f HL (.inl ⟨k0,k1,k2,k3,k4⟩)
theorem aU3 (b:Nat)(q:OA)(c2:Nat)(lq:OA)(lm lc:Nat)(ds:List Dd3)(w:World)(a:xC 12 #[.agg (aYo h p b q c2)] w fun w' e w''=>e= .returned (Value.bool false)∧Ext w' w''):
  U 15 #[.agg #[h.aA,h.aB,.slice p h.cells b,h.free,h.step,h.aE,h.aF,h.aD,h.aG,.slice q h.vs c2],.slice lq lm lc] w (oM w (hZ,[]) w):=by
 go_enter func15,ntmps15;go_wp2_with fail;refine Ω (a _ (Mem.b2 w).ext) fun w1 d=>?_
 have M1:=((Mem.b2 w).adv d)
 clear d a;have f_:=(M1.bk 0).tenf;go_wp2;clear f_;have M2:=(M1.put10 (i:=0) rfl (I 0) (I 0) (.slice none 0 0) (I 0) (I 0) (I 0) (I 0) (I 0) (I 0) (.slice none 0 0))
 generalize c:World.setCell _ _ _=wz;rw[c]at M2;clear c M1;have y_:=(M2.bk 0).ten;exact aYw (v:= .tuple #[.agg #[(),(),((),()),(),(),(),(),(),(),((),())],((),())]) (show oM w (hZ,[]) w _ _ from⟨none,0,none,0,none,0,rfl,aW9 _ _ _ _,aW9 _ _ _ _,aW9 _ _ _ _,M2.ext⟩)
theorem aVn (a:Nat)(q:OA)(c2:Nat)(lq:OA)(lm lc:Nat)(ds:List Dd3)(w:World)(hb:lm≤1048576)(hE:Hid (BitTab w))(s:Hid (ds.length=lm))(al:Hid (bC h=true))(HS:Hid (Sl w lq lm lc 3 (ds.flatMap bT)))(y:xB 12 #[.agg (aYo h p a q c2)] w true)(HL:xC 39 #[.agg (aYo h p a q c2)] w fun w' e w''=> ∃p' cap' q' c2',e= .returned (.agg #[h.aA,h.aB,.slice p' h.cells cap',h.free,h.step,h.aE,h.aF,h.aD,h.aG,.slice q' h.vs c2'])∧w''.ownsRow w' TI 1 (.slice p' h.cells cap') h.cells.length (ivs h.cells)∧w''.ownsRow w' TV 4 (.slice q' h.vs c2') h.vs.length (h.vs.flatMap aC)∧Ext w' w''):
  U 15 #[.agg #[h.aA,h.aB,.slice p h.cells a,h.free,h.step,h.aE,h.aF,h.aD,h.aG,.slice q h.vs c2],.slice lq lm lc] w (oM w (kT h ds,iB h ds) w):=by
 have ai:=HS.out.bd;obtain⟨AB,o⟩: ∃AB:Array Value,AB=madeCells #[.bool false] lm:=⟨_,rfl⟩
 have ak: ∀w:World,(Instr.makeSlice 45 (I lm) (I lm)).run prog w= .ok (.slice (some ⟨w,0,none⟩) lm lm) (w.alloc (.cells AB TB)):=fun w=>by rw[o];exact run_make_row' _ _ (Value.bool false) 1 underlying45 (by kernel_rfl) rfl .i64 .i64 lm (by omega) (by omega) w
 have z:Hid (AB.toList=bcs []++List.replicate (lm-0) (Value.bool false)):=by show _=_;rw[o,(pZ _ lm).1];simp[bcs]
 have aa:Hid (AB.size=lm):=by show _=_;rw[o];exact(pZ _ lm).2
 clear o ai;go_enter func15,ntmps15;go_wp2_with fail;refine Ω (y _ (Mem.b2 w).ext) fun w1 af=>?_
 have M1:=((Mem.b2 w).adv af)
 clear af y;have ah:=(M1.bk 1).ten;go_wp2_with fail;clear ah;refine(HL _ M1.ext).mono ?_;rintro e w2 ⟨p1,l,q1,m,rfl,ho,hq,hx⟩;have M2:=(M1.own2 hx ho hq (aVz _) (by decide))
 clear M1 hx ho hq HL;go_upto_region 4 with fail;obtain⟨gV,u⟩: ∃gV,gV=w2.heap.size:=⟨_,rfl⟩
 rw[←u];have M3:=(M2.blkNew aN (aYo h p1 l q1 m) gV u.symm)
 generalize World.alloc _ _=w3 at M3⊢;clear M2 u;go_upto_region 5 with fail;obtain⟨gD,t⟩: ∃gD,gD=w3.heap.size:=⟨_,rfl⟩
 rw[←t]
 have MD:=(show Mem w (w3.alloc (.cells AB TB)) [aJ w TB 1 (some ⟨gD,0,none⟩) (lm) (lm) (bcs ([])++List.replicate (lm-0) (Value.bool false)),aI w (gV) aN (aYo h p1 l q1 m),aYm w p1 h.cells l,aYn w q1 h.vs m,aI w (w.heap.size+1) aN #[(),(),((),()),(),(),(),(),(),(),((),())],aI w w aN (aYo h p a q c2)]from by
  have h1:=M3.lit TB 1 lm gD AB t.symm (by rw[aa.out];omega) (by simp[maxLen];omega);rw[z.out]at h1
  exact h1)
 generalize ae:World.alloc _ _=w4;rw[ae]at MD;clear ae z aa ak t M3;go_wp2;go_loopw [21] (fun i wr=> ∃(k:Nat) (g:aQ) (p3:OA) (c3:Nat) (q3:OA) (d3:Nat),k≤lm∧i=I k∧g=kT h (ds.take k)∧Mem w wr [aJ w TB 1 (some ⟨gD,0,none⟩) (lm) (lm) (bcs (iB h (ds.take k))++List.replicate (lm-k) (Value.bool false)),aYm w p3 g.cells c3,aYn w q3 g.vs d3,aI w (gV) aN (aYo g p3 c3 q3 d3),aI w (w.heap.size+1) aN #[(),(),((),()),(),(),(),(),(),(),((),())],aI w w aN (aYo h p a q c2)]) (fun i _=>lm-(intOf i).toNat)
 case atStart=>exact⟨0,h,p1,l,q1,m,aW6 _,rfl,rfl,(show Mem w w4 [aJ w TB 1 (some ⟨gD,0,none⟩) (lm) (lm) (bcs ([])++List.replicate (lm-0) (Value.bool false)),aYm w p1 h.cells l,aYn w q1 h.vs m,aI w (gV) aN (aYo h p1 l q1 m),aI w (w.heap.size+1) aN #[(),(),((),()),(),(),(),(),(),(),((),())],aI w w aN (aYo h p a q c2)]from MD.pick [0,2,3,1,4,5] (by decide) rfl)⟩
 case round=>
  clear MD;obtain⟨k,g,p3,c3,q3,d3,hk,rfl,hg,hM⟩:=hrel;have HM:=hM;have HG:=xQ hg;have x:Hid (bC g=true):=by show _=_;rw[hg];exact oS _ al.out
  clear hM hg;by_cases hlt:k<lm
  ·obtain⟨b,a3,a0,a1,a2,aj,hx,az,e0,e1,e2⟩:=aH1 (HS.out.ext HM.ext) hlt;subst aj;have HX:=xQ hx;clear hx;have i1:=aYp k;have i2:=aYq k lm;obtain⟨r,num,ok,hr⟩: ∃r num ok,(r,num,ok)=doR g a0 a1 a2:=⟨_,_,_,rfl⟩
   have HR:=xQ hr;clear hr;have ad:Hid (kT h (ds.take (k+1))=r∧iB h (ds.take (k+1))=iB h (ds.take k)++ [ok]):=by show _∧_;rw[aX HX.out,aE5,aCi,←HG.out,←HR.out];exact⟨rfl,rfl⟩
   have HD:Hid (∀B p c q d w',B≤w'.heap.size→Ext wr w'→IsHouse w' g p g.cells.length c q g.vs.length d→U 40 #[.agg (aYo g p c q d),.agg #[a0,a1,a2]] w' (aYz B r.cells.length (ivs r.cells) r.vs.length (r.vs.flatMap aC) w' fun pa ca qa da=> .tuple #[.agg #[r.aA,r.aB,.slice pa r.cells ca,r.free,r.step,r.aE,r.aF,r.aD,r.aG,.slice qa r.vs da],num,.bool ok])):=fun B p c q d w' hB hx hi=>by refine(aIz g a0 a1 a2 p _ c q _ d w' hi x (hE.out.ext (HM.ext.trans hx))).mono (fun e w'' hr=> ?_);have hq:=aMq hB x hr;rw[←HR.out]at hq;exact hq
   have IX:=xQ (show IsHouse wr g p3 g.cells.length c3 q3 g.vs.length d3 from⟨(HM.sq 1),(HM.sq 2)⟩);have f:gV<wr:=(HM.hi 3)
   obtain⟨v0,v1,v2,v3,v4,v5,v6,v7,v8,v9⟩:=(HM.bk 3).ten;go_wp2_with fail;clear v0 v1 v2 v3 v4 v5 v6 v7 v8 v9 e0 e1 e2;refine(HD _ _ _ _ _ _ (aVz _) ((Ext.refl _).alloc _) (IX.out.ext ((Ext.refl _).alloc _))).mono ?_;rintro e w6 ⟨p5,c5,q5,d5,rfl,ho,hq,hx⟩;have M6:=((HM.c0 TDd #[a0,a1,a2]).own2 hx ho hq (aVz _) (by decide))
   clear HM f hx ho hq HD IX;obtain⟨v0,an,v1,ao,v2,ap,v3,aq,v4,ar,v5,au,v6,av,v7,aw,v8,ax,v9,ay⟩:=(M6.bk 6).tenf;have ag: ¬(gD=gV):=M6.ne (i:=3) (j:=6) (by omega) rfl rfl rfl rfl;have am: ¬(gV=gD):=fun h=>ag h.symm
   have fD:w6.frozen? ⟨gD,k,none⟩=false:=(M6.ow 3).frozenAt k;have ab:(bcs (iB h (ds.take k))).length=k:=by rw[aUd,nX,aWn,s.out];omega
   have cD:w6.cell? ⟨gD,k,none⟩=some (Value.bool false):=by have:=(M6.ow 3).cellAt k (by omega);rw[this];exact aUa ab hlt
   go_wp2;clear v0 an v1 ao v2 ap v3 aq v4 ar v5 au v6 av v7 aw v8 ax v9 ay ag am fD cD;have M9:=((M6.put10 (i:=6) rfl (I r.aA) (I r.aB) (.slice p5 r.cells c5) (I r.free) (I r.step) (I r.aE) (I r.aF) (I r.aD) (I r.aG) (.slice q5 r.vs d5)).ostore (i:=3) rfl k (Value.bool ok))
   generalize n:World.setCell _ _ _=wz;rw[n]at M9;clear n M6;go_roundw
   case rel=>
    have hd:(bcs (iB h (ds.take k))++List.replicate (lm-k) (Value.bool false)).set k (Value.bool ok)=bcs (iB h (ds.take (k+1)))++List.replicate (lm-(k+1)) (Value.bool false):=by rw[ad.out.2,aJp];exact aSq ab hlt
    exact⟨k+1,r,p5,c5,q5,d5,by omega,by go_num,ad.out.1.symm,by rw[←hd];exact(show Mem w wz [aJ w TB 1 (some ⟨gD,0,none⟩) (lm) (lm) ((bcs (iB h (ds.take k))++List.replicate (lm-k) (Value.bool false)).set k (Value.bool ok)),aYm w p5 r.cells c5,aYn w q5 r.vs d5,aI w (gV) aN (aYo r p5 c5 q5 d5),aI w (w.heap.size+1) aN #[(),(),((),()),(),(),(),(),(),(),((),())],aI w w aN (aYo h p a q c2)]from(show Mem w wz [aYm w p5 r.cells c5,aYn w q5 r.vs d5,aI w wr TDd #[a0,a1,a2],aJ w TB 1 (some ⟨gD,0,none⟩) (lm) (lm) ((bcs (iB h (ds.take k))++List.replicate (lm-k) (Value.bool false)).set k (Value.bool ok)),aYm w p3 g.cells c3,aYn w q3 g.vs d3,aI w (gV) aN (aYo r p5 c5 q5 d5),aI w (w.heap.size+1) aN #[(),(),((),()),(),(),(),(),(),(),((),())],aI w w aN (aYo h p a q c2)]from M9).pick [3,0,1,6,7,8] (by decide) rfl)⟩
   case measure=>simp[intOf];omega
  obtain rfl:lm=k:=by omega
  have f:gV<wr:=(HM.hi 3)
  obtain⟨v0,v1,v2,v3,v4,v5,v6,v7,v8,v9⟩:=(HM.bk 3).ten;have f_:=(HM.bk 4).tenf;go_wp2;clear v0 v1 v2 v3 v4 v5 v6 v7 v8 v9 f_ f;have M6:=(HM.put10 (i:=4) rfl (I g.aA) (I g.aB) (.slice p3 g.cells c3) (I g.free) (I g.step) (I g.aE) (I g.aF) (I g.aD) (I g.aG) (.slice q3 g.vs d3))
  generalize n:World.setCell _ _ _=wz;rw[n]at M6;clear n HM;have y_:=(M6.bk 4).ten;exact aYw (v:= .tuple #[.agg #[g.aA,g.aB,.slice p3 g.cells c3,g.free,g.step,g.aE,g.aF,g.aD,g.aG,.slice q3 g.vs d3],.slice (some ⟨gD,0,none⟩) lm lm]) (aMp (by have h1:=HG.out;rw[aW4 (by rw[s.out];exact aVz _)]at h1;exact h1) s.out (M6.ow 1) (M6.ow 2) (by have h1:=(M6.ow 0);rw[aW4 (by rw[s.out];exact aVz _),aXp,List.replicate_zero,aWr]at h1;exact h1) M6.ext)
theorem rE (n a:Nat)(q:OA)(m c2:Nat)(lq:OA)(lm lc:Nat)(ds:List Dd3)(w:World)(hi:IsHouse w h p n a q m c2)(hS:Sl w lq lm lc 3 (ds.flatMap bT))(hb:lm≤1048576)(hE:BitTab w):
  U 15 #[bV h p n a q m c2,.slice lq lm lc] w (oM w (uQ h ds) w):=by
 have hl:=hi.clen;have c:=hi.vlen;have b:ds.length=lm:=by have:=hS.len;rw[eC bT 3 (fun _=>rfl)]at this;omega
 subst hl c;have HV:=xQ fun(w':World) (hx:Ext w w')=>lB h p _ a q _ c2 w' (hi.ext hx)
 by_cases hok:bC h=true
 ·have d:=fU hok;unfold uQ;rw[if_pos hok];rw[hok]at HV;have HL:=xQ fun(w':World) (hx:Ext w w')=>vK h p _ a q _ c2 w' (by omega) (by omega) (hi.ext hx)
  unfold RetHouse at HL;exact aVn h p a q c2 lq lm lc ds w hb hE b hok hS HV HL
 unfold uQ;rw[if_neg hok];rw[show bC h=false by simpa using hok]at HV;exact aU3 h p a q c2 lq lm lc ds w HV
theorem nR (x:UInt8)(c:UInt8):((x.toNat:Int)==(c.toNat:Int))=decide (x=c):=by
 by_cases h:x=c
 ·simp[h]
 simp only[h,decide_false,beq_eq_false_iff_ne,ne_eq];intro q;exact h (UInt8.toNat_inj.1 (by omega))
theorem jA (s:ByteArray)(k:Nat)(h:k<s.size):s.data.toList[k]? =some s[k]:=by rw[aW0 (by simpa using h)];rfl
theorem tY {e:Nat}(h:kJ c l=some e)(hk:k<e):l[k]? ≠some c:=by intro q;have:=(gW h).2.2;exact this (by rw[List.mem_take_iff_getElem];obtain⟨h1,h2⟩:=aW3.1 q;exact⟨k,by omega,h2⟩)
theorem aOf (h:kJ c l=none):l[k]? ≠some c:=by intro q;have hm:=aW1 q;unfold kJ at h;rw[if_pos hm]at h;simp at h
theorem aKi (s:ByteArray)(w:World)(hs:s.size≤4294967280)(hp:kJ 59 s.data.toList=none):
  U 48 #[.string s] w (nI none w):=by
 have a:Hid (∀k (h:k<s.size),((s[k].toNat:Int)!=59)=true):=by intro k h;have:=aOf (k:=k) hp;rw[jA s k h]at this;rw[bne,show(59:Int)=((59:UInt8).toNat:Int)from rfl,nR];simpa using this
 go_enter func48,ntmps48;go_wp2;go_loop [5] (fun i=> ∃k:Nat,k≤s.size∧i=I k) (fun i=>s.size-(intOf i).toNat)
 case atStart=>exact⟨0,aW6 _,rfl⟩
 case round=>
  obtain⟨k,hk,rfl⟩:=hrel;by_cases hlt:k<s.size
  ·have hb:=a k hlt;go_wp2;go_round
   case rel=>exact⟨k+1,by omega,by go_num⟩
   case measure=>simp[intOf];omega
  obtain rfl:k=s.size:=by omega
  go_wp2;exact bodyPost_ret (v:=reV none) (by simp[results,results48,go_sem];rfl) rfl ⟨rfl,xE⟩
theorem aNz (s:ByteArray)(e n1 n2:Nat)(ps qs:List (List UInt8))(b:List UInt8)(w:World)(hs:s.size≤4294967280)(hp:kJ 59 s.data.toList=some e)(h1:1≤n1)(hb:ps[0]? =some b)(h2:1≤n2)(o:((n2:Int)!=2)=true)(t:n2≤4294967281)(HC:Hid (∀w,U 57 #[.string (s.extract 0 e),.int .u8 35] w (aYx 9 1 n1 (eY ps) w)))(d:Hid (∀w,U 57 #[str b,.int .u8 58] w (aYx 9 1 n2 (eY qs) w))):
  U 48 #[.string s] w (nI none w):=by
 have j:e<s.size:=by have:=(gW hp).1;rwa[cJ]at this
 have c:Hid (∀k (h:k<e) (h2:k<s.size),((s[k].toNat:Int)!=59)=true):=by intro k h h2;have:=tY hp h;rw[jA s k h2]at this;rw[bne,show(59:Int)=((59:UInt8).toNat:Int)from rfl,nR];simpa using this
 have f:((s[e].toNat:Int)!=59)=false:=by have:=(gW hp).2.1;rw[jA s e j]at this;rw[bne,show(59:Int)=((59:UInt8).toNat:Int)from rfl,nR];simpa using this
 go_enter func48,ntmps48;go_wp2;go_loop [5] (fun i=> ∃k:Nat,k≤e∧i=I k) (fun i=>e-(intOf i).toNat)
 case atStart=>exact⟨0,aW6 _,rfl⟩
 case round=>
  obtain⟨k,hk,rfl⟩:=hrel;by_cases hlt:k<e
  ·have l:k<s.size:=by omega
   have hb:=c k hlt l;clear f;go_wp2;go_round
   case rel=>exact⟨k+1,by omega,by go_num⟩
   case measure=>simp[intOf];omega
  obtain rfl:k=e:=by omega
  have x:((k:Int)==(s.size:Int))=false:=by simp;omega
  go_wp2_with fail;refine(HC _).mono ?_;rintro q w1 ⟨v,rfl,a,h1⟩;obtain⟨g,n,rfl⟩:=aWb a (by omega);have e0:=aY a 0 (by omega) _ hb;clear a;have u:0<n1:=by omega
  go_wp2_with fail;refine(d _).mono ?_;rintro q w2 ⟨v,rfl,a,h2⟩;obtain⟨g2,m,rfl⟩:=aWb a (by omega);clear a;replace h2:=h1.trans h2;clear h1 e0;obtain⟨p,r⟩:=h2.cells;go_wp2;exact bodyPost_ret (v:=reV none) (by simp[results,results48,go_sem, *];rfl) rfl ⟨rfl,xE⟩
theorem aKj (s:ByteArray)(e n1:Nat)(ps:List (List UInt8))(b:List UInt8)(w:World)(hs:s.size≤4294967280)(hp:kJ 59 s.data.toList=some e)(h1:1≤n1)(hb:ps[0]? =some b)(f r:List UInt8)(n:Int)(HC:Hid (∀w,U 57 #[.string (s.extract 0 e),.int .u8 35] w (aYx 9 1 n1 (eY ps) w)))(d:Hid (∀w,U 57 #[str b,.int .u8 58] w (aYx 9 1 2 (eY [f,r]) w)))(HR:Hid (∀w,U 59 #[str f] w fun q w'=>q= .returned (I n)∧w=w'))(HD:Hid (∀w,U 86 #[str r] w (Z (.tuple #[cS 0 0 0,.bool false]) w))):
  U 48 #[.string s] w (nI (none) w):=by
 have l:e<s.size:=by have:=(gW hp).1;rwa[cJ]at this
 have c:Hid (∀k (h:k<e) (h2:k<s.size),((s[k].toNat:Int)!=59)=true):=by intro k h h2;have:=tY hp h;rw[jA s k h2]at this;rw[bne,show(59:Int)=((59:UInt8).toNat:Int)from rfl,nR];simpa using this
 have j:((s[e].toNat:Int)!=59)=false:=by have:=(gW hp).2.1;rw[jA s e l]at this;rw[bne,show(59:Int)=((59:UInt8).toNat:Int)from rfl,nR];simpa using this
 go_enter func48,ntmps48;go_wp2;go_loop [5] (fun i=> ∃k:Nat,k≤e∧i=I k) (fun i=>e-(intOf i).toNat)
 case atStart=>exact⟨0,aW6 _,rfl⟩
 case round=>
  obtain⟨k,hk,rfl⟩:=hrel;by_cases hlt:k<e
  ·have m:k<s.size:=by omega
   have hb:=c k hlt m;clear j;go_wp2;go_round
   case rel=>exact⟨k+1,by omega,by go_num⟩
   case measure=>simp[intOf];omega
  obtain rfl:k=e:=by omega
  have y:((k:Int)==(s.size:Int))=false:=by simp;omega
  go_wp2_with fail;refine(HC _).mono ?_;rintro q w1 ⟨v,rfl,a,h1⟩;obtain⟨g,p,rfl⟩:=aWb a (by omega);have e0:=aY a 0 (by omega) _ hb;clear a;have x:0<n1:=by omega
  go_wp2_with fail;refine(d _).mono ?_;rintro q w2 ⟨v,rfl,a,h2⟩;obtain⟨g2,o,rfl⟩:=aWb a (by omega);have e1:=aY a 0 (by omega) _ rfl;have e2:=aY a 1 (by omega) _ rfl;clear a;replace h2:=h1.trans h2;clear h1 e0;go_wp2_with fail;refine(HR _).mono ?_;rintro q w3 ⟨rfl,rfl⟩;go_wp2_with fail;refine Ω (HD _) fun w3 h3=>?_
  clear e1 e2;replace h3:=h2.trans h3;clear h2;obtain⟨t,u⟩:=h3.cells;have z:(w:Nat)<w3:=aVy (by simp) h3.sz;go_wp2;go_quiet (fail);go_wp2;exact bodyPost_ret (v:=reV none) (by simp[results,results48,go_sem, *];rfl) rfl ⟨rfl,xE⟩
theorem aQj (s:ByteArray)(e n1:Nat)(ps:List (List UInt8))(b:List UInt8)(w:World)(hs:s.size≤4294967280)(hp:kJ 59 s.data.toList=some e)(h1:1≤n1)(hb:ps[0]? =some b)(f r t:List UInt8)(n k2 a b0:Int)(HC:Hid (∀w,U 57 #[.string (s.extract 0 e),.int .u8 35] w (aYx 9 1 n1 (eY ps) w)))(j:Hid (∀w,U 57 #[str b,.int .u8 58] w (aYx 9 1 2 (eY [f,r]) w)))(HR:Hid (∀w,U 59 #[str f] w fun q w'=>q= .returned (I n)∧w=w'))(HD:Hid (∀w,U 86 #[str r] w (Z (.tuple #[cS k2 a b0,.bool true]) w)))(HT:Hid (∀w,U 85 #[n,cS k2 a b0] w (Z (str t) w)))(ag:t.length≤200)(u:(t==(s.extract 0 (e+1)).toList)=false):
  U 48 #[.string s] w (nI (none) w):=by
 have m:e<s.size:=by have:=(gW hp).1;rwa[cJ]at this
 have d:Hid (∀k (h:k<e) (h2:k<s.size),((s[k].toNat:Int)!=59)=true):=by intro k h h2;have:=tY hp h;rw[jA s k h2]at this;rw[bne,show(59:Int)=((59:UInt8).toNat:Int)from rfl,nR];simpa using this
 have l:((s[e].toNat:Int)!=59)=false:=by have:=(gW hp).2.1;rw[jA s e m]at this;rw[bne,show(59:Int)=((59:UInt8).toNat:Int)from rfl,nR];simpa using this
 go_enter func48,ntmps48;go_wp2;go_loop [5] (fun i=> ∃k:Nat,k≤e∧i=I k) (fun i=>e-(intOf i).toNat)
 case atStart=>exact⟨0,aW6 _,rfl⟩
 case round=>
  obtain⟨k,hk,rfl⟩:=hrel;by_cases hlt:k<e
  ·have o:k<s.size:=by omega
   have hb:=d k hlt o;clear l;go_wp2;go_round
   case rel=>exact⟨k+1,by omega,by go_num⟩
   case measure=>simp[intOf];omega
  obtain rfl:k=e:=by omega
  have af:((k:Int)==(s.size:Int))=false:=by simp;omega
  go_wp2_with fail;refine(HC _).mono ?_;rintro q w1 ⟨v,rfl,c,h1⟩;obtain⟨g,x,rfl⟩:=aWb c (by omega);have e0:=aY c 0 (by omega) _ hb;clear c;have ae:0<n1:=by omega
  go_wp2_with fail;refine(j _).mono ?_;rintro q w2 ⟨v,rfl,c,h2⟩;obtain⟨g2,p,rfl⟩:=aWb c (by omega);have e1:=aY c 0 (by omega) _ rfl;have e2:=aY c 1 (by omega) _ rfl;clear c;replace h2:=h1.trans h2;clear h1 e0;go_wp2_with fail;refine(HR _).mono ?_;rintro q w3 ⟨rfl,rfl⟩;go_wp2_with fail;refine Ω (HD _) fun w3 h3=>?_
  clear e1 e2;replace h3:=h2.trans h3;clear h2;obtain⟨y,ab⟩:=h3.cells;have ah:(w:Nat)<w3:=aVy (by simp) h3.sz;go_wp2;have q1:=aYs ((k:Int)+1);have q2:0≤(k:Int)+1:=by omega
  have q3:((k:Int)+1).toNat=k+1:=by omega
  have q4:(k:Int)+1≤(s.size:Int):=by omega
  go_region_held3 (fun w'=>w'.cell? ⟨w3,0,none⟩=some (I k2)∧w'.cell? ⟨w3,1,none⟩=some (I a)∧w'.cell? ⟨w3,2,none⟩=some (I b0)) (go_keep)
   ((go_at_call 85;refine Ω (HT _) fun w4 h4=>?_;(try replace h4:=h4.of_drew);have aa:=h4.cells.1))
  clear q1 q2 q3 q4;replace h4:=(h3.alloc (.cells #[k2,a,b0] 70)).trans h4;obtain⟨z,ad⟩:=h4.cells;go_wp2;exact bodyPost_ret (v:=reV none) (by simp[results,results48,go_sem, *];rfl) rfl ⟨rfl,xE⟩
theorem aQi (s:ByteArray)(e n1:Nat)(ps:List (List UInt8))(b:List UInt8)(w:World)(hs:s.size≤4294967280)(hp:kJ 59 s.data.toList=some e)(h1:1≤n1)(hb:ps[0]? =some b)(f r t:List UInt8)(n k2 a b0:Int)(HC:Hid (∀w,U 57 #[.string (s.extract 0 e),.int .u8 35] w (aYx 9 1 n1 (eY ps) w)))(j:Hid (∀w,U 57 #[str b,.int .u8 58] w (aYx 9 1 2 (eY [f,r]) w)))(HR:Hid (∀w,U 59 #[str f] w fun q w'=>q= .returned (I n)∧w=w'))(HD:Hid (∀w,U 86 #[str r] w (Z (.tuple #[cS k2 a b0,.bool true]) w)))(HT:Hid (∀w,U 85 #[n,cS k2 a b0] w (Z (str t) w)))(ag:t.length≤200)(u:(t==(s.extract 0 (e+1)).toList)=true):
  U 48 #[.string s] w (nI (some (n,(k2,a,b0),e+1)) w):=by
 have m:e<s.size:=by have:=(gW hp).1;rwa[cJ]at this
 have d:Hid (∀k (h:k<e) (h2:k<s.size),((s[k].toNat:Int)!=59)=true):=by intro k h h2;have:=tY hp h;rw[jA s k h2]at this;rw[bne,show(59:Int)=((59:UInt8).toNat:Int)from rfl,nR];simpa using this
 have l:((s[e].toNat:Int)!=59)=false:=by have:=(gW hp).2.1;rw[jA s e m]at this;rw[bne,show(59:Int)=((59:UInt8).toNat:Int)from rfl,nR];simpa using this
 go_enter func48,ntmps48;go_wp2;go_loop [5] (fun i=> ∃k:Nat,k≤e∧i=I k) (fun i=>e-(intOf i).toNat)
 case atStart=>exact⟨0,aW6 _,rfl⟩
 case round=>
  obtain⟨k,hk,rfl⟩:=hrel;by_cases hlt:k<e
  ·have o:k<s.size:=by omega
   have hb:=d k hlt o;clear l;go_wp2;go_round
   case rel=>exact⟨k+1,by omega,by go_num⟩
   case measure=>simp[intOf];omega
  obtain rfl:k=e:=by omega
  have af:((k:Int)==(s.size:Int))=false:=by simp;omega
  go_wp2_with fail;refine(HC _).mono ?_;rintro q w1 ⟨v,rfl,c,h1⟩;obtain⟨g,x,rfl⟩:=aWb c (by omega);have e0:=aY c 0 (by omega) _ hb;clear c;have ae:0<n1:=by omega
  go_wp2_with fail;refine(j _).mono ?_;rintro q w2 ⟨v,rfl,c,h2⟩;obtain⟨g2,p,rfl⟩:=aWb c (by omega);have e1:=aY c 0 (by omega) _ rfl;have e2:=aY c 1 (by omega) _ rfl;clear c;replace h2:=h1.trans h2;clear h1 e0;go_wp2_with fail;refine(HR _).mono ?_;rintro q w3 ⟨rfl,rfl⟩;go_wp2_with fail;refine Ω (HD _) fun w3 h3=>?_
  clear e1 e2;replace h3:=h2.trans h3;clear h2;obtain⟨y,ab⟩:=h3.cells;have ah:(w:Nat)<w3:=aVy (by simp) h3.sz;go_wp2;have q1:=aYs ((k:Int)+1);have q2:0≤(k:Int)+1:=by omega
  have q3:((k:Int)+1).toNat=k+1:=by omega
  have q4:(k:Int)+1≤(s.size:Int):=by omega
  go_region_held3 (fun w'=>w'.cell? ⟨w3,0,none⟩=some (I k2)∧w'.cell? ⟨w3,1,none⟩=some (I a)∧w'.cell? ⟨w3,2,none⟩=some (I b0)) (go_keep)
   ((go_at_call 85;refine Ω (HT _) fun w4 h4=>?_;(try replace h4:=h4.of_drew);have aa:=h4.cells.1))
  clear q1 q2 q3 q4;replace h4:=(h3.alloc (.cells #[k2,a,b0] 70)).trans h4;obtain⟨z,ad⟩:=h4.cells;go_wp2;go_region;all_goals go_wp2
  all_goals exact bodyPost_ret (v:=reV (some (n,(k2,a,b0),k+1))) (by simp[results,results48,go_sem, *];rfl) rfl ⟨rfl,xE⟩
theorem pN (s:ByteArray)(n:Nat):(s.extract 0 n).toList=s.data.toList.take n:=by rw[Lib.toList_data,Lib.extract_data];simp
theorem aGy (s:ByteArray)(n:Nat):Value.string (s.extract 0 n)=str (s.data.toList.take n):=by rw[aAy,←Lib.toList_data,pN]
theorem aB5 (s:ByteArray)(w:World)(hs:s.size≤4294967280):U 48 #[.string s] w (nI (cV s.data.toList) w):=by
 rw[←yM];unfold iE;cases hp:kJ 59 s.data.toList with
 |none=>exact aKi s w hs hp
 |some e=>
  simp only;have u:e<s.size:=by have:=(gW hp).1;rwa[cJ]at this
  have y:(s.data.toList.take e).length≤s.size:=by simp;omega
  have hC: ∀w,U 57 #[.string (s.extract 0 e),.int .u8 35] w (aYx 9 1 (aL 35 (s.data.toList.take e)).length (eY (aL 35 (s.data.toList.take e))) w):=by intro w;rw[aGy];exact mI ⟨(s.data.toList.take e).toArray⟩ 35 35 rfl w (by simp only[ByteArray.size,List.size_toArray];omega)
  have j:=aF1 35 (s.data.toList.take e);have t:=(rO 35 (s.data.toList.take e)).1;have g: ∀w,U 57 #[str (dD 35 (s.data.toList.take e)),.int .u8 58] w (aYx 9 1 (aL 58 (dD 35 (s.data.toList.take e))).length (eY (aL 58 (dD 35 (s.data.toList.take e)))) w):=by intro w;exact mI ⟨(dD 35 (s.data.toList.take e)).toArray⟩ 58 58 rfl w (by simp only[ByteArray.size,List.size_toArray];omega)
  have l:1≤(aL 35 (s.data.toList.take e)).length:=by
   cases hq:aL 35 (s.data.toList.take e)with
   |nil=>exact absurd hq (eX _ _)
   |cons a b=>simp
  generalize hb:dD 35 (s.data.toList.take e)=b at*;have m:=eK 58 b;have i:(aL 58 b).length≠2→U 48 #[.string s] w (nI none w):=by
   intro h;have n:1≤(aL 58 b).length:=by
    cases hq:aL 58 b with
    |nil=>exact absurd hq (eX _ _)
    |cons a c=>simp
   exact aNz s e _ _ _ (aL 58 b) b w hs hp l j n (by simp;omega) (by omega) hC g
  rcases hc:aL 58 b with _|⟨f,_|⟨r,_|⟨x,p⟩⟩⟩
  ·exact i (by simp[hc])
  ·exact i (by simp[hc])
  ·simp only;rw[hc]at g;have hf:=m.1 f (by simp[hc]);have hr:=m.1 r (by simp[hc]);have hR: ∀w,U 59 #[str f] w fun q w'=>q= .returned (I ((bK 4 f).getD (-1)))∧w=w':=fun w=>aBu f (by unfold maxLen;omega) w
   have hD: ∀o,cI r=o→ ∀w,U 86 #[str r] w (Z (rdV o) w):=by intro o ho w;subst ho;exact aFf r w (by omega)
   cases hd:cI r with
   |none=>exact aKj s e _ _ b w hs hp l j f r _ hC g hR (hD _ hd)
   |some d=>
    obtain⟨k,a,b0⟩:=d;have hT: ∀w,U 85 #[((bK 4 f).getD (-1):Int),cS k a b0] w (Z (str (bN ((bK 4 f).getD (-1)) k a b0)) w):=fun w=>aDz _ k a b0 w
    by_cases ht:bN ((bK 4 f).getD (-1)) k a b0=s.data.toList.take (e+1)
    ·simp only[ht,if_true];exact aQi s e _ _ b w hs hp l j f r _ _ k a b0 hC g hR (hD _ hd) hT (jF _ k a b0) (by rw[pN,ht];simp)
    simp only[ht,if_false];exact aQj s e _ _ b w hs hp l j f r _ _ k a b0 hC g hR (hD _ hd) hT (jF _ k a b0) (by rw[pN];simpa using ht)
  exact i (by simp[hc])
theorem aCz (l:List UInt8)(w:World)(hs:l.length≤4294967280):U 48 #[str l] w (nI (cV l) w):=
 aB5 ⟨l.toArray⟩ w (by simpa[ByteArray.size]using hs)
def uR:Nat→Int→List UInt8→List fH×Nat
 |0,_,_=>([],0)
 |f+1,first,l=>match cV l with
  |none=>([],0)
  |some (n,d,m)=>if n=first then(d::(uR f (first+1) (l.drop m)).1,m+(uR f (first+1) (l.drop m)).2)else([],0)
def rj (first:Int)(l:List UInt8):List fH×Nat:=uR l.length first l
theorem iF (h:cV l=some (n,d,m)):0<m∧m≤l.length∧1≤n∧n≤99:=by
 obtain⟨k,a,b⟩:=d;obtain⟨h1,h2,h3⟩:=sO h;obtain⟨q1,q2,_⟩:=jS h1;have:=congrArg List.length h2;rw[aW5]at this;have hp:(bN n k a b).length≠0:=fun e=>h1 (aWv e)
 omega
theorem mO:cV []=none:=by
 cases h:cV []with
 |none=>rfl
 |some x=>obtain⟨n,d,m⟩:=x;have:=iF h;simp at this;omega
theorem aO6: ∀(f g:Nat) (first:Int) (l:List UInt8),l.length≤f→l.length≤g→uR f first l=uR g first l:=by
 intro f;induction f with
 |zero=>
  intro g first l hf hg
  obtain rfl:l= []:=aWv (by omega);cases g with
  |zero=>rfl
  |succ g=>simp[uR,mO]
 |succ f ih=>
  intro g first l hf hg
  cases g with
  |zero=>obtain rfl:l= []:=aWv (by omega);simp[uR,mO]
  |succ g=>
   simp only[uR];cases h:cV l with
   |none=>rfl
   |some x=>obtain⟨n,d,m⟩:=x;obtain⟨h1,h2,_⟩:=iF h;simp only;rw[ih g (first+1) (l.drop m) (by simp;omega) (by simp;omega)]
theorem aTm {first:Int}(h:cV l=none):rj first l=([],0):=by
 unfold rj;cases l with
 |nil=>rfl
 |cons x xs=>simp[uR,h]
theorem aR2 {first:Int}(h:cV l=some (n,d,m))(hn:n≠first):rj first l=([],0):=by
 unfold rj;cases l with
 |nil=>rw[mO]at h;simp at h
 |cons x xs=>simp[uR,h,hn]
theorem aTl {first:Int}(h:cV l=some (first,d,m)):rj first l=(d::(rj (first+1) (l.drop m)).1,m+(rj (first+1) (l.drop m)).2):=by
 obtain⟨h1,h2,_⟩:=iF h;have e:rj first l=uR ((l.length-1)+1) first l:=by unfold rj;congr 1;omega
 rw[e];simp only[uR,h,if_true];have e2:uR (l.length-1) (first+1) (l.drop m)=rj (first+1) (l.drop m):=aO6 _ _ _ _ (by simp;omega) (by simp);rw[e2]
theorem aCn (w:World)(a b c:Value)(t:TypeId): ∀j u,[a,b,c][j]? =some u→(w.alloc (.cells #[a,b,c] t)).cell? ((⟨w,0,none⟩:Addr).add j)=some u:=by
 intro j u h;rw[lU,aWz]
 match j,h with
 |0,h=>simp at h;subst h;simp
 |1,h=>simp at h;subst h;simp
 |2,h=>simp at h;subst h;simp
def aT3 (first:Int)(l:List UInt8)(w:World)(e:Ending)(w':World):Prop:=
 ∃v,e= .returned (.tuple #[v,.int .i64 (rj first l).2])∧w'.ownsRow w.heap.size 70 3 v (rj first l).1.length ((rj first l).1.flatMap gC)∧Ext w w'
def aMd (first:Int)(l:List UInt8)(A:List fH)(q:Nat):Prop:=
 q≤l.length∧A.length≤q∧(A.length=0∨(1≤first∧first+A.length≤100))∧rj first l=(A++(rj (first+A.length) (l.drop q)).1,q+(rj (first+A.length) (l.drop q)).2)
theorem aBb (l:List UInt8):aMd first l [] 0:=⟨aW6 _,aVz _,.inl rfl,by simp⟩
theorem yR {first:Int}(h:aMd first l A q)(h1:cV (l.drop q)=none):rj first l=(A,q):=by rw[h.2.2.2,aTm h1];simp
theorem aBc {first:Int}(h:aMd first l A q)(h1:cV (l.drop q)=some (n,d,m))(hn:n≠first+A.length):rj first l=(A,q):=by rw[h.2.2.2,aR2 h1 hn];simp
theorem aE8 {first:Int}(h:aMd first l A q)(h1:cV (l.drop q)=some (first+A.length,d,m)):aMd first l (A++ [d]) (q+m):=by obtain⟨h2,h3,h4,h5⟩:=h;obtain⟨q1,q2,q3,q4⟩:=iF h1;rw[aWt]at q2;refine⟨by omega,by simp;omega,.inr ⟨by rcases h4 with h4|h4<;>omega,by simp;omega⟩,?_⟩;rw[h5,aTl h1];simp[List.drop_drop,Int.add_assoc,Nat.add_assoc]
theorem wS {first:Int}{n:Nat}{w':World}(h:rj first l=(A,q))(hn:n=A.length)(ho:w'.ownsRow w 70 3 v n (A.flatMap gC))(hE:Ext w w'):
  aT3 first l w (.returned (.tuple #[v,q])) w':=⟨v,by rw[h],by rw[h];subst hn;exact ho,hE⟩
theorem xV (s:ByteArray)(q:Nat):Value.string (s.extract q s.size)=str (s.data.toList.drop q):=
 pD s q s.size _ (by rw[aW4 (by rw[Array.length_toList];exact aVz _)])
theorem qW {base sz n:Nat}{e:TypeId}{xs:List Value}(h:w.ownsRow base e sz v n xs): ∃p cap,v= .slice p n cap:=by
 rcases h.2 with⟨h1,h2⟩|⟨g,cap,_,h1,_⟩
 ·exact⟨none,0,by rw[h1,h2]⟩
 exact⟨_,cap,h1⟩
theorem aEm:(prog.info? 70).map (fun i=>(i.zero,i.size,i.bytes))=some (some (.agg #[(),(),()]),3,24):=aRo
theorem aQ6 (s:ByteArray)(w:World)(hs:s.size≤2147483648)(hB:B64 first):
  U 19 #[first,.string s] w (aT3 first s.data.toList w):=by
 obtain⟨i0,hi,ab,ad,ae⟩:=info_parts aEm;have y:s.data.toList.length=s.size:=by rw[Array.length_toList];rfl
 have HL:=xQ y;clear y;go_enter func19,ntmps19;go_wp2;go_loopw [6,7] (fun v q wr=> ∃(k:Nat) (A:List fH) (p:OA) (n cap:Nat),v= .slice p n cap∧n=A.length∧q=I k∧aMd first s.data.toList A k∧wr.ownsRow w 70 3 (.slice p n cap) n (A.flatMap gC)∧Ext w wr) (fun _ q _=>s.size-(intOf q).toNat)
 case atStart=>exact⟨0,[],_,0,0,rfl,rfl,rfl,aBb _ _,aX7 _ #[] 0 (aVz _) (by simp[maxLen]) rfl,(Ext.refl _).alloc _⟩
 case round=>
  obtain⟨k,A,p,n,cap,rfl,hn,rfl,i,g,hE⟩:=hrel;have r:=xQ i;have ah:=hE.sz;have ag:n≤k:=by rw[hn];exact i.2.1
  have hk:k≤s.size:=by have:=i.1;rwa[HL.out]at this
  have af:n=0∨(1≤first∧first+n≤100):=by rw[hn];exact i.2.2.1
  have HN:=xQ hn;clear hn i;by_cases hlt:k<s.size
  ·have HS:Hid (∀w,U 48 #[.string (s.extract k s.size)] w (nI (cV (s.data.toList.drop k)) w)):=fun w=>by
    rw[xV];exact aCz _ w (by rw[aWt,HL.out];omega)
   cases hre:cV (s.data.toList.drop k)with
   |none=>
    rw[hre]at HS;have f:=xQ (yR r hre);clear hre;go_wp2_with fail;refine Ω (HS _) fun w1 h1=>?_
    have d:=g.kept h1.gb (by cases Value.ownBlock _<;>simp);unfold reV;go_wp2;exact aYw (v:= .tuple #[.slice p n cap,k]) (wS f.out HN (d.alloc _) xE)
   |some x=>
    obtain⟨z,⟨a,b,c⟩,m⟩:=x;rw[hre]at HS;obtain⟨r1,r2,r3,r4⟩:=iF hre;rw[aWt,HL.out]at r2;have q1:IntKind.i64.wrap (first+(n:Int))=first+n:=aW2 _ (by unfold B64 at hB;omega)
    have q2:((m:Int)==0)=false:=by rw[beq_eq_false_iff_ne];omega
    have q3:IntKind.i64.wrap ((k:Int)+(m:Int))=(k:Int)+m:=aW2 _ (by omega);by_cases hz:z=first+n
    ·have f:=xQ (aE8 r (by rw[hre,hz,HN.out]));clear hre;have q4:(z !=first+(n:Int))=false:=by simp[hz]
     clear hz;go_wp2_with fail;refine Ω (HS _) fun w1 h1=>?_
     have d:=g.kept h1.gb (by cases Value.ownBlock _<;>simp);unfold reV cS;go_wp2_with (at_builtin;refine wpList_append_own _ rfl _ _ 40 rfl w 70 i0 (.agg #[(),(),()]) 3 24 underlying40 hi ab ad ae rfl (by decide) _ _ _ rfl ((d.alloc _).alloc _) ⟨w1.heap.size+1,0,none⟩ 1 1 [I a,I b,I c] rfl rfl ?c1 ?c2 ?c3 ?c4 ?c5 ?_)
     case c1=>intro j u h;have:=aCn (w1.alloc (.cells #[a,b,c] 70)) (I a) (I b) (I c) 70 j u h;simpa using this
     case c2=>intro u hu;simp at hu;rcases hu with rfl|rfl|rfl<;>rfl
     case c3=>unfold maxLen;omega
     case c4=>omega
     case c5=>have:=h1.sz;simp;omega
     intro v' w2 o l _;have aa:Ext w w2:=(((hE.trans h1).alloc _).alloc _).grown l (fun q hq=>(d.lt q hq).1);clear l g;obtain⟨p2,t,rfl⟩:=qW o;go_wp2;go_roundw
     case rel=>exact⟨k+m,A++ [(a,b,c)],p2,n+1,t,rfl,by simp[HN.out],by simp,f.out,by simpa[gC]using o,aa⟩
     case measure=>simp[intOf];omega
    have q4:(z !=first+(n:Int))=true:=by simpa using hz
    have f:=xQ (aBc r hre (by rw[←HN.out];exact hz));clear hre;go_wp2_with fail;refine Ω (HS _) fun w1 h1=>?_
    have d:=g.kept h1.gb (by cases Value.ownBlock _<;>simp);unfold reV cS;go_wp2;exact aYw (v:= .tuple #[.slice p n cap,k]) (wS f.out HN (d.alloc _) xE)
  obtain rfl:k=s.size:=by omega
  have f:=xQ (yR r (by rw[aXd (by rw[HL.out];exact aVz _)];exact mO));go_wp2;exact aYw (v:= .tuple #[.slice p n cap,(s.size:Int)]) (wS f.out HN g xE)
theorem aLk (s:ByteArray)(w:World)(hs:s.size≤2147483648)(hB:B64 first)(i:Env w):
  U 13 #[first,.string s] w (aT3 first s.data.toList w):=by
 obtain⟨i0,hi,ad,ae,af⟩:=info_parts aEm;have aa:s.data.toList.length=s.size:=by rw[Array.length_toList];rfl
 have HL:=xQ aa;clear aa;go_enter func13,ntmps13;go_wp2;go_loopw [6,7] (fun v q wr=> ∃(k:Nat) (A:List fH) (p:OA) (n cap:Nat),v= .slice p n cap∧n=A.length∧q=I k∧aMd first s.data.toList A k∧wr.ownsRow w 70 3 (.slice p n cap) n (A.flatMap gC)∧Ext w wr) (fun _ q _=>s.size-(intOf q).toNat)
 case atStart=>exact⟨0,[],none,0,0,rfl,rfl,rfl,aBb _ _,aW9 _ _ _ _,Ext.refl _⟩
 case round=>
  obtain⟨k,A,p,n,cap,rfl,hn,rfl,l,g,hE⟩:=hrel;have t:=xQ l;have ai:=hE.sz;have ah:n≤k:=by rw[hn];exact l.2.1
  have hk:k≤s.size:=by have:=l.1;rwa[HL.out]at this
  have ag:n=0∨(1≤first∧first+n≤100):=by rw[hn];exact l.2.2.1
  have HN:=xQ hn;clear hn l;have HS:Hid (∀w,Env w→U 38 #[.string (s.extract k s.size)] w (nI (cV (s.data.toList.drop k)) w)):=fun w he=>by rw[xV];exact aDh _ w (by rw[aWt,HL.out];omega) he
  cases hre:cV (s.data.toList.drop k)with
  |none=>
   rw[hre]at HS;have f:=xQ (yR t hre);clear hre;go_wp2_with fail;refine Ω (HS _ (i.ext hE)) fun w1 h1=>?_
   have d:=g.kept h1.gb (by cases Value.ownBlock _<;>simp);unfold reV;go_wp2;exact aYw (v:= .tuple #[.slice p n cap,k]) (wS f.out HN (d.alloc _) xE)
  |some x=>
   obtain⟨z,⟨a,b,c⟩,m⟩:=x;rw[hre]at HS;obtain⟨r1,r2,r3,r4⟩:=iF hre;rw[aWt,HL.out]at r2;have q1:IntKind.i64.wrap (first+(n:Int))=first+n:=aW2 _ (by unfold B64 at hB;omega)
   have q2:((m:Int)==0)=false:=by rw[beq_eq_false_iff_ne];omega
   have q3:IntKind.i64.wrap ((k:Int)+(m:Int))=(k:Int)+m:=aW2 _ (by omega);by_cases hz:z=first+n
   ·have f:=xQ (aE8 t (by rw[hre,hz,HN.out]));clear hre;have q4:(z !=first+(n:Int))=false:=by simp[hz]
    clear hz;go_wp2_with fail;refine Ω (HS _ (i.ext hE)) fun w1 h1=>?_
    have d:=g.kept h1.gb (by cases Value.ownBlock _<;>simp);unfold reV cS;go_wp2_with (at_builtin;refine wpList_append_own _ rfl _ _ 40 rfl w 70 i0 (.agg #[(),(),()]) 3 24 underlying40 hi ad ae af rfl (by decide) _ _ _ rfl ((d.alloc _).alloc _) ⟨w1.heap.size+1,0,none⟩ 1 1 [I a,I b,I c] rfl rfl ?c1 ?c2 ?c3 ?c4 ?c5 ?_)
    case c1=>intro j u h;have:=aCn (w1.alloc (.cells #[a,b,c] 70)) (I a) (I b) (I c) 70 j u h;simpa using this
    case c2=>intro u hu;simp at hu;rcases hu with rfl|rfl|rfl<;>rfl
    case c3=>unfold maxLen;omega
    case c4=>omega
    case c5=>have:=h1.sz;simp;omega
    intro v' w2 r o _;have ab:Ext w w2:=(((hE.trans h1).alloc _).alloc _).grown o (fun q hq=>(d.lt q hq).1);clear o g;obtain⟨p2,y,rfl⟩:=qW r;go_wp2;go_roundw
    case rel=>exact⟨k+m,A++ [(a,b,c)],p2,n+1,y,rfl,by simp[HN.out],by simp,f.out,by simpa[gC]using r,ab⟩
    case measure=>simp[intOf];omega
   have q4:(z !=first+(n:Int))=true:=by simpa using hz
   have f:=xQ (aBc t hre (by rw[←HN.out];exact hz));clear hre;go_wp2_with fail;refine Ω (HS _ (i.ext hE)) fun w1 h1=>?_
   have d:=g.kept h1.gb (by cases Value.ownBlock _<;>simp);unfold reV cS;go_wp2;exact aYw (v:= .tuple #[.slice p n cap,k]) (wS f.out HN (d.alloc _) xE)
end Go.Proofs.YthfmmibomhhmpabGreatDoor
