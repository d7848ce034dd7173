/-
  Texts of this proof, packed (@packed).
-/
import Derived.Test.YtbgkcehffiogcaaGreatDoorV18
namespace Go.Proofs.YtbgkcehffiogcaaGreatDoor
open Go.RowKit
set_option linter.unusedSimpArgs false
set_option linter.unusedVariables false
set_option maxHeartbeats 8000000
set_option maxRecDepth 100000
section
open Go.Proofs.Tryz
theorem qC (aA aB a b aE aF aC aG c l aj:Int)(p:OA)(n g:Nat)(q:OA)(m c2:Nat)(xs ys:List Int)(vs ap:List aS)(w:World)(h0:0≤c)
  (ak:xB 10 #[.agg #[aA,aB,.slice p n g,a,b,aE,aF,aC,aG,.slice q m c2]] w true)
  (HL:xC 25 #[.agg #[aA,aB,.slice p n g,a,b,aE,aF,aC,aG,.slice q m c2]] w fun w' e w''=> ∃p' cap' q' c2',e= .returned (.agg #[aA,aB,.slice p' n cap',a,b,aE,aF,aC,aG,.slice q' m c2'])∧w''.ownsRow w' TI 1 (.slice p' n cap') n (ivs xs)∧w''.ownsRow w' TV 4 (.slice q' m c2') m (vs.flatMap aD)∧Ext w' w'')
  (HP:xC 55 #[aH aA aB p n g,l] w fun w' e w''=> ∃p' cap',e= .returned (.tuple #[aH aA aB p' n cap',c])∧w''.ownsRow w' TI 1 (.slice p' n cap') n (ivs ys)∧Ext w' w'')
  (HQ:xC 56 #[.slice q m c2,.agg #[l,aC,(),aC]] w fun w' e w''=> ∃q' c',e= .returned (.slice q' (m+1) c')∧w''.ownsRow w' TV 4 (.slice q' (m+1) c') (m+1) (ap.flatMap aD)∧Ext w' w''):
  U 26 #[.agg #[aA,aB,.slice p n g,a,b,aE,aF,aC,aG,.slice q m c2],.agg #[(),l,aj]] w fun e w'=> ∃p' cap' q' c2',e= .returned (.tuple #[.agg #[aA,aB,.slice p' n cap',a,b,aE,aF,aC,aG,.slice q' (m+1) c2'],c,.bool true])∧w'.ownsRow w TI 1 (.slice p' n cap') n (ivs ys)∧w'.ownsRow w TV 4 (.slice q' (m+1) c2') (m+1) (ap.flatMap aD)∧Ext w w':=by
 go_enter func26,ntmps26;go_wp2_with fail;refine Z (ak _ ((((Mem.start w).c0 aL #[aA,aB,.slice p n g,a,b,aE,aF,aC,aG,.slice q m c2]).c1 THD #[(),l,aj]).c2 aL zT).ext) fun w1 ao=>?_
 have M1:=(((((Mem.start w).c0 aL #[aA,aB,.slice p n g,a,b,aE,aF,aC,aG,.slice q m c2]).c1 THD #[(),l,aj]).c2 aL zT).adv ao)
 clear ao ak;obtain⟨s,t,u,x,y,z,aa,j,ab,k⟩:=(M1.bk 2).ten;go_wp2_with fail;clear s t u x y z aa j ab k;refine(HL _ M1.ext).mono ?_;rintro e w2 ⟨p1,al,q1,am,rfl,ho,hq,hx⟩;have M2:=(M1.own2 hx ho hq (aK1 _) (by decide))
 clear M1 hx ho hq;have ae:=M2.hi 3;have af:=M2.hi 4;obtain⟨s,t,u,x,y,z,aa,j,ab,k⟩:=(M2.bk 4).ten;obtain⟨aq,ad,ar⟩:=(M2.bk 3).tri;go_wp2_with fail;clear s t u x y z aa j ab k aq ad ar;refine(HP _ (M2.c0 aL #[aA,aB,.slice p1 n al,a,b,aE,aF,aC,aG,.slice q1 m am]).ext).mono ?_;rintro e w3 ⟨p5,h,rfl,ho,hx⟩;have M3:=((M2.c0 aL #[aA,aB,.slice p1 n al,a,b,aE,aF,aC,aG,.slice q1 m am]).call hx ho)
 clear M2 ae af hx ho HP HL;have ag:=M3.hi 1;have ah:=M3.hi 5;have ai:=M3.hi 6;have d0:=(M3.bk 1).cl 0;have au:=(M3.bk 1).frozen 0;have d1:=(M3.bk 1).cl 1;have av:=(M3.bk 1).frozen 1;have d2:=(M3.bk 1).cl 2;have aw:=(M3.bk 1).frozen 2;have j:=(M3.bk 6).cl 7;have k:=(M3.bk 6).cl 9;have ad:=(M3.bk 5).cl 1;obtain⟨d,f⟩:=M3.nq 5 6;obtain⟨o,r⟩:=M3.nq 1 5;have hd:decide (c<0)=false:=by simp;omega
 have M4:=(((M3.st 1 0 (I aA)).st 1 1 (I aB)).st 1 2 (.slice p5 n h))
 go_wp2_with fail;clear d0 au d1 av d2 aw j k ad d f o r;refine(HQ _ (M4.adv ((Ext.refl _).alloc (.cells #[aA,aB,.slice p5 n h] TH3))).ext).mono ?_;rintro e w4 ⟨q7,c7,rfl,ho,hx⟩;have M5:=((M4.adv ((Ext.refl _).alloc (.cells #[aA,aB,.slice p5 n h] TH3))).call hx ho)
 clear M3 ag ah ai hx ho HQ;obtain⟨e0,ax,e1,ay,e2,az,e3,a0,e4,a1,e5,a2,e6,a3,e7,a4,e8,a5,e9,a6⟩:=(M5.bk 2).tenf;obtain⟨f0,a7,f1,a8,f2,a9,f3,ba,f4,bb,f5,bc,f6,bd,f7,be,f8,bf,f9,bg⟩:=(M5.bk 5).tenf;obtain⟨d,f⟩:=M5.nq 2 5;have M6:=(M5.st 2 9 (.slice q7 (m+1) c7))
 go_wp2;clear e0 ax e1 ay e2 az e3 a0 e4 a1 e5 a2 e6 a3 e7 a4 e8 a5 e9 a6 f0 a7 f1 a8 f2 a9 f3 ba f4 bb f5 bc f6 bd f7 be f8 bf f9 bg d f;have M7:=(M6.put10 (i:=5) rfl (I aA) (I aB) (.slice p5 n h) (I a) (I b) (I aE) (I aF) (I aC) (I aG) (.slice q7 (m+1) c7))
 generalize an:World.setCell _ _ _=wz;rw[an]at M7;clear an M5 M4 M6;obtain⟨y0,y1,y2,y3,y4,y5,y6,y7,y8,y9⟩:=(M7.bk 5).ten;exact bodyPost_ret (v:= .tuple #[.agg #[aA,aB,.slice p5 n h,a,b,aE,aF,aC,aG,.slice q7 (m+1) c7],c,.bool true]) (by simp[results,results26,go_sem, *]) rfl ⟨p5,h,q7,c7,rfl,(M7.ow 1),(M7.ow 0),M7.ext⟩
theorem rS (aA aB a b aE aF aC aG c u ad:Int)(p:OA)(n d:Nat)(q:OA)(m c2:Nat)(xs ys:List Int)(vs:List aS)(w:World)(h0:c<0)
  (ae:xB 10 #[.agg #[aA,aB,.slice p n d,a,b,aE,aF,aC,aG,.slice q m c2]] w true)
  (HL:xC 25 #[.agg #[aA,aB,.slice p n d,a,b,aE,aF,aC,aG,.slice q m c2]] w fun w' e w''=> ∃p' cap' q' c2',e= .returned (.agg #[aA,aB,.slice p' n cap',a,b,aE,aF,aC,aG,.slice q' m c2'])∧w''.ownsRow w' TI 1 (.slice p' n cap') n (ivs xs)∧w''.ownsRow w' TV 4 (.slice q' m c2') m (vs.flatMap aD)∧Ext w' w'')
  (HP:xC 55 #[aH aA aB p n d,u] w fun w' e w''=> ∃p' cap',e= .returned (.tuple #[aH aA aB p' n cap',c])∧w''.ownsRow w' TI 1 (.slice p' n cap') n (ivs ys)∧Ext w' w''):
  U 26 #[.agg #[aA,aB,.slice p n d,a,b,aE,aF,aC,aG,.slice q m c2],.agg #[(),u,ad]] w fun e w'=> ∃p' cap' q' c2',e= .returned (.tuple #[.agg #[aA,aB,.slice p' n cap',a,b,aE,aF,aC,aG,.slice q' m c2'],(-1:Int),.bool false])∧w'.ownsRow w TI 1 (.slice p' n cap') n (ivs xs)∧w'.ownsRow w TV 4 (.slice q' m c2') m (vs.flatMap aD)∧Ext w w':=by
 go_enter func26,ntmps26;go_wp2_with fail;refine Z (ae _ ((((Mem.start w).c0 aL #[aA,aB,.slice p n d,a,b,aE,aF,aC,aG,.slice q m c2]).c1 THD #[(),u,ad]).c2 aL zT).ext) fun w1 aj=>?_
 have M1:=(((((Mem.start w).c0 aL #[aA,aB,.slice p n d,a,b,aE,aF,aC,aG,.slice q m c2]).c1 THD #[(),u,ad]).c2 aL zT).adv aj)
 clear aj ae;obtain⟨f,g,h,j,k,l,o,r,s,t⟩:=(M1.bk 2).ten;go_wp2_with fail;clear f g h j k l o r s t;refine(HL _ M1.ext).mono ?_;rintro e w2 ⟨p1,af,q1,ah,rfl,ho,hq,hx⟩;have M2:=(M1.own2 hx ho hq (aK1 _) (by decide))
 clear M1 hx ho hq;have z:=M2.hi 3;have aa:=M2.hi 4;obtain⟨f,g,h,j,k,l,o,r,s,t⟩:=(M2.bk 4).ten;obtain⟨ak,al,am⟩:=(M2.bk 3).tri;go_wp2_with fail;clear f g h j k l o r s t ak al am;refine(HP _ (M2.c0 aL #[aA,aB,.slice p1 n af,a,b,aE,aF,aC,aG,.slice q1 m ah]).ext).mono ?_;rintro e w3 ⟨p5,ag,rfl,ho,hx⟩;have M3:=((M2.c0 aL #[aA,aB,.slice p1 n af,a,b,aE,aF,aC,aG,.slice q1 m ah]).call hx ho)
 clear M2 z aa hx ho HP;have ab:=M3.hi 6;have az:decide (0≤c)=false:=by simp;omega
 obtain⟨f,g,h,j,k,l,o,r,s,t⟩:=(M3.bk 6).ten;go_wp2_with fail;clear f g h j k l o r s t;refine(HL _ (M3.c0 TH3 #[aA,aB,.slice p5 n ag]).ext).mono ?_;rintro e w9 ⟨p9,x,q9,y,rfl,ho,hq,hx⟩;have M4:=((M3.c0 TH3 #[aA,aB,.slice p5 n ag]).own2 hx ho hq (aK1 _) (by decide))
 clear M3 ab hx ho hq HL;obtain⟨f0,an,f1,ao,f2,ap,f3,aq,f4,ar,f5,au,f6,av,f7,aw,f8,ax,f9,ay⟩:=(M4.bk 7).tenf;go_wp2;clear f0 an f1 ao f2 ap f3 aq f4 ar f5 au f6 av f7 aw f8 ax f9 ay;have M5:=(M4.put10 (i:=7) rfl (I aA) (I aB) (.slice p9 n x) (I a) (I b) (I aE) (I aF) (I aC) (I aG) (.slice q9 m y))
 generalize ai:World.setCell _ _ _=wz;rw[ai]at M5;clear ai M4;obtain⟨y0,y1,y2,y3,y4,y5,y6,y7,y8,y9⟩:=(M5.bk 7).ten;exact bodyPost_ret (v:= .tuple #[.agg #[aA,aB,.slice p9 n x,a,b,aE,aF,aC,aG,.slice q9 m y],(-1:Int),.bool false]) (by simp[results,results26,go_sem, *]) rfl ⟨p9,x,q9,y,rfl,(M5.ow 0),(M5.ow 1),M5.ext⟩
theorem rU (aA aB a b aE aF aC aG s ix y au:Int)(p:OA)(n t:Nat)(q:OA)(m c2:Nat)(xs ys:List Int)(vs:List aS)(w:World)(mb:Bool)(a2:mb=true→s<0)
  (av:xB 10 #[.agg #[aA,aB,.slice p n t,a,b,aE,aF,aC,aG,.slice q m c2]] w true)
  (HL:xC 25 #[.agg #[aA,aB,.slice p n t,a,b,aE,aF,aC,aG,.slice q m c2]] w fun w' e w''=> ∃p' cap' q' c2',e= .returned (.agg #[aA,aB,.slice p' n cap',a,b,aE,aF,aC,aG,.slice q' m c2'])∧w''.ownsRow w' TI 1 (.slice p' n cap') n (ivs xs)∧w''.ownsRow w' TV 4 (.slice q' m c2') m (vs.flatMap aD)∧Ext w' w'')
  (HP:xC 58 #[aH aA aB p n t,y] w fun w' e w''=> ∃p' cap',e= .returned (.tuple #[aH aA aB p' n cap',s])∧w''.ownsRow w' TI 1 (.slice p' n cap') n (ivs ys)∧Ext w' w'')
  (HF:xC 59 #[.agg #[aA,aB,.slice p n t,a,b,aE,aF,aC,aG,.slice q m c2],y] w fun w' e w''=>e= .returned (I (ix))∧Ext w' w'')
  (HM:xB 60 #[.agg #[aA,aB,.slice p n t,a,b,aE,aF,aC,aG,.slice q m c2],y] w mb):
  U 26 #[.agg #[aA,aB,.slice p n t,a,b,aE,aF,aC,aG,.slice q m c2],.agg #[I 2,y,au]] w fun e w'=> ∃p' cap' q' c2',e= .returned (.tuple #[.agg #[aA,aB,.slice p' n cap',a,b,aE,aF,aC,aG,.slice q' m c2'],(-1:Int),.bool false])∧w'.ownsRow w TI 1 (.slice p' n cap') n (ivs xs)∧w'.ownsRow w TV 4 (.slice q' m c2') m (vs.flatMap aD)∧Ext w w':=by
 go_enter func26,ntmps26;go_wp2_with fail;refine Z (av _ ((((Mem.start w).c0 aL #[aA,aB,.slice p n t,a,b,aE,aF,aC,aG,.slice q m c2]).c1 THD #[I 2,y,au]).c2 aL zT).ext) fun w1 az=>?_
 have M1:=(((((Mem.start w).c0 aL #[aA,aB,.slice p n t,a,b,aE,aF,aC,aG,.slice q m c2]).c1 THD #[I 2,y,au]).c2 aL zT).adv az)
 clear az av;obtain⟨c,d,f,g,h,j,k,l,o,r⟩:=(M1.bk 2).ten;go_wp2_with fail;clear c d f g h j k l o r;refine(HL _ M1.ext).mono ?_;rintro e w2 ⟨p1,aw,q1,ay,rfl,ho,hq,hx⟩;have M2:=(M1.own2 hx ho hq (aK1 _) (by decide))
 clear M1 hx ho hq;have ao:=M2.hi 3;have ap:=M2.hi 4;obtain⟨c,d,f,g,h,j,k,l,o,r⟩:=(M2.bk 4).ten;obtain⟨z,aa,ab⟩:=(M2.bk 3).tri;go_wp2_with fail;clear c d f g h j k l o r z aa ab;refine(HP _ (M2.c0 aL #[aA,aB,.slice p1 n aw,a,b,aE,aF,aC,aG,.slice q1 m ay]).ext).mono ?_;rintro e w3 ⟨p5,ax,rfl,ho,hx⟩;have M3:=((M2.c0 aL #[aA,aB,.slice p1 n aw,a,b,aE,aF,aC,aG,.slice q1 m ay]).call hx ho)
 clear M2 ao ap hx ho HP;have aq:=M3.hi 5;have ar:=M3.hi 6;obtain⟨c,d,f,g,h,j,k,l,o,r⟩:=(M3.bk 6).ten;obtain⟨z,aa,ab⟩:=(M3.bk 5).tri;go_wp2_with fail;clear c d f g h j k l o r z aa ab;refine Z (HF _ (M3.c0 TH3 #[aA,aB,.slice p5 n ax]).ext) fun w4 a0=>?_
 have M4:=((M3.c0 TH3 #[aA,aB,.slice p5 n ax]).adv a0)
 clear M3 aq ar a0 HF;obtain⟨c,d,f,g,h,j,k,l,o,r⟩:=(M4.bk 7).ten;obtain⟨z,aa,ab⟩:=(M4.bk 6).tri;go_wp2_with fail;clear c d f g h j k l o r z aa ab;refine Z (HM _ M4.ext) fun w5 a1=>?_
 have M5:=(M4.adv a1)
 clear M4 a1 HM;cases mb with
 |true=>
   have a3:decide (0≤s)=false:=by simp;have:=a2 rfl;omega
   obtain⟨c,d,f,g,h,j,k,l,o,r⟩:=(M5.bk 7).ten;go_wp2_with fail;clear c d f g h j k l o r;refine(HL _ M5.ext).mono ?_;rintro e w9 ⟨p9,u,q9,x,rfl,ho,hq,hx⟩;have M6:=(M5.own2 hx ho hq (aK1 _) (by decide))
   clear M5 hx ho hq HL;obtain⟨f0,ae,f1,af,f2,ag,f3,ah,f4,ai,f5,aj,f6,ak,f7,al,f8,am,f9,an⟩:=(M6.bk 7).tenf;go_wp2;clear f0 ae f1 af f2 ag f3 ah f4 ai f5 aj f6 ak f7 al f8 am f9 an;have M7:=(M6.put10 (i:=7) rfl (I aA) (I aB) (.slice p9 n u) (I a) (I b) (I aE) (I aF) (I aC) (I aG) (.slice q9 m x))
   generalize ad:World.setCell _ _ _=wz;rw[ad]at M7;clear ad M6;obtain⟨y0,y1,y2,y3,y4,y5,y6,y7,y8,y9⟩:=(M7.bk 7).ten;exact bodyPost_ret (v:= .tuple #[.agg #[aA,aB,.slice p9 n u,a,b,aE,aF,aC,aG,.slice q9 m x],(-1:Int),.bool false]) (by simp[results,results26,go_sem, *]) rfl ⟨p9,u,q9,x,rfl,(M7.ow 0),(M7.ow 1),M7.ext⟩
 |false=>
   obtain⟨c,d,f,g,h,j,k,l,o,r⟩:=(M5.bk 7).ten;go_wp2_with fail;clear c d f g h j k l o r;refine(HL _ M5.ext).mono ?_;rintro e w9 ⟨p9,u,q9,x,rfl,ho,hq,hx⟩;have M6:=(M5.own2 hx ho hq (aK1 _) (by decide))
   clear M5 hx ho hq HL;obtain⟨f0,ae,f1,af,f2,ag,f3,ah,f4,ai,f5,aj,f6,ak,f7,al,f8,am,f9,an⟩:=(M6.bk 7).tenf;go_wp2;clear f0 ae f1 af f2 ag f3 ah f4 ai f5 aj f6 ak f7 al f8 am f9 an;have M7:=(M6.put10 (i:=7) rfl (I aA) (I aB) (.slice p9 n u) (I a) (I b) (I aE) (I aF) (I aC) (I aG) (.slice q9 m x))
   generalize ad:World.setCell _ _ _=wz;rw[ad]at M7;clear ad M6;obtain⟨y0,y1,y2,y3,y4,y5,y6,y7,y8,y9⟩:=(M7.bk 7).ten;exact bodyPost_ret (v:= .tuple #[.agg #[aA,aB,.slice p9 n u,a,b,aE,aF,aC,aG,.slice q9 m x],(-1:Int),.bool false]) (by simp[results,results26,go_sem, *]) rfl ⟨p9,u,q9,x,rfl,(M7.ow 0),(M7.ow 1),M7.ext⟩
theorem yM {w:World}{b c n a k:Nat}{vs:List aS}(h:Sl w (some ⟨b,c,none⟩) n a 4 (vs.flatMap aD))(hk:k≤n):Sl w (some ⟨b,c,none⟩) k a 4 ((vs.take k).flatMap aD):=by
 have hl:=h.len;have f:=h.le;have g:=h.mx;have e:(vs.take k).flatMap aD=(vs.flatMap aD).take (k*4):=by
  have h1:vs.flatMap aD=(vs.take k).flatMap aD++(vs.drop k).flatMap aD:=by rw[←aL1,List.take_append_drop]
  have h2:vs.length=n:=by rw[cR aD 4 (fun _=>rfl)]at hl;omega
  have h3:((vs.take k).flatMap aD).length=k*4:=by rw[cR aD 4 (fun _=>rfl),aKs];omega
  rw[h1,←h3,List.take_left]
 rw[e];refine⟨by rw[aKs,hl];omega,by omega,by omega,fun h0=> ?_⟩;obtain⟨b',d,e,hb,hc⟩:=h.rd (by omega);injection e with e;injection e with e1 e2;subst e1 e2;refine⟨_,_,rfl,hb,fun j hj=> ?_⟩;rw[hc j (by omega),List.getElem?_take,if_pos hj]
theorem qE (aA aB a c aE aF aC aG f j ad:Int)(p:OA)(n g:Nat)(b h m c2 k:Nat)(xs ys:List Int)(vs:List aS)(w:World)(h0:0≤f)(hk:k<m)(hm:m≤1000)(bp:k+1<c2)(HS:Hid (Sl w (some ⟨b,h,none⟩) m c2 4 (vs.flatMap aD)))
  (az:xB 10 #[.agg #[aA,aB,.slice p n g,a,c,aE,aF,aC,aG,.slice (some ⟨b,h,none⟩) m c2]] w true)
  (HL:xC 25 #[.agg #[aA,aB,.slice p n g,a,c,aE,aF,aC,aG,.slice (some ⟨b,h,none⟩) m c2]] w fun w' e w''=> ∃p' cap' q' c2',e= .returned (.agg #[aA,aB,.slice p' n cap',a,c,aE,aF,aC,aG,.slice q' m c2'])∧w''.ownsRow w' TI 1 (.slice p' n cap') n (ivs xs)∧w''.ownsRow w' TV 4 (.slice q' m c2') m (vs.flatMap aD)∧Ext w' w'')
  (HP:xC 58 #[aH aA aB p n g,j] w fun w' e w''=> ∃p' cap',e= .returned (.tuple #[aH aA aB p' n cap',f])∧w''.ownsRow w' TI 1 (.slice p' n cap') n (ivs ys)∧Ext w' w'')
  (HF:xC 59 #[.agg #[aA,aB,.slice p n g,a,c,aE,aF,aC,aG,.slice (some ⟨b,h,none⟩) m c2],j] w fun w' e w''=>e= .returned (I k)∧Ext w' w'')
  (HM:xB 60 #[.agg #[aA,aB,.slice p n g,a,c,aE,aF,aC,aG,.slice (some ⟨b,h,none⟩) m c2],j] w true):
  U 26 #[.agg #[aA,aB,.slice p n g,a,c,aE,aF,aC,aG,.slice (some ⟨b,h,none⟩) m c2],.agg #[I 2,j,ad]] w fun e w'=> ∃p' cap' q' c2',e= .returned (.tuple #[.agg #[aA,aB,.slice p' n cap',a,c,aE,aF,aC,aG,.slice q' (m-1) c2'],f,.bool true])∧w'.ownsRow w TI 1 (.slice p' n cap') n (ivs ys)∧w'.ownsRow w TV 4 (.slice q' (m-1) c2') (m-1) ((vs.take k++vs.drop (k+1)).flatMap aD)∧Ext w w':=by
 go_enter func26,ntmps26;go_wp2_with fail;refine Z (az _ ((((Mem.start w).c0 aL #[aA,aB,.slice p n g,a,c,aE,aF,aC,aG,.slice (some ⟨b,h,none⟩) m c2]).c1 THD #[I 2,j,ad]).c2 aL zT).ext) fun w1 a2=>?_
 have M1:=(((((Mem.start w).c0 aL #[aA,aB,.slice p n g,a,c,aE,aF,aC,aG,.slice (some ⟨b,h,none⟩) m c2]).c1 THD #[I 2,j,ad]).c2 aL zT).adv a2)
 clear a2 az;obtain⟨q,r,s,t,u,x,y,z,aa,l⟩:=(M1.bk 2).ten;go_wp2_with fail;clear q r s t u x y z aa l;refine(HL _ M1.ext).mono ?_;rintro e w2 ⟨p1,ae,q1,o,rfl,ho,hq,hx⟩;have M2:=(M1.own2 hx ho hq (aK1 _) (by decide))
 clear M1 hx ho hq;have av:=M2.hi 3;have aw:=M2.hi 4;obtain⟨q,r,s,t,u,x,y,z,aa,l⟩:=(M2.bk 4).ten;obtain⟨af,ag,ah⟩:=(M2.bk 3).tri;go_wp2_with fail;clear q r s t u x y z aa l af ag ah;refine(HP _ (M2.c0 aL #[aA,aB,.slice p1 n ae,a,c,aE,aF,aC,aG,.slice q1 m o]).ext).mono ?_;rintro e w3 ⟨p5,d,rfl,ho,hx⟩;have M3:=((M2.c0 aL #[aA,aB,.slice p1 n ae,a,c,aE,aF,aC,aG,.slice q1 m o]).call hx ho)
 clear M2 av aw hx ho HP;have ax:=M3.hi 5;have ay:=M3.hi 6;obtain⟨q,r,s,t,u,x,y,z,aa,l⟩:=(M3.bk 6).ten;obtain⟨af,ag,ah⟩:=(M3.bk 5).tri;go_wp2_with fail;clear q r s t u x y z aa l af ag ah;refine Z (HF _ (M3.c0 TH3 #[aA,aB,.slice p5 n d]).ext) fun w4 a3=>?_
 have M4:=((M3.c0 TH3 #[aA,aB,.slice p5 n d]).adv a3)
 clear M3 ax ay a3 HF;obtain⟨q,r,s,t,u,x,y,z,aa,l⟩:=(M4.bk 7).ten;obtain⟨af,ag,ah⟩:=(M4.bk 6).tri;go_wp2_with fail;clear q r s t u x y z aa l af ag ah;refine Z (HM _ M4.ext) fun w5 a4=>?_
 have M5:=(M4.adv a4)
 clear M4 a4 HM;have hd:decide (f<0)=false:=by simp;omega
 clear HL;obtain⟨d0,aj,d1,ak,d2,al,d3,am,d4,an,d5,ao,d6,ap,d7,aq,d8,ar,d9,au⟩:=(M5.bk 2).tenf;obtain⟨bh,bi,bj⟩:=(M5.bk 0).tri;go_upto_region 22 with fail;clear d0 aj d1 ak d2 al d3 am d4 an d5 ao d6 ap d7 aq d8 ar d9 au bh bi bj;have M6:=(((M5.st 2 0 (I aA)).st 2 1 (I aB)).st 2 2 (.slice p5 n d))
 generalize ai:World.setCell _ _ _=w6;rw[ai]at M6;clear ai M5;have ab:=M6.hi 7;have l:=(M6.bk 7).cl 9;obtain⟨d0,aj,d1,ak,d2,al,d3,am,d4,an,d5,ao,d6,ap,d7,aq,d8,ar,d9,au⟩:=(M6.bk 2).tenf;have i1:(0:Int)≤(k:Int):=by omega
 have i3:(k:Int)≤(c2:Int):=by omega
 have i4:(k:Int)+1≤(m:Int):=by omega
 have i5:(0:Int)≤(k:Int)+1:=by omega
 have i6:((k:Int)+1).toNat=k+1:=by omega
 have i7:IntKind.i64.wrap ((k:Int)+1)=(k:Int)+1:=aK3 _ (by omega);have bg: ¬c2=k+1:=by omega
 have bf: ¬c2=0:=by omega
 go_cut [] (fun wx=> ∃(q9:OA) (c9:Nat),Mem w wx [aJ w TV 4 (q9) (m-1) (c9) ((vs.take k++vs.drop (k+1)).flatMap aD),aI w w3 TH3 #[aA,aB,.slice p5 n d],aJ w TI 1 (p5) (n) (d) (ivs ys),aI w w2 aL #[aA,aB,.slice p5 n d,a,c,aE,aF,aC,aG,.slice q9 (m-1) c9],aJ w TI 1 (p1) (n) (ae) (ivs xs),aJ w TV 4 (q1) (m) (o) (vs.flatMap aD),aI w (w.heap.size+1+1) aL #[(),(),((),()),(),(),(),(),(),(),((),())],aI w (w.heap.size+1) THD #[I 2,j,ad],aI w w aL #[aA,aB,.slice p n g,a,c,aE,aF,aC,aG,.slice (some ⟨b,h,none⟩) m c2]])
 case first=>
  go_region_law ((first
   |(refine fS qR (by rfl) _ _ (by rfl) (by first|exact M6.made0 TV 4 w6 (by simp)|exact(M6.made0 TV 4 w6 (by simp)).adv (by exact .drew (.refl _))|exact(M6.adv xE).made0 TV 4 w6 (by simp)) 0 (by rfl) (by rfl) ((vs.take k).flatMap aD) (by rfl) (yM (HS.out.ext (M6.ext.trans (by exact .drew (.alloc (.refl _) _)))) (by omega)) (dZ _) (by omega) ?_
     intro q7 c7 w7 a0;have M7:=(show Mem w w7 [aJ w TV 4 (q7) (k) (c7) ((vs.take k).flatMap aD),aI w w3 TH3 #[aA,aB,.slice p5 n d],aJ w TI 1 (p5) (n) (d) (ivs ys),aI w w2 aL #[aA,aB,.slice p5 n d,a,c,aE,aF,aC,aG,.slice q1 m o],aJ w TI 1 (p1) (n) (ae) (ivs xs),aJ w TV 4 (q1) (m) (o) (vs.flatMap aD),aI w (w.heap.size+1+1) aL #[(),(),((),()),(),(),(),(),(),(),((),())],aI w (w.heap.size+1) THD #[I 2,j,ad],aI w w aL #[aA,aB,.slice p n g,a,c,aE,aF,aC,aG,.slice (some ⟨b,h,none⟩) m c2]]from by simpa only[aKf,aL4,aLx]using a0)
     clear a0;have bm:=(M7.bk 8).cl 9
     have bo:(w2:Nat)<w7:=(M7.hi 3))
   |(refine fS qR (by rfl) _ _ (by rfl) (M7.adv (by exact .refl _)) 0 (by rfl) (by rfl) ((vs.drop (k+1)).flatMap aD) (by rfl) (jG (k+1) vs▸sS (HS.out.ext (M7.ext.trans (by exact .refl _))) (by omega)) (dZ _) (by omega) ?_
     intro q9 c9 w9 a1;have M9:=(show Mem w w9 [aJ w TV 4 (q9) (k+(m-(k+1))) (c9) ((vs.take k).flatMap aD++(vs.drop (k+1)).flatMap aD),aI w w3 TH3 #[aA,aB,.slice p5 n d],aJ w TI 1 (p5) (n) (d) (ivs ys),aI w w2 aL #[aA,aB,.slice p5 n d,a,c,aE,aF,aC,aG,.slice q1 m o],aJ w TI 1 (p1) (n) (ae) (ivs xs),aJ w TV 4 (q1) (m) (o) (vs.flatMap aD),aI w (w.heap.size+1+1) aL #[(),(),((),()),(),(),(),(),(),(),((),())],aI w (w.heap.size+1) THD #[I 2,j,ad],aI w w aL #[aA,aB,.slice p n g,a,c,aE,aF,aC,aG,.slice (some ⟨b,h,none⟩) m c2]]from a1)
     clear a1;have bq:=(M9.bk 3).cl 9;have bl:=(M9.bk 3).frozen 9
     have br:(w2:Nat)<w9:=(M9.hi 3))))
  all_goals (
   have e1:k+(m-(k+1))=m-1:=by omega
   have e2:(vs.take k).flatMap aD++(vs.drop (k+1)).flatMap aD=(vs.take k++vs.drop (k+1)).flatMap aD:=by simp
   have MZ:=(show Mem w w9 [aJ w TV 4 (q9) (m-1) (c9) ((vs.take k++vs.drop (k+1)).flatMap aD),aI w w3 TH3 #[aA,aB,.slice p5 n d],aJ w TI 1 (p5) (n) (d) (ivs ys),aI w w2 aL #[aA,aB,.slice p5 n d,a,c,aE,aF,aC,aG,.slice q1 m o],aJ w TI 1 (p1) (n) (ae) (ivs xs),aJ w TV 4 (q1) (m) (o) (vs.flatMap aD),aI w (w.heap.size+1+1) aL #[(),(),((),()),(),(),(),(),(),(),((),())],aI w (w.heap.size+1) THD #[I 2,j,ad],aI w w aL #[aA,aB,.slice p n g,a,c,aE,aF,aC,aG,.slice (some ⟨b,h,none⟩) m c2]]from by have:=M9;rw[e2]at this;simpa only[e1]using this)
   clear e2 M9 M7)
  all_goals go_wp2_with fail
  all_goals go_meet
  all_goals exact⟨q9,c9,by first|exact(MZ.store (i:=3) rfl 9 (.slice q9 (m-1) c9))|(simp only[e1];exact(MZ.store (i:=3) rfl 9 (.slice q9 (m-1) c9)))⟩
 case rest=>
  obtain⟨q9,c9,MC⟩:=hcut;have MC:=xQ MC;clear M6 i1 i3 i4 i5 i6 i7 bg bf l d0 aj d1 ak d2 al d3 am d4 an d5 ao d6 ap d7 aq d8 ar d9 au ab;have ab:w.heap.size+1<wc.heap.size:=(MC.out.hi 7)
  obtain⟨e0,e1,e2,e3,e4,e5,e6,e7,e8,e9⟩:=(MC.out.bk 3).ten;obtain⟨f0,a5,f1,a6,f2,a7,f3,a8,f4,a9,f5,ba,f6,bb,f7,bc,f8,bd,f9,be⟩:=(MC.out.bk 6).tenf;go_upto_region 33 with fail;go_wp2;clear e0 e1 e2 e3 e4 e5 e6 e7 e8 e9 f0 a5 f1 a6 f2 a7 f3 a8 f4 a9 f5 ba f6 bb f7 bc f8 bd f9 be ab;have M7:=(MC.out.put10 (i:=6) rfl (I aA) (I aB) (.slice p5 n d) (I a) (I c) (I aE) (I aF) (I aC) (I aG) (.slice q9 (m-1) c9))
  generalize ai:World.setCell _ _ _=wz;rw[ai]at M7;clear ai MC;obtain⟨y0,y1,y2,y3,y4,y5,y6,y7,y8,y9⟩:=(M7.bk 6).ten;exact bodyPost_ret (v:= .tuple #[.agg #[aA,aB,.slice p5 n d,a,c,aE,aF,aC,aG,.slice q9 (m-1) c9],f,.bool true]) (by simp[results,results26,go_sem, *]) rfl ⟨p5,d,q9,c9,rfl,(M7.ow 2),(M7.ow 0),M7.ext⟩
theorem oX (aA aB a c aE aF aC aG f l ad:Int)(p:OA)(n g:Nat)(b j k:Nat)(xs ys:List Int)(vs:List aS)(w:World)(h0:0≤f)(hm:(k+1)≤1000)(bf:Hid (vs.drop (k+1)= []))(HS:Hid (Sl w (some ⟨b,j,none⟩) (k+1) (k+1) 4 (vs.flatMap aD)))
  (az:xB 10 #[.agg #[aA,aB,.slice p n g,a,c,aE,aF,aC,aG,.slice (some ⟨b,j,none⟩) (k+1) (k+1)]] w true)
  (HL:xC 25 #[.agg #[aA,aB,.slice p n g,a,c,aE,aF,aC,aG,.slice (some ⟨b,j,none⟩) (k+1) (k+1)]] w fun w' e w''=> ∃p' cap' q' c2',e= .returned (.agg #[aA,aB,.slice p' n cap',a,c,aE,aF,aC,aG,.slice q' (k+1) c2'])∧w''.ownsRow w' TI 1 (.slice p' n cap') n (ivs xs)∧w''.ownsRow w' TV 4 (.slice q' (k+1) c2') (k+1) (vs.flatMap aD)∧Ext w' w'')
  (HP:xC 58 #[aH aA aB p n g,l] w fun w' e w''=> ∃p' cap',e= .returned (.tuple #[aH aA aB p' n cap',f])∧w''.ownsRow w' TI 1 (.slice p' n cap') n (ivs ys)∧Ext w' w'')
  (HF:xC 59 #[.agg #[aA,aB,.slice p n g,a,c,aE,aF,aC,aG,.slice (some ⟨b,j,none⟩) (k+1) (k+1)],l] w fun w' e w''=>e= .returned (I k)∧Ext w' w'')
  (HM:xB 60 #[.agg #[aA,aB,.slice p n g,a,c,aE,aF,aC,aG,.slice (some ⟨b,j,none⟩) (k+1) (k+1)],l] w true):
  U 26 #[.agg #[aA,aB,.slice p n g,a,c,aE,aF,aC,aG,.slice (some ⟨b,j,none⟩) (k+1) (k+1)],.agg #[I 2,l,ad]] w fun e w'=> ∃p' cap' q' c2',e= .returned (.tuple #[.agg #[aA,aB,.slice p' n cap',a,c,aE,aF,aC,aG,.slice q' (k) c2'],f,.bool true])∧w'.ownsRow w TI 1 (.slice p' n cap') n (ivs ys)∧w'.ownsRow w TV 4 (.slice q' (k) c2') (k) ((vs.take k++vs.drop (k+1)).flatMap aD)∧Ext w w':=by
 go_enter func26,ntmps26;go_wp2_with fail;refine Z (az _ ((((Mem.start w).c0 aL #[aA,aB,.slice p n g,a,c,aE,aF,aC,aG,.slice (some ⟨b,j,none⟩) (k+1) (k+1)]).c1 THD #[I 2,l,ad]).c2 aL zT).ext) fun w1 a2=>?_
 have M1:=(((((Mem.start w).c0 aL #[aA,aB,.slice p n g,a,c,aE,aF,aC,aG,.slice (some ⟨b,j,none⟩) (k+1) (k+1)]).c1 THD #[I 2,l,ad]).c2 aL zT).adv a2)
 clear a2 az;obtain⟨q,r,s,t,u,x,y,z,aa,m⟩:=(M1.bk 2).ten;go_wp2_with fail;clear q r s t u x y z aa m;refine(HL _ M1.ext).mono ?_;rintro e w2 ⟨p1,ae,q1,o,rfl,ho,hq,hx⟩;have M2:=(M1.own2 hx ho hq (aK1 _) (by decide))
 clear M1 hx ho hq;have av:=M2.hi 3;have aw:=M2.hi 4;obtain⟨q,r,s,t,u,x,y,z,aa,m⟩:=(M2.bk 4).ten;obtain⟨af,ag,ah⟩:=(M2.bk 3).tri;go_wp2_with fail;clear q r s t u x y z aa m af ag ah;refine(HP _ (M2.c0 aL #[aA,aB,.slice p1 n ae,a,c,aE,aF,aC,aG,.slice q1 (k+1) o]).ext).mono ?_;rintro e w3 ⟨p5,d,rfl,ho,hx⟩;have M3:=((M2.c0 aL #[aA,aB,.slice p1 n ae,a,c,aE,aF,aC,aG,.slice q1 (k+1) o]).call hx ho)
 clear M2 av aw hx ho HP;have ax:=M3.hi 5;have ay:=M3.hi 6;obtain⟨q,r,s,t,u,x,y,z,aa,m⟩:=(M3.bk 6).ten;obtain⟨af,ag,ah⟩:=(M3.bk 5).tri;go_wp2_with fail;clear q r s t u x y z aa m af ag ah;refine Z (HF _ (M3.c0 TH3 #[aA,aB,.slice p5 n d]).ext) fun w4 a3=>?_
 have M4:=((M3.c0 TH3 #[aA,aB,.slice p5 n d]).adv a3)
 clear M3 ax ay a3 HF;obtain⟨q,r,s,t,u,x,y,z,aa,m⟩:=(M4.bk 7).ten;obtain⟨af,ag,ah⟩:=(M4.bk 6).tri;go_wp2_with fail;clear q r s t u x y z aa m af ag ah;refine Z (HM _ M4.ext) fun w5 a4=>?_
 have M5:=(M4.adv a4)
 clear M4 a4 HM;have hd:decide (f<0)=false:=by simp;omega
 clear HL;obtain⟨d0,aj,d1,ak,d2,al,d3,am,d4,an,d5,ao,d6,ap,d7,aq,d8,ar,d9,au⟩:=(M5.bk 2).tenf;obtain⟨bg,bh,bi⟩:=(M5.bk 0).tri;go_upto_region 22 with fail;clear d0 aj d1 ak d2 al d3 am d4 an d5 ao d6 ap d7 aq d8 ar d9 au bg bh bi;have M6:=(((M5.st 2 0 (I aA)).st 2 1 (I aB)).st 2 2 (.slice p5 n d))
 generalize ai:World.setCell _ _ _=w6;rw[ai]at M6;clear ai M5;have ab:=M6.hi 7;have m:=(M6.bk 7).cl 9;obtain⟨d0,aj,d1,ak,d2,al,d3,am,d4,an,d5,ao,d6,ap,d7,aq,d8,ar,d9,au⟩:=(M6.bk 2).tenf;have i1:(0:Int)≤(k:Int):=by omega
 have i2:(k:Int)≤((k+1):Int):=by omega
 have i5:(0:Int)≤(k:Int)+1:=by omega
 have i6:((k:Int)+1).toNat=k+1:=by omega
 have i7:IntKind.i64.wrap ((k:Int)+1)=(k:Int)+1:=aK3 _ (by omega);go_cut [] (fun wx=> ∃(q9:OA) (c9:Nat),Mem w wx [aJ w TV 4 (q9) (k) (c9) ((vs.take k++vs.drop (k+1)).flatMap aD),aI w w3 TH3 #[aA,aB,.slice p5 n d],aJ w TI 1 (p5) (n) (d) (ivs ys),aI w w2 aL #[aA,aB,.slice p5 n d,a,c,aE,aF,aC,aG,.slice q9 (k) c9],aJ w TI 1 (p1) (n) (ae) (ivs xs),aJ w TV 4 (q1) (k+1) (o) (vs.flatMap aD),aI w (w.heap.size+1+1) aL #[(),(),((),()),(),(),(),(),(),(),((),())],aI w (w.heap.size+1) THD #[I 2,l,ad],aI w w aL #[aA,aB,.slice p n g,a,c,aE,aF,aC,aG,.slice (some ⟨b,j,none⟩) (k+1) (k+1)]])
 case first=>
  go_region_law ((first
   |(refine fS qR (by rfl) _ _ (by rfl) (by first|exact M6.made0 TV 4 w6 (by simp)|exact(M6.made0 TV 4 w6 (by simp)).adv (by exact .drew (.refl _))|exact(M6.adv xE).made0 TV 4 w6 (by simp)) 0 (by rfl) (by rfl) ((vs.take k).flatMap aD) (by rfl) (yM (HS.out.ext (M6.ext.trans (by exact .drew (.alloc (.refl _) _)))) (by omega)) (dZ _) (by omega) ?_
     intro q7 c7 w7 a0;have M7:=(show Mem w w7 [aJ w TV 4 (q7) (k) (c7) ((vs.take k).flatMap aD),aI w w3 TH3 #[aA,aB,.slice p5 n d],aJ w TI 1 (p5) (n) (d) (ivs ys),aI w w2 aL #[aA,aB,.slice p5 n d,a,c,aE,aF,aC,aG,.slice q1 (k+1) o],aJ w TI 1 (p1) (n) (ae) (ivs xs),aJ w TV 4 (q1) (k+1) (o) (vs.flatMap aD),aI w (w.heap.size+1+1) aL #[(),(),((),()),(),(),(),(),(),(),((),())],aI w (w.heap.size+1) THD #[I 2,l,ad],aI w w aL #[aA,aB,.slice p n g,a,c,aE,aF,aC,aG,.slice (some ⟨b,j,none⟩) (k+1) (k+1)]]from by simpa only[aKf,aL4,aLx]using a0)
     clear a0;have bl:=(M7.bk 8).cl 9
     have bm:(w2:Nat)<w7:=(M7.hi 3))
   |(refine fS qR (by rfl) _ _ (by rfl) (M7.adv (by exact .refl _)) 0 (by rfl) (by rfl) (([]:List aS).flatMap aD) (by rfl) (⟨by simp,aK8 _,by have:=HS.out.mx;omega,fun h=>absurd h (by omega)⟩) (dZ _) (by omega) ?_
     intro q9 c9 w9 a1;have M9:=(show Mem w w9 [aJ w TV 4 (q9) (k+(0)) (c9) ((vs.take k).flatMap aD++([]:List aS).flatMap aD),aI w w3 TH3 #[aA,aB,.slice p5 n d],aJ w TI 1 (p5) (n) (d) (ivs ys),aI w w2 aL #[aA,aB,.slice p5 n d,a,c,aE,aF,aC,aG,.slice q1 (k+1) o],aJ w TI 1 (p1) (n) (ae) (ivs xs),aJ w TV 4 (q1) (k+1) (o) (vs.flatMap aD),aI w (w.heap.size+1+1) aL #[(),(),((),()),(),(),(),(),(),(),((),())],aI w (w.heap.size+1) THD #[I 2,l,ad],aI w w aL #[aA,aB,.slice p n g,a,c,aE,aF,aC,aG,.slice (some ⟨b,j,none⟩) (k+1) (k+1)]]from a1)
     clear a1;have bo:=(M9.bk 3).cl 9;have bj:=(M9.bk 3).frozen 9
     have bp:(w2:Nat)<w9:=(M9.hi 3))))
  all_goals (
   have e1:k+(0)=k:=by omega
   have e2:(vs.take k).flatMap aD++([]:List aS).flatMap aD=(vs.take k++vs.drop (k+1)).flatMap aD:=by rw[bf.out];simp
   skip;have MZ:=(show Mem w w9 [aJ w TV 4 (q9) (k) (c9) ((vs.take k++vs.drop (k+1)).flatMap aD),aI w w3 TH3 #[aA,aB,.slice p5 n d],aJ w TI 1 (p5) (n) (d) (ivs ys),aI w w2 aL #[aA,aB,.slice p5 n d,a,c,aE,aF,aC,aG,.slice q1 (k+1) o],aJ w TI 1 (p1) (n) (ae) (ivs xs),aJ w TV 4 (q1) (k+1) (o) (vs.flatMap aD),aI w (w.heap.size+1+1) aL #[(),(),((),()),(),(),(),(),(),(),((),())],aI w (w.heap.size+1) THD #[I 2,l,ad],aI w w aL #[aA,aB,.slice p n g,a,c,aE,aF,aC,aG,.slice (some ⟨b,j,none⟩) (k+1) (k+1)]]from by have:=M9;rw[e2]at this;simpa only[e1]using this)
   clear e2 M9 M7)
  all_goals go_wp2_with fail
  all_goals go_meet
  all_goals exact⟨q9,c9,by first|exact(MZ.store (i:=3) rfl 9 (.slice q9 (k) c9))|(simp only[e1];exact(MZ.store (i:=3) rfl 9 (.slice q9 (k) c9)))⟩
 case rest=>
  obtain⟨q9,c9,MC⟩:=hcut;have MC:=xQ MC;clear M6 i1 i2 i5 i6 i7 m d0 aj d1 ak d2 al d3 am d4 an d5 ao d6 ap d7 aq d8 ar d9 au ab;have ab:w.heap.size+1<wc.heap.size:=(MC.out.hi 7)
  obtain⟨e0,e1,e2,e3,e4,e5,e6,e7,e8,e9⟩:=(MC.out.bk 3).ten;obtain⟨f0,a5,f1,a6,f2,a7,f3,a8,f4,a9,f5,ba,f6,bb,f7,bc,f8,bd,f9,be⟩:=(MC.out.bk 6).tenf;go_upto_region 33 with fail;go_wp2;clear e0 e1 e2 e3 e4 e5 e6 e7 e8 e9 f0 a5 f1 a6 f2 a7 f3 a8 f4 a9 f5 ba f6 bb f7 bc f8 bd f9 be ab;have M7:=(MC.out.put10 (i:=6) rfl (I aA) (I aB) (.slice p5 n d) (I a) (I c) (I aE) (I aF) (I aC) (I aG) (.slice q9 (k) c9))
  generalize ai:World.setCell _ _ _=wz;rw[ai]at M7;clear ai MC;obtain⟨y0,y1,y2,y3,y4,y5,y6,y7,y8,y9⟩:=(M7.bk 6).ten;exact bodyPost_ret (v:= .tuple #[.agg #[aA,aB,.slice p5 n d,a,c,aE,aF,aC,aG,.slice q9 (k) c9],f,.bool true]) (by simp[results,results26,go_sem, *]) rfl ⟨p5,d,q9,c9,rfl,(M7.ow 2),(M7.ow 0),M7.ext⟩
end
def aDb (h:aO)(r:Option (aO×Int))(w:World)(e:Ending)(w':World):Prop:=
 match r with
 |none=> ∃p cap q c2,e= .returned (.tuple #[bN h p h.cells.length cap q h.vs.length c2,(-1:Int),.bool false])∧w'.ownsRow w.heap.size TI 1 (.slice p h.cells.length cap) h.cells.length (ivs h.cells)∧w'.ownsRow w.heap.size TV 4 (.slice q h.vs.length c2) h.vs.length (h.vs.flatMap aD)∧Ext w w'
 |some (h',n)=> ∃p cap q c2,e= .returned (.tuple #[bN h' p h'.cells.length cap q h'.vs.length c2,n,.bool true])∧w'.ownsRow w.heap.size TI 1 (.slice p h'.cells.length cap) h'.cells.length (ivs h'.cells)∧w'.ownsRow w.heap.size TV 4 (.slice q h'.vs.length c2) h'.vs.length (h'.vs.flatMap aD)∧Ext w w'
theorem gW {h:aO}(a:bB h=true):h.cells.length≤12∧h.vs.length≤12∧4≤h.cells.length:=by obtain⟨q1,q2,q3,q4,q5⟩:=(dK h).1 a;have hb:=bZ (cC q1);have:=congrArg List.length q4;rw[oT,aLh]at this;have:=qH h.cells;omega
theorem mG (h:aO)(k a b:Int)(p:OA)(n c:Nat)(q:OA)(m c2:Nat)(w:World)(hi:IsHouse w h p n c q m c2)(d:bB h=false):
  U 26 #[bN h p n c q m c2,kG k a b] w (O (.tuple #[.agg #[(),(),((),()),(),(),(),(),(),(),((),())],(-1:Int),.bool false]) w):=
 aAr h.aA h.aB h.free h.step h.aE h.aF h.aC h.aG k a b p n c q m c2 h.cells h.vs w (xQ fun w' hx=>by have:=kY h p n c q m c2 w' (hi.ext hx);rwa[d]at this)
theorem rC (h:aO)(k a b:Int)(p:OA)(n c:Nat)(q:OA)(m c2:Nat)(w:World)(hi:IsHouse w h p n c q m c2)(j:bB h=true):
  U 26 #[bN h p n c q m c2,kG k a b] w (aDb h (bU h k a b) w):=by
 obtain⟨q1,q2,q3,q4,q5⟩:=(dK h).1 j;have ad:=gW j;have hl:=hi.clen;have s:=hi.vlen;have hS:=hi.cells;have hV:=hi.vs;subst hl s;have f:=xQ fun(w':World) (hx:Ext w w')=>(by have:=kY h p _ c q _ c2 w' (hi.ext hx);rwa[j]at this:U 10 #[bN h p h.cells.length c q h.vs.length c2] w' (O (.bool true) w'))
 have HL:=xQ fun(w':World) (hx:Ext w w')=>oM h p _ c q _ c2 w' (by omega) (by omega) (hi.ext hx)
 unfold RetHouse at HL;by_cases k0:k=0
 ·subst k0;have HP:=xQ fun(w':World) (hx:Ext w w')=>xY h.aA h.aB a p _ c h.cells w' (hS.ext hx) q1
  have e0:bU h 0 a b=(if 0≤(bV h.aA h.aB h.cells a).2 then some ({h with cells:=(bV h.aA h.aB h.cells a).1,vs:=jL (a,h.aC,0,h.aC) h.vs},(bV h.aA h.aB h.cells a).2)else none):=by unfold bU;rw[if_pos rfl]
  have el:(bV h.aA h.aB h.cells a).1.length=h.cells.length:=by
   by_cases h0:0≤(bV h.aA h.aB h.cells a).2
   ·obtain⟨zs,s1,_,_,s4,_⟩:=oJ q1 h0;rw[s4,aL9,s1.length_eq]
   unfold bV at h0⊢;split at h0
   ·rfl
   dsimp only at h0;omega
  unfold cF at HP;rw[el]at HP;rw[e0];by_cases h0:0≤(bV h.aA h.aB h.cells a).2
  ·rw[if_pos h0];have HQ:=xQ fun(w':World) (hx:Ext w w')=>aE4 a h.aC 0 h.aC q _ c2 h.vs w' (by omega) (hV.ext hx)
   refine(qC h.aA h.aB h.free h.step h.aE h.aF h.aC h.aG (bV h.aA h.aB h.cells a).2 a b p _ c q _ c2 h.cells (bV h.aA h.aB h.cells a).1 h.vs (jL (a,h.aC,0,h.aC) h.vs) w h0 f HL HP HQ).mono ?_;rintro e w' ⟨p',d,q',g,rfl,o1,o2,hx⟩;refine⟨p',d,q',g,?_,?_,?_,hx⟩
   ·simp[bN,el,pA]
   ·dsimp only;rw[el];exact o1
   dsimp only;rw[pA];exact o2
  rw[if_neg h0];exact rS h.aA h.aB h.free h.step h.aE h.aF h.aC h.aG (bV h.aA h.aB h.cells a).2 a b p _ c q _ c2 h.cells (bV h.aA h.aB h.cells a).1 h.vs w (by omega) f HL HP
 by_cases k1:k=1
 ·subst k1;have HP:=xQ fun(w':World) (hx:Ext w w')=>aE5 h a b p _ c q _ c2 w' (by omega) (by omega) (hi.ext hx) q2 (fun v hv=>(fR _ _).1 (q5 v hv)) q3.2.1 q3.2.2.1 q3.2.2.2
  have e0:bU h 1 a b=mL h a b:=by unfold bU;rw[if_neg (by omega),if_pos rfl]
  rw[e0];cases hp:mL h a b with
  |none=>rw[hp]at HP;exact tZ h.aA h.aB h.free h.step h.aE h.aF h.aC h.aG a b p _ c q _ c2 h.cells h.vs w f HL HP
  |some r=>
   obtain⟨h',bk⟩:=r;rw[hp]at HP;have hd:=oN j (e0.trans hp);have hv:h'.vs.length=h.vs.length∧h'.cells=h.cells∧h'.aC=h.aC:=by
    unfold mL at hp;split at hp
    ·cases hp
    split at hp
    ·injection hp with hp;simp only[aKx]at hp;obtain⟨rfl,_⟩:=hp;exact⟨by simp,rfl,rfl⟩
    cases hp
   obtain⟨t1,t2,t3,t4,t5,t6,t7,t8,t9⟩:=hd;obtain⟨v1,v2,v3⟩:=hv;obtain⟨hw,z,hc,hf,hs,ab,x,y,o,t⟩:=h';dsimp only at t4 t5 t6 t7 t8 t9 v1 v2 v3;subst t4 t5 t6 t7 t8 t9 v2 v3;unfold aHu at HP;dsimp only at HP;rw[v1]at HP;refine(sP h.aA h.aB h.free h.step h.aE h.aF h.aC h.aG o bk a b p _ c q _ c2 h.cells h.vs t w t2.1 f HL HP).mono ?_;rintro e w' ⟨p',d,q',g,rfl,o1,o2,hx⟩;refine⟨p',d,q',g,?_,o1,?_,hx⟩
   ·simp[bN,v1]
   dsimp only;rw[v1];exact o2
 by_cases k2:k=2
 ·subst k2;have HP:=xQ fun(w':World) (hx:Ext w w')=>zU h.aA h.aB a p _ c h.cells w' (hS.ext hx) q1
  have HF:=xQ fun(w':World) (hx:Ext w w')=>oL h.aA h.aB h.free h.step h.aE h.aF h.aC h.aG a p h.cells.length c q _ c2 h.vs w' (hV.ext hx)
  have HM:=fun(w':World) (hx:Ext w w')=>wD h a p _ c q _ c2 w' (hi.ext hx)
  have e0:bU h 2 a b=(if dB h a=true∧0≤(bR h.aA h.aB h.cells a).2 then some ({h with cells:=(bR h.aA h.aB h.cells a).1,vs:=h.vs.eraseIdx (vix a h.vs).toNat},(bR h.aA h.aB h.cells a).2)else none):=by unfold bU;rw[if_neg (by omega),if_neg (by omega),if_pos rfl]
  have el:(bR h.aA h.aB h.cells a).1.length=h.cells.length:=by
   by_cases h0:0≤(bR h.aA h.aB h.cells a).2
   ·obtain⟨zs,s1,_,_,s4,_⟩:=mD q1 h0;rw[s4,aL9,s1.length_eq]
   unfold bR at h0⊢;split at h0
   ·rfl
   dsimp only at h0;omega
  unfold cF at HP;rw[el]at HP;rw[e0];by_cases h0:dB h a=true∧0≤(bR h.aA h.aB h.cells a).2
  ·rw[if_pos h0];have hv: ∃v,dI a h.vs=some v:=by
    have:=h0.1;unfold dB cX at this;rw[if_pos j]at this;cases hv:dI a h.vs with
    |none=>rw[hv]at this;simp at this
    |some v=>exact⟨v,rfl⟩
   obtain⟨v,hv⟩:=hv;obtain⟨v1,v2,v3,v4,v5,v6⟩:=iY hv;generalize hk:(vix a h.vs).toNat=kk at*;rw[v5]at HF;rw[h0.1]at HM;obtain⟨bb,l,rfl,u,_⟩:=hV.rd (by omega);have ee:h.vs.eraseIdx kk=h.vs.take kk++h.vs.drop (kk+1):=List.eraseIdx_eq_take_drop_succ _ _;have i:(h.vs.eraseIdx kk).length=h.vs.length-1:=by rw[List.length_eraseIdx,if_pos v4]
   by_cases hcc:kk+1<c2
   ·refine(qE h.aA h.aB h.free h.step h.aE h.aF h.aC h.aG (bR h.aA h.aB h.cells a).2 a b p _ c bb l _ c2 kk h.cells (bR h.aA h.aB h.cells a).1 h.vs w h0.2 v4 (by omega) hcc (xQ hV) f HL HP HF HM).mono ?_;rintro e w' ⟨p',d,q',g,rfl,o1,o2,hx⟩;refine⟨p',d,q',g,?_,?_,?_,hx⟩
    ·simp only[bN,el,i]
    ·dsimp only;rw[el];exact o1
    dsimp only;rw[i,ee];exact o2
   have aa:=hV.le;have e1:c2=kk+1:=by omega
   have e2:h.vs.length=kk+1:=by omega
   subst e1;rw[e2]at hV f HL HF HM i⊢;refine(oX h.aA h.aB h.free h.step h.aE h.aF h.aC h.aG (bR h.aA h.aB h.cells a).2 a b p _ c bb l kk h.cells (bR h.aA h.aB h.cells a).1 h.vs w h0.2 (by omega) (xQ (aLf (by omega))) (xQ hV) f HL HP HF HM).mono ?_;rintro e w' ⟨p',d,q',g,rfl,o1,o2,hx⟩;refine⟨p',d,q',g,?_,?_,?_,hx⟩
   ·simp[bN,el,i]
   ·dsimp only;rw[el];exact o1
   dsimp only;rw[i,ee,Nat.add_sub_cancel];exact o2
  rw[if_neg h0]
  exact rU h.aA h.aB h.free h.step h.aE h.aF h.aC h.aG (bR h.aA h.aB h.cells a).2 (vix a h.vs) a b p _ c q _ c2 h.cells (bR h.aA h.aB h.cells a).1 h.vs w (dB h a) (fun e=>by
   by_cases hx:0≤(bR h.aA h.aB h.cells a).2
   ·exact absurd ⟨e,hx⟩ h0
   ·omega) f HL HP HF HM
 by_cases k3:k=3
 ·subst k3;have e0:bU h 3 a b=(if 1≤a∧a≤9999-h.aC then some ({h with aC:=h.aC+a},h.aC+a)else none):=by unfold bU;rw[if_neg (by omega),if_neg (by omega),if_neg (by omega),if_pos rfl]
  rw[e0];by_cases h0:1≤a∧a≤9999-h.aC
  ·rw[if_pos h0];exact rR h.aA h.aB h.free h.step h.aE h.aF h.aC h.aG a b p _ c q _ c2 h.cells h.vs w q3.1 q3.2.1 h0.1 h0.2 f HL (xQ fun w'=>lG a 1 (9999-h.aC) w' h0.1 h0.2)
  rw[if_neg h0];exact sO h.aA h.aB h.free h.step h.aE h.aF h.aC h.aG a b p _ c q _ c2 h.cells h.vs w q3.1 q3.2.1 f HL (xQ fun w'=>rY a 1 (9999-h.aC) w' (by omega))
 by_cases k4:k=4
 ·subst k4;have HP:=xQ fun(w':World) (hx:Ext w w')=>kL h.aA h.aB a b p _ c h.cells w' (hS.ext hx) q1
  have e0:bU h 4 a b=(if aX h.aA h.aB h.cells a b=true then some ({h with cells:=bD h.aA h.aB h.cells a b},0)else none):=by unfold bU;rw[if_neg (by omega),if_neg (by omega),if_neg (by omega),if_neg (by omega),if_pos rfl]
  unfold cG at HP;rw[cJ]at HP;rw[e0];cases hm:aX h.aA h.aB h.cells a b with
  |true=>
   rw[hm]at HP;rw[if_pos rfl];refine(qD h.aA h.aB h.free h.step h.aE h.aF h.aC h.aG a b p _ c q _ c2 h.cells (bD h.aA h.aB h.cells a b) h.vs w f HL HP).mono ?_;rintro e w' ⟨p',d,q',g,rfl,o1,o2,hx⟩;refine⟨p',d,q',g,?_,?_,o2,hx⟩
   ·simp only[bN,cJ]
   dsimp only;rw[cJ];exact o1
  |false=>rw[hm]at HP;rw[if_neg (by simp)];exact rT h.aA h.aB h.free h.step h.aE h.aF h.aC h.aG a b p _ c q _ c2 h.cells (bD h.aA h.aB h.cells a b) h.vs w f HL HP
 have e0:bU h k a b=none:=by unfold bU;rw[if_neg k0,if_neg k1,if_neg k2,if_neg k3,if_neg k4]
 rw[e0];exact wF h.aA h.aB h.free h.step h.aE h.aF h.aC h.aG k a b p _ c q _ c2 h.cells h.vs w k0 k1 k2 k3 k4 f HL
end Go.Proofs.YtbgkcehffiogcaaGreatDoor
