/-
  Texts of this proof, packed (@packed).
-/
import Derived.Test.YtpelpnfhbepokaaGreatDoorV20
namespace Go.Proofs.YtpelpnfhbepokaaGreatDoor
open Go.RowKit
set_option linter.unusedVariables false
set_option linter.unusedSimpArgs false
set_option maxHeartbeats 8000000
set_option maxRecDepth 100000
theorem qX (aA aB a b aE aF aC aG c l aw:Int)(p:OA)(n g:Nat)(q:OA)(m c2:Nat)(xs ys:List Int)(vs a2:List aP)(w:World)(h0:0≤c)
  (ax:xB 12 #[.agg #[aA,aB,.slice p n g,a,b,aE,aF,aC,aG,.slice q m c2]] w true)
  (HL:xC 37 #[.agg #[aA,aB,.slice p n g,a,b,aE,aF,aC,aG,.slice q m c2]] w fun w' e w''=> ∃p' cap' q' c2',e= .returned (.agg #[aA,aB,.slice p' n cap',a,b,aE,aF,aC,aG,.slice q' m c2'])∧w''.ownsRow w'.heap.size TI 1 (.slice p' n cap') n (ivs xs)∧w''.ownsRow w'.heap.size TV 4 (.slice q' m c2') m (vs.flatMap aD)∧Ext w' w'')
  (HP:xC 82 #[aH aA aB p n g,l] w fun w' e w''=> ∃p' cap',e= .returned (.tuple #[aH aA aB p' n cap',c])∧w''.ownsRow w'.heap.size TI 1 (.slice p' n cap') n (ivs ys)∧Ext w' w'')
  (HQ:xC 83 #[.slice q m c2,.agg #[l,aC,(),aC]] w fun w' e w''=> ∃q' c',e= .returned (.slice q' (m+1) c')∧w''.ownsRow w'.heap.size TV 4 (.slice q' (m+1) c') (m+1) (a2.flatMap aD)∧Ext w' w''):
  Calls Tryz.prog 38 #[.agg #[aA,aB,.slice p n g,a,b,aE,aF,aC,aG,.slice q m c2],.agg #[(),l,aw]] w fun e w'=> ∃p' cap' q' c2',e= .returned (.tuple #[.agg #[aA,aB,.slice p' n cap',a,b,aE,aF,aC,aG,.slice q' (m+1) c2'],c,.bool true])∧w'.ownsRow w.heap.size TI 1 (.slice p' n cap') n (ivs ys)∧w'.ownsRow w.heap.size TV 4 (.slice q' (m+1) c2') (m+1) (a2.flatMap aD)∧Ext w w':=by
 go_enter Tryz.func38,Tryz.ntmps38;go_wp2_with fail;refine(ax _ ((((Mem.start w).c0 aL #[aA,aB,.slice p n g,a,b,aE,aF,aC,aG,.slice q m c2]).c1 THD #[(),l,aw]).c2 aL zT).ext).mono ?_;rintro e w1 ⟨rfl,a1⟩;have M1:=(((((Mem.start w).c0 aL #[aA,aB,.slice p n g,a,b,aE,aF,aC,aG,.slice q m c2]).c1 THD #[(),l,aw]).c2 aL zT).adv a1)
 have ag:=M1.hi 0;have ah:=M1.hi 1;have ai:=M1.hi 2;clear a1 ax;obtain⟨u,x,y,z,aa,ab,ad,j,ae,k⟩:=(M1.bk 2).ten;go_wp2_with fail;clear u x y z aa ab ad j ae k;refine(HL _ M1.ext).mono ?_;rintro e w2 ⟨p1,ay,q1,az,rfl,ho,hq,hx⟩;have M2:=(M1.own2 hx ho hq (Nat.le_refl _) (by decide))
 clear M1 ag ah ai hx ho hq;have aj:=M2.hi 2;have ak:=M2.hi 3;have al:=M2.hi 4;obtain⟨u,x,y,z,aa,ab,ad,j,ae,k⟩:=(M2.bk 4).ten;obtain⟨a3,af,a4⟩:=(M2.bk 3).tri;go_wp2_with fail;clear u x y z aa ab ad j ae k a3 af a4;refine(HP _ (M2.c0 aL #[aA,aB,.slice p1 n ay,a,b,aE,aF,aC,aG,.slice q1 m az]).ext).mono ?_;rintro e w3 ⟨p5,h,rfl,ho,hx⟩;have M3:=((M2.c0 aL #[aA,aB,.slice p1 n ay,a,b,aE,aF,aC,aG,.slice q1 m az]).call hx ho)
 clear M2 aj ak al hx ho HP HL;have am:=M3.hi 1;have an:=M3.hi 4;have ao:=M3.hi 5;have ap:=M3.hi 6;have d0:=(M3.bk 1).cl 0;have a5:=(M3.bk 1).frozen 0;have d1:=(M3.bk 1).cl 1;have a6:=(M3.bk 1).frozen 1;have d2:=(M3.bk 1).cl 2;have a7:=(M3.bk 1).frozen 2;have j:=(M3.bk 6).cl 7;have k:=(M3.bk 6).cl 9;have af:=(M3.bk 5).cl 1;obtain⟨d,f⟩:=M3.nq 5 6;obtain⟨o,r⟩:=M3.nq 1 6;obtain⟨s,t⟩:=M3.nq 1 5;have hd:decide (c<0)=false:=by simp;omega
 have bu:decide (0≤c)=true:=by simp;omega
 have M4:=(((M3.st 1 0 (.int .i64 aA)).st 1 1 (.int .i64 aB)).st 1 2 (.slice p5 n h))
 go_wp2_with fail;clear d0 a5 d1 a6 d2 a7 j k af d f o r s t;refine(HQ _ (M4.adv ((Ext.refl _).alloc (.cells #[aA,aB,.slice p5 n h] TH3))).ext).mono ?_;rintro e w4 ⟨q7,c7,rfl,ho,hx⟩;have M5:=((M4.adv ((Ext.refl _).alloc (.cells #[aA,aB,.slice p5 n h] TH3))).call hx ho)
 clear M3 am an ao ap hx ho HQ;have aq:=M5.hi 2;have ar:=M5.hi 5;have au:=M5.hi 6;have av:=M5.hi 7;obtain⟨e0,a8,e1,a9,e2,ba,e3,bb,e4,bc,e5,bd,e6,be,e7,bf,e8,bg,e9,bh⟩:=(M5.bk 2).tenf;obtain⟨f0,bi,f1,bj,f2,bl,f3,bm,f4,bo,f5,bp,f6,bq,f7,br,f8,bs,f9,bt⟩:=(M5.bk 5).tenf;obtain⟨d,f⟩:=M5.nq 2 5;have M6:=(M5.st 2 9 (.slice q7 (m+1) c7))
 go_wp2;clear e0 a8 e1 a9 e2 ba e3 bb e4 bc e5 bd e6 be e7 bf e8 bg e9 bh f0 bi f1 bj f2 bl f3 bm f4 bo f5 bp f6 bq f7 br f8 bs f9 bt d f aq ar au av;have M7:=(M6.put10 (i:=5) rfl (.int .i64 aA) (.int .i64 aB) (.slice p5 n h) (.int .i64 a) (.int .i64 b) (.int .i64 aE) (.int .i64 aF) (.int .i64 aC) (.int .i64 aG) (.slice q7 (m+1) c7))
 generalize a0:World.setCell _ _ _=wz;rw[a0]at M7;clear a0 M5 M4 M6;obtain⟨y0,y1,y2,y3,y4,y5,y6,y7,y8,y9⟩:=(M7.bk 5).ten;exact bodyPost_ret (v:= .tuple #[.agg #[aA,aB,.slice p5 n h,a,b,aE,aF,aC,aG,.slice q7 (m+1) c7],c,.bool true]) (by simp[results,Tryz.results38,go_sem, *]) rfl ⟨p5,h,q7,c7,rfl,(M7.ow 1),(M7.ow 0),M7.ext⟩
theorem sZ (aA aB a b aE aF aC aG c u ap:Int)(p:OA)(n d:Nat)(q:OA)(m c2:Nat)(xs ys:List Int)(vs:List aP)(w:World)(h0:c<0)
  (aq:xB 12 #[.agg #[aA,aB,.slice p n d,a,b,aE,aF,aC,aG,.slice q m c2]] w true)
  (HL:xC 37 #[.agg #[aA,aB,.slice p n d,a,b,aE,aF,aC,aG,.slice q m c2]] w fun w' e w''=> ∃p' cap' q' c2',e= .returned (.agg #[aA,aB,.slice p' n cap',a,b,aE,aF,aC,aG,.slice q' m c2'])∧w''.ownsRow w'.heap.size TI 1 (.slice p' n cap') n (ivs xs)∧w''.ownsRow w'.heap.size TV 4 (.slice q' m c2') m (vs.flatMap aD)∧Ext w' w'')
  (HP:xC 82 #[aH aA aB p n d,u] w fun w' e w''=> ∃p' cap',e= .returned (.tuple #[aH aA aB p' n cap',c])∧w''.ownsRow w'.heap.size TI 1 (.slice p' n cap') n (ivs ys)∧Ext w' w''):
  Calls Tryz.prog 38 #[.agg #[aA,aB,.slice p n d,a,b,aE,aF,aC,aG,.slice q m c2],.agg #[(),u,ap]] w fun e w'=> ∃p' cap' q' c2',e= .returned (.tuple #[.agg #[aA,aB,.slice p' n cap',a,b,aE,aF,aC,aG,.slice q' m c2'],(-1:Int),.bool false])∧w'.ownsRow w.heap.size TI 1 (.slice p' n cap') n (ivs xs)∧w'.ownsRow w.heap.size TV 4 (.slice q' m c2') m (vs.flatMap aD)∧Ext w w':=by
 go_enter Tryz.func38,Tryz.ntmps38;go_wp2_with fail;refine(aq _ ((((Mem.start w).c0 aL #[aA,aB,.slice p n d,a,b,aE,aF,aC,aG,.slice q m c2]).c1 THD #[(),u,ap]).c2 aL zT).ext).mono ?_;rintro e w1 ⟨rfl,ax⟩;have M1:=(((((Mem.start w).c0 aL #[aA,aB,.slice p n d,a,b,aE,aF,aC,aG,.slice q m c2]).c1 THD #[(),u,ap]).c2 aL zT).adv ax)
 have z:=M1.hi 0;have aa:=M1.hi 1;have ab:=M1.hi 2;clear ax aq;obtain⟨f,g,h,j,k,l,o,r,s,t⟩:=(M1.bk 2).ten;go_wp2_with fail;clear f g h j k l o r s t;refine(HL _ M1.ext).mono ?_;rintro e w2 ⟨p1,ar,q1,av,rfl,ho,hq,hx⟩;have M2:=(M1.own2 hx ho hq (Nat.le_refl _) (by decide))
 clear M1 z aa ab hx ho hq;have ad:=M2.hi 2;have ae:=M2.hi 3;have af:=M2.hi 4;obtain⟨f,g,h,j,k,l,o,r,s,t⟩:=(M2.bk 4).ten;obtain⟨ay,az,a0⟩:=(M2.bk 3).tri;go_wp2_with fail;clear f g h j k l o r s t ay az a0;refine(HP _ (M2.c0 aL #[aA,aB,.slice p1 n ar,a,b,aE,aF,aC,aG,.slice q1 m av]).ext).mono ?_;rintro e w3 ⟨p5,au,rfl,ho,hx⟩;have M3:=((M2.c0 aL #[aA,aB,.slice p1 n ar,a,b,aE,aF,aC,aG,.slice q1 m av]).call hx ho)
 clear M2 ad ae af hx ho HP;have ag:=M3.hi 1;have ah:=M3.hi 4;have ai:=M3.hi 5;have aj:=M3.hi 6;have bb:decide (0≤c)=false:=by simp;omega
 obtain⟨f,g,h,j,k,l,o,r,s,t⟩:=(M3.bk 6).ten;go_wp2_with fail;clear f g h j k l o r s t;refine(HL _ (M3.c0 TH3 #[aA,aB,.slice p5 n au]).ext).mono ?_;rintro e w9 ⟨p9,x,q9,y,rfl,ho,hq,hx⟩;have M4:=((M3.c0 TH3 #[aA,aB,.slice p5 n au]).own2 hx ho hq (Nat.le_refl _) (by decide))
 clear M3 ag ah ai aj hx ho hq HL;have ak:=M4.hi 2;have al:=M4.hi 4;have am:=M4.hi 7;have an:=M4.hi 8;have ao:=M4.hi 9;obtain⟨f0,a1,f1,a2,f2,a3,f3,a4,f4,a5,f5,a6,f6,a7,f7,a8,f8,a9,f9,ba⟩:=(M4.bk 7).tenf;go_wp2;clear f0 a1 f1 a2 f2 a3 f3 a4 f4 a5 f5 a6 f6 a7 f7 a8 f8 a9 f9 ba ak al am an ao;have M5:=(M4.put10 (i:=7) rfl (.int .i64 aA) (.int .i64 aB) (.slice p9 n x) (.int .i64 a) (.int .i64 b) (.int .i64 aE) (.int .i64 aF) (.int .i64 aC) (.int .i64 aG) (.slice q9 m y))
 generalize aw:World.setCell _ _ _=wz;rw[aw]at M5;clear aw M4;obtain⟨y0,y1,y2,y3,y4,y5,y6,y7,y8,y9⟩:=(M5.bk 7).ten;exact bodyPost_ret (v:= .tuple #[.agg #[aA,aB,.slice p9 n x,a,b,aE,aF,aC,aG,.slice q9 m y],(-1:Int),.bool false]) (by simp[results,Tryz.results38,go_sem, *]) rfl ⟨p9,x,q9,y,rfl,(M5.ow 0),(M5.ow 1),M5.ext⟩
theorem tB (aA aB a b aE aF aC aG s ix ae bf:Int)(p:OA)(n t:Nat)(q:OA)(m c2:Nat)(xs ys:List Int)(vs:List aP)(w:World)(mb:Bool)(bp:mb=true→s<0)
  (bg:xB 12 #[.agg #[aA,aB,.slice p n t,a,b,aE,aF,aC,aG,.slice q m c2]] w true)
  (HL:xC 37 #[.agg #[aA,aB,.slice p n t,a,b,aE,aF,aC,aG,.slice q m c2]] w fun w' e w''=> ∃p' cap' q' c2',e= .returned (.agg #[aA,aB,.slice p' n cap',a,b,aE,aF,aC,aG,.slice q' m c2'])∧w''.ownsRow w'.heap.size TI 1 (.slice p' n cap') n (ivs xs)∧w''.ownsRow w'.heap.size TV 4 (.slice q' m c2') m (vs.flatMap aD)∧Ext w' w'')
  (HP:xC 85 #[aH aA aB p n t,ae] w fun w' e w''=> ∃p' cap',e= .returned (.tuple #[aH aA aB p' n cap',s])∧w''.ownsRow w'.heap.size TI 1 (.slice p' n cap') n (ivs ys)∧Ext w' w'')
  (HF:xC 86 #[.agg #[aA,aB,.slice p n t,a,b,aE,aF,aC,aG,.slice q m c2],ae] w fun w' e w''=>e= .returned (.int .i64 (ix))∧Ext w' w'')
  (HM:xB 87 #[.agg #[aA,aB,.slice p n t,a,b,aE,aF,aC,aG,.slice q m c2],ae] w mb):
  Calls Tryz.prog 38 #[.agg #[aA,aB,.slice p n t,a,b,aE,aF,aC,aG,.slice q m c2],.agg #[.int .i64 2,ae,bf]] w fun e w'=> ∃p' cap' q' c2',e= .returned (.tuple #[.agg #[aA,aB,.slice p' n cap',a,b,aE,aF,aC,aG,.slice q' m c2'],(-1:Int),.bool false])∧w'.ownsRow w.heap.size TI 1 (.slice p' n cap') n (ivs xs)∧w'.ownsRow w.heap.size TV 4 (.slice q' m c2') m (vs.flatMap aD)∧Ext w w':=by
 go_enter Tryz.func38,Tryz.ntmps38;go_wp2_with fail;refine(bg _ ((((Mem.start w).c0 aL #[aA,aB,.slice p n t,a,b,aE,aF,aC,aG,.slice q m c2]).c1 THD #[.int .i64 2,ae,bf]).c2 aL zT).ext).mono ?_;rintro e w1 ⟨rfl,bl⟩;have M1:=(((((Mem.start w).c0 aL #[aA,aB,.slice p n t,a,b,aE,aF,aC,aG,.slice q m c2]).c1 THD #[.int .i64 2,ae,bf]).c2 aL zT).adv bl)
 have a0:=M1.hi 0;have a1:=M1.hi 1;have a2:=M1.hi 2;clear bl bg;obtain⟨c,d,f,g,h,j,k,l,o,r⟩:=(M1.bk 2).ten;go_wp2_with fail;clear c d f g h j k l o r;refine(HL _ M1.ext).mono ?_;rintro e w2 ⟨p1,bh,q1,bj,rfl,ho,hq,hx⟩;have M2:=(M1.own2 hx ho hq (Nat.le_refl _) (by decide))
 clear M1 a0 a1 a2 hx ho hq;have a3:=M2.hi 2;have a4:=M2.hi 3;have a5:=M2.hi 4;obtain⟨c,d,f,g,h,j,k,l,o,r⟩:=(M2.bk 4).ten;obtain⟨af,ag,ah⟩:=(M2.bk 3).tri;go_wp2_with fail;clear c d f g h j k l o r af ag ah;refine(HP _ (M2.c0 aL #[aA,aB,.slice p1 n bh,a,b,aE,aF,aC,aG,.slice q1 m bj]).ext).mono ?_;rintro e w3 ⟨p5,bi,rfl,ho,hx⟩;have M3:=((M2.c0 aL #[aA,aB,.slice p1 n bh,a,b,aE,aF,aC,aG,.slice q1 m bj]).call hx ho)
 clear M2 a3 a4 a5 hx ho HP;have a6:=M3.hi 1;have a7:=M3.hi 4;have a8:=M3.hi 5;have a9:=M3.hi 6;obtain⟨c,d,f,g,h,j,k,l,o,r⟩:=(M3.bk 6).ten;obtain⟨af,ag,ah⟩:=(M3.bk 5).tri;go_wp2_with fail;clear c d f g h j k l o r af ag ah;refine(HF _ (M3.c0 TH3 #[aA,aB,.slice p5 n bi]).ext).mono ?_;rintro e w4 ⟨rfl,bm⟩;have M4:=((M3.c0 TH3 #[aA,aB,.slice p5 n bi]).adv bm)
 clear M3 a6 a7 a8 a9 bm HF;have ba:=M4.hi 0;have bb:=M4.hi 2;have bc:=M4.hi 5;have bd:=M4.hi 6;have be:=M4.hi 7;obtain⟨c,d,f,g,h,j,k,l,o,r⟩:=(M4.bk 7).ten;obtain⟨af,ag,ah⟩:=(M4.bk 6).tri;go_wp2_with fail;clear c d f g h j k l o r af ag ah;refine(HM _ M4.ext).mono ?_;rintro e w5 ⟨rfl,bo⟩;have M5:=(M4.adv bo)
 clear M4 ba bb bc bd be bo HM;have aj:=M5.hi 0;have ak:=M5.hi 2;have al:=M5.hi 5;have am:=M5.hi 6;have an:=M5.hi 7;cases mb with
 |true=>
   have bq:decide (0≤s)=false:=by simp;have:=bp rfl;omega
   obtain⟨c,d,f,g,h,j,k,l,o,r⟩:=(M5.bk 7).ten;go_wp2_with fail;clear c d f g h j k l o r;refine(HL _ M5.ext).mono ?_;rintro e w9 ⟨p9,u,q9,x,rfl,ho,hq,hx⟩;have M6:=(M5.own2 hx ho hq (Nat.le_refl _) (by decide))
   clear M5 aj ak al am an hx ho hq HL;have y:=M6.hi 2;have z:=M6.hi 4;have aa:=M6.hi 7;have ab:=M6.hi 8;have ad:=M6.hi 9;obtain⟨f0,ao,f1,ap,f2,aq,f3,ar,f4,au,f5,av,f6,aw,f7,ax,f8,ay,f9,az⟩:=(M6.bk 7).tenf;go_wp2;clear f0 ao f1 ap f2 aq f3 ar f4 au f5 av f6 aw f7 ax f8 ay f9 az y z aa ab ad;have M7:=(M6.put10 (i:=7) rfl (.int .i64 aA) (.int .i64 aB) (.slice p9 n u) (.int .i64 a) (.int .i64 b) (.int .i64 aE) (.int .i64 aF) (.int .i64 aC) (.int .i64 aG) (.slice q9 m x))
   generalize ai:World.setCell _ _ _=wz;rw[ai]at M7;clear ai M6;obtain⟨y0,y1,y2,y3,y4,y5,y6,y7,y8,y9⟩:=(M7.bk 7).ten;exact bodyPost_ret (v:= .tuple #[.agg #[aA,aB,.slice p9 n u,a,b,aE,aF,aC,aG,.slice q9 m x],(-1:Int),.bool false]) (by simp[results,Tryz.results38,go_sem, *]) rfl ⟨p9,u,q9,x,rfl,(M7.ow 0),(M7.ow 1),M7.ext⟩
 |false=>
   obtain⟨c,d,f,g,h,j,k,l,o,r⟩:=(M5.bk 7).ten;go_wp2_with fail;clear c d f g h j k l o r;refine(HL _ M5.ext).mono ?_;rintro e w9 ⟨p9,u,q9,x,rfl,ho,hq,hx⟩;have M6:=(M5.own2 hx ho hq (Nat.le_refl _) (by decide))
   clear M5 aj ak al am an hx ho hq HL;have y:=M6.hi 2;have z:=M6.hi 4;have aa:=M6.hi 7;have ab:=M6.hi 8;have ad:=M6.hi 9;obtain⟨f0,ao,f1,ap,f2,aq,f3,ar,f4,au,f5,av,f6,aw,f7,ax,f8,ay,f9,az⟩:=(M6.bk 7).tenf;go_wp2;clear f0 ao f1 ap f2 aq f3 ar f4 au f5 av f6 aw f7 ax f8 ay f9 az y z aa ab ad;have M7:=(M6.put10 (i:=7) rfl (.int .i64 aA) (.int .i64 aB) (.slice p9 n u) (.int .i64 a) (.int .i64 b) (.int .i64 aE) (.int .i64 aF) (.int .i64 aC) (.int .i64 aG) (.slice q9 m x))
   generalize ai:World.setCell _ _ _=wz;rw[ai]at M7;clear ai M6;obtain⟨y0,y1,y2,y3,y4,y5,y6,y7,y8,y9⟩:=(M7.bk 7).ten;exact bodyPost_ret (v:= .tuple #[.agg #[aA,aB,.slice p9 n u,a,b,aE,aF,aC,aG,.slice q9 m x],(-1:Int),.bool false]) (by simp[results,Tryz.results38,go_sem, *]) rfl ⟨p9,u,q9,x,rfl,(M7.ow 0),(M7.ow 1),M7.ext⟩
theorem aA1 {w:World}{b c n a k:Nat}{vs:List aP}(h:Sl w (some ⟨b,c,none⟩) n a 4 (vs.flatMap aD))(hk:k≤n):Sl w (some ⟨b,c,none⟩) k a 4 ((vs.take k).flatMap aD):=by
 have hl:=h.len;have f:=h.le;have g:=h.mx;have e:(vs.take k).flatMap aD=(vs.flatMap aD).take (k*4):=by
  have h1:vs.flatMap aD=(vs.take k).flatMap aD++(vs.drop k).flatMap aD:=by rw[←List.flatMap_append,List.take_append_drop]
  have h2:vs.length=n:=by rw[dC aD 4 (fun _=>rfl)]at hl;omega
  have h3:((vs.take k).flatMap aD).length=k*4:=by rw[dC aD 4 (fun _=>rfl),List.length_take];omega
  rw[h1,←h3,List.take_left]
 rw[e];refine⟨by rw[List.length_take,hl];omega,by omega,by omega,fun h0=> ?_⟩;obtain⟨b',d,e,hb,hc⟩:=h.rd (by omega);injection e with e;injection e with e1 e2;subst e1 e2;refine⟨_,_,rfl,hb,fun j hj=> ?_⟩;rw[hc j (by omega),List.getElem?_take,if_pos hj]
theorem qZ (aA aB a c aE aF aC aG f o ag:Int)(p:OA)(n j:Nat)(b l m c2 k:Nat)(xs ys:List Int)(vs:List aP)(w:World)(h0:0≤f)(hk:k<m)(hm:m≤1000)(co:k+1<c2)(HS:Hid (Sl w (some ⟨b,l,none⟩) m c2 4 (vs.flatMap aD)))
  (bu:xB 12 #[.agg #[aA,aB,.slice p n j,a,c,aE,aF,aC,aG,.slice (some ⟨b,l,none⟩) m c2]] w true)
  (HL:xC 37 #[.agg #[aA,aB,.slice p n j,a,c,aE,aF,aC,aG,.slice (some ⟨b,l,none⟩) m c2]] w fun w' e w''=> ∃p' cap' q' c2',e= .returned (.agg #[aA,aB,.slice p' n cap',a,c,aE,aF,aC,aG,.slice q' m c2'])∧w''.ownsRow w'.heap.size TI 1 (.slice p' n cap') n (ivs xs)∧w''.ownsRow w'.heap.size TV 4 (.slice q' m c2') m (vs.flatMap aD)∧Ext w' w'')
  (HP:xC 85 #[aH aA aB p n j,o] w fun w' e w''=> ∃p' cap',e= .returned (.tuple #[aH aA aB p' n cap',f])∧w''.ownsRow w'.heap.size TI 1 (.slice p' n cap') n (ivs ys)∧Ext w' w'')
  (HF:xC 86 #[.agg #[aA,aB,.slice p n j,a,c,aE,aF,aC,aG,.slice (some ⟨b,l,none⟩) m c2],o] w fun w' e w''=>e= .returned (.int .i64 (k:Int))∧Ext w' w'')
  (HM:xB 87 #[.agg #[aA,aB,.slice p n j,a,c,aE,aF,aC,aG,.slice (some ⟨b,l,none⟩) m c2],o] w true):
  Calls Tryz.prog 38 #[.agg #[aA,aB,.slice p n j,a,c,aE,aF,aC,aG,.slice (some ⟨b,l,none⟩) m c2],.agg #[.int .i64 2,o,ag]] w fun e w'=> ∃p' cap' q' c2',e= .returned (.tuple #[.agg #[aA,aB,.slice p' n cap',a,c,aE,aF,aC,aG,.slice q' (m-1) c2'],f,.bool true])∧w'.ownsRow w.heap.size TI 1 (.slice p' n cap') n (ivs ys)∧w'.ownsRow w.heap.size TV 4 (.slice q' (m-1) c2') (m-1) ((vs.take k++vs.drop (k+1)).flatMap aD)∧Ext w w':=by
 go_enter Tryz.func38,Tryz.ntmps38;go_wp2_with fail;refine(bu _ ((((Mem.start w).c0 aL #[aA,aB,.slice p n j,a,c,aE,aF,aC,aG,.slice (some ⟨b,l,none⟩) m c2]).c1 THD #[.int .i64 2,o,ag]).c2 aL zT).ext).mono ?_;rintro e w1 ⟨rfl,bx⟩;have M1:=(((((Mem.start w).c0 aL #[aA,aB,.slice p n j,a,c,aE,aF,aC,aG,.slice (some ⟨b,l,none⟩) m c2]).c1 THD #[.int .i64 2,o,ag]).c2 aL zT).adv bx)
 have a2:=M1.hi 0;have a3:=M1.hi 1;have a4:=M1.hi 2;clear bx bu;obtain⟨s,t,u,x,y,z,aa,ab,ad,q⟩:=(M1.bk 2).ten;go_wp2_with fail;clear s t u x y z aa ab ad q;refine(HL _ M1.ext).mono ?_;rintro e w2 ⟨p1,ah,q1,r,rfl,ho,hq,hx⟩;have M2:=(M1.own2 hx ho hq (Nat.le_refl _) (by decide))
 clear M1 a2 a3 a4 hx ho hq;have a5:=M2.hi 2;have a6:=M2.hi 3;have a7:=M2.hi 4;obtain⟨s,t,u,x,y,z,aa,ab,ad,q⟩:=(M2.bk 4).ten;obtain⟨ai,aj,ak⟩:=(M2.bk 3).tri;go_wp2_with fail;clear s t u x y z aa ab ad q ai aj ak;refine(HP _ (M2.c0 aL #[aA,aB,.slice p1 n ah,a,c,aE,aF,aC,aG,.slice q1 m r]).ext).mono ?_;rintro e w3 ⟨p5,d,rfl,ho,hx⟩;have M3:=((M2.c0 aL #[aA,aB,.slice p1 n ah,a,c,aE,aF,aC,aG,.slice q1 m r]).call hx ho)
 clear M2 a5 a6 a7 hx ho HP;have a8:=M3.hi 1;have a9:=M3.hi 4;have ba:=M3.hi 5;have bb:=M3.hi 6;obtain⟨s,t,u,x,y,z,aa,ab,ad,q⟩:=(M3.bk 6).ten;obtain⟨ai,aj,ak⟩:=(M3.bk 5).tri;go_wp2_with fail;clear s t u x y z aa ab ad q ai aj ak;refine(HF _ (M3.c0 TH3 #[aA,aB,.slice p5 n d]).ext).mono ?_;rintro e w4 ⟨rfl,bz⟩;have M4:=((M3.c0 TH3 #[aA,aB,.slice p5 n d]).adv bz)
 clear M3 a8 a9 ba bb bz HF;have bc:=M4.hi 0;have bd:=M4.hi 2;have be:=M4.hi 5;have bf:=M4.hi 6;have bg:=M4.hi 7;obtain⟨s,t,u,x,y,z,aa,ab,ad,q⟩:=(M4.bk 7).ten;obtain⟨ai,aj,ak⟩:=(M4.bk 6).tri;go_wp2_with fail;clear s t u x y z aa ab ad q ai aj ak;refine(HM _ M4.ext).mono ?_;rintro e w5 ⟨rfl,b0⟩;have M5:=(M4.adv b0)
 clear M4 bc bd be bf bg b0 HM;have bh:=M5.hi 0;have bi:=M5.hi 2;have bj:=M5.hi 5;have bl:=M5.hi 6;have bm:=M5.hi 7;have hd:decide (f<0)=false:=by simp;omega
 have cp:decide (0≤f)=true:=by simp;omega
 clear HL;obtain⟨d0,aq,d1,ar,d2,au,d3,av,d4,aw,d5,ax,d6,ay,d7,az,d8,a0,d9,a1⟩:=(M5.bk 2).tenf;obtain⟨cd,ce,cf⟩:=(M5.bk 0).tri;obtain⟨g,h⟩:=M5.nq 0 2;go_upto_region 22 with fail;clear d0 aq d1 ar d2 au d3 av d4 aw d5 ax d6 ay d7 az d8 a0 d9 a1 cd ce cf g h bh bi bj bl bm;have M6:=(((M5.st 2 0 (.int .i64 aA)).st 2 1 (.int .i64 aB)).st 2 2 (.slice p5 n d))
 generalize al:World.setCell _ _ _=w6;rw[al]at M6;clear al M5;have bo:=M6.hi 0;have bq:=M6.hi 2;have bs:=M6.hi 5;have ae:=M6.hi 6;have af:=M6.hi 7;have q:=(M6.bk 7).cl 9;obtain⟨d0,aq,d1,ar,d2,au,d3,av,d4,aw,d5,ax,d6,ay,d7,az,d8,a0,d9,a1⟩:=(M6.bk 2).tenf;obtain⟨g,h⟩:=M6.nq 2 7;obtain⟨am,an⟩:=M6.nq 5 7;obtain⟨ao,ap⟩:=M6.nq 2 5;have i1:(0:Int)≤(k:Int):=by omega
 have i2:(k:Int)≤(m:Int):=by omega
 have i3:(k:Int)≤(c2:Int):=by omega
 have i4:(k:Int)+1≤(m:Int):=by omega
 have i5:(0:Int)≤(k:Int)+1:=by omega
 have i6:((k:Int)+1).toNat=k+1:=by omega
 have i7:IntKind.i64.wrap ((k:Int)+1)=(k:Int)+1:=IntWalk.i64_in _ (by omega);have cc: ¬c2=k+1:=by omega
 have cb: ¬c2=0:=by omega
 go_cut [] (fun wx=> ∃(q9:OA) (c9:Nat),Mem w wx [aJ w.heap.size TV 4 (q9) (m-1) (c9) ((vs.take k++vs.drop (k+1)).flatMap aD),aI w.heap.size (w3.heap.size) TH3 #[aA,aB,.slice p5 n d],aJ w.heap.size TI 1 (p5) (n) (d) (ivs ys),aI w.heap.size (w2.heap.size) aL #[aA,aB,.slice p5 n d,a,c,aE,aF,aC,aG,.slice q9 (m-1) c9],aJ w.heap.size TI 1 (p1) (n) (ah) (ivs xs),aJ w.heap.size TV 4 (q1) (m) (r) (vs.flatMap aD),aI w.heap.size (w.heap.size+1+1) aL #[(),(),((),()),(),(),(),(),(),(),((),())],aI w.heap.size (w.heap.size+1) THD #[.int .i64 2,o,ag],aI w.heap.size (w.heap.size) aL #[aA,aB,.slice p n j,a,c,aE,aF,aC,aG,.slice (some ⟨b,l,none⟩) m c2]])
 case first=>
  go_region_law ((first
   |(refine fL rQ (by rfl) _ _ (by rfl) (by first|exact M6.made0 TV 4 w6.heap.size (by simp)|exact(M6.made0 TV 4 w6.heap.size (by simp)).adv (by exact .drew (.refl _))|exact(M6.adv xE).made0 TV 4 w6.heap.size (by simp)) 0 (by rfl) (by rfl) ((vs.take k).flatMap aD) (by rfl) (aA1 (HS.out.ext (M6.ext.trans (by exact .drew (.alloc (.refl _) _)))) (by omega)) (eL _) (by omega) ?_
     intro q7 c7 w7 bv;have M7:=(show Mem w w7 [aJ w.heap.size TV 4 (q7) (k) (c7) ((vs.take k).flatMap aD),aI w.heap.size (w3.heap.size) TH3 #[aA,aB,.slice p5 n d],aJ w.heap.size TI 1 (p5) (n) (d) (ivs ys),aI w.heap.size (w2.heap.size) aL #[aA,aB,.slice p5 n d,a,c,aE,aF,aC,aG,.slice q1 m r],aJ w.heap.size TI 1 (p1) (n) (ah) (ivs xs),aJ w.heap.size TV 4 (q1) (m) (r) (vs.flatMap aD),aI w.heap.size (w.heap.size+1+1) aL #[(),(),((),()),(),(),(),(),(),(),((),())],aI w.heap.size (w.heap.size+1) THD #[.int .i64 2,o,ag],aI w.heap.size (w.heap.size) aL #[aA,aB,.slice p n j,a,c,aE,aF,aC,aG,.slice (some ⟨b,l,none⟩) m c2]]from by simpa only[List.set_cons_zero,Nat.zero_add,List.nil_append]using bv)
     clear bv;have ci:=(M7.bk 8).cl 9;have cj:=(M7.bk 3).cl 9;have cg:=(M7.bk 3).frozen 9;have ck:w.heap.size<w7.heap.size:=(M7.hi 8)
     have cm:w2.heap.size<w7.heap.size:=(M7.hi 3))
   |(refine fL rQ (by rfl) _ _ (by rfl) (M7.adv (by exact .refl _)) 0 (by rfl) (by rfl) ((vs.drop (k+1)).flatMap aD) (by rfl) (jO (k+1) vs▸aA2 (HS.out.ext (M7.ext.trans (by exact .refl _))) (by omega)) (eL _) (by omega) ?_
     intro q9 c9 w9 bw;have M9:=(show Mem w w9 [aJ w.heap.size TV 4 (q9) (k+(m-(k+1))) (c9) ((vs.take k).flatMap aD++(vs.drop (k+1)).flatMap aD),aI w.heap.size (w3.heap.size) TH3 #[aA,aB,.slice p5 n d],aJ w.heap.size TI 1 (p5) (n) (d) (ivs ys),aI w.heap.size (w2.heap.size) aL #[aA,aB,.slice p5 n d,a,c,aE,aF,aC,aG,.slice q1 m r],aJ w.heap.size TI 1 (p1) (n) (ah) (ivs xs),aJ w.heap.size TV 4 (q1) (m) (r) (vs.flatMap aD),aI w.heap.size (w.heap.size+1+1) aL #[(),(),((),()),(),(),(),(),(),(),((),())],aI w.heap.size (w.heap.size+1) THD #[.int .i64 2,o,ag],aI w.heap.size (w.heap.size) aL #[aA,aB,.slice p n j,a,c,aE,aF,aC,aG,.slice (some ⟨b,l,none⟩) m c2]]from bw)
     clear bw;have cn:=(M9.bk 8).cl 9;have cq:=(M9.bk 3).cl 9;have ch:=(M9.bk 3).frozen 9;have cr:w.heap.size<w9.heap.size:=(M9.hi 8)
     have cs:w2.heap.size<w9.heap.size:=(M9.hi 3))))
  all_goals (
   have e1:k+(m-(k+1))=m-1:=by omega
   have e2:(vs.take k).flatMap aD++(vs.drop (k+1)).flatMap aD=(vs.take k++vs.drop (k+1)).flatMap aD:=by simp
   have i8:(k:Int)+((m-(k+1):Nat):Int)=((m-1:Nat):Int):=by omega
   have MZ:=(show Mem w w9 [aJ w.heap.size TV 4 (q9) (m-1) (c9) ((vs.take k++vs.drop (k+1)).flatMap aD),aI w.heap.size (w3.heap.size) TH3 #[aA,aB,.slice p5 n d],aJ w.heap.size TI 1 (p5) (n) (d) (ivs ys),aI w.heap.size (w2.heap.size) aL #[aA,aB,.slice p5 n d,a,c,aE,aF,aC,aG,.slice q1 m r],aJ w.heap.size TI 1 (p1) (n) (ah) (ivs xs),aJ w.heap.size TV 4 (q1) (m) (r) (vs.flatMap aD),aI w.heap.size (w.heap.size+1+1) aL #[(),(),((),()),(),(),(),(),(),(),((),())],aI w.heap.size (w.heap.size+1) THD #[.int .i64 2,o,ag],aI w.heap.size (w.heap.size) aL #[aA,aB,.slice p n j,a,c,aE,aF,aC,aG,.slice (some ⟨b,l,none⟩) m c2]]from by have:=M9;rw[e2]at this;simpa only[e1]using this)
   clear e2 M9 M7)
  all_goals go_wp2_with fail
  all_goals go_meet
  all_goals exact⟨q9,c9,by first|exact(MZ.store (i:=3) rfl 9 (.slice q9 (m-1) c9))|(simp only[e1];exact(MZ.store (i:=3) rfl 9 (.slice q9 (m-1) c9)))⟩
 case rest=>
  obtain⟨q9,c9,MC⟩:=hcut;have MC:=xQ MC;clear M6 i1 i2 i3 i4 i5 i6 i7 cc cb q d0 aq d1 ar d2 au d3 av d4 aw d5 ax d6 ay d7 az d8 a0 d9 a1 g h am an ao ap bo bq bs ae af;have bp:w3.heap.size<wc.heap.size:=(MC.out.hi 1)
  have br:w2.heap.size<wc.heap.size:=(MC.out.hi 3)
  have ae:w.heap.size+1+1<wc.heap.size:=(MC.out.hi 6)
  have af:w.heap.size+1<wc.heap.size:=(MC.out.hi 7)
  have bt:w.heap.size<wc.heap.size:=(MC.out.hi 8)
  obtain⟨e0,e1,e2,e3,e4,e5,e6,e7,e8,e9⟩:=(MC.out.bk 3).ten;obtain⟨f0,b1,f1,b2,f2,b3,f3,b4,f4,b5,f5,b6,f6,b7,f7,b8,f8,b9,f9,ca⟩:=(MC.out.bk 6).tenf;obtain⟨g,h⟩:=MC.out.nq 3 6;go_upto_region 33 with fail;go_wp2;clear e0 e1 e2 e3 e4 e5 e6 e7 e8 e9 f0 b1 f1 b2 f2 b3 f3 b4 f4 b5 f5 b6 f6 b7 f7 b8 f8 b9 f9 ca g h bp br ae af bt;have M7:=(MC.out.put10 (i:=6) rfl (.int .i64 aA) (.int .i64 aB) (.slice p5 n d) (.int .i64 a) (.int .i64 c) (.int .i64 aE) (.int .i64 aF) (.int .i64 aC) (.int .i64 aG) (.slice q9 (m-1) c9))
  generalize al:World.setCell _ _ _=wz;rw[al]at M7;clear al MC;obtain⟨y0,y1,y2,y3,y4,y5,y6,y7,y8,y9⟩:=(M7.bk 6).ten;exact bodyPost_ret (v:= .tuple #[.agg #[aA,aB,.slice p5 n d,a,c,aE,aF,aC,aG,.slice q9 (m-1) c9],f,.bool true]) (by simp[results,Tryz.results38,go_sem, *]) rfl ⟨p5,d,q9,c9,rfl,(M7.ow 2),(M7.ow 0),M7.ext⟩
theorem pM (aA aB a c aE aF aC aG f o ag:Int)(p:OA)(n l:Nat)(b m k:Nat)(xs ys:List Int)(vs:List aP)(w:World)(h0:0≤f)(hm:(k+1)≤1000)(cc:Hid (vs.drop (k+1)= []))(HS:Hid (Sl w (some ⟨b,m,none⟩) (k+1) (k+1) 4 (vs.flatMap aD)))
  (bu:xB 12 #[.agg #[aA,aB,.slice p n l,a,c,aE,aF,aC,aG,.slice (some ⟨b,m,none⟩) (k+1) (k+1)]] w true)
  (HL:xC 37 #[.agg #[aA,aB,.slice p n l,a,c,aE,aF,aC,aG,.slice (some ⟨b,m,none⟩) (k+1) (k+1)]] w fun w' e w''=> ∃p' cap' q' c2',e= .returned (.agg #[aA,aB,.slice p' n cap',a,c,aE,aF,aC,aG,.slice q' (k+1) c2'])∧w''.ownsRow w'.heap.size TI 1 (.slice p' n cap') n (ivs xs)∧w''.ownsRow w'.heap.size TV 4 (.slice q' (k+1) c2') (k+1) (vs.flatMap aD)∧Ext w' w'')
  (HP:xC 85 #[aH aA aB p n l,o] w fun w' e w''=> ∃p' cap',e= .returned (.tuple #[aH aA aB p' n cap',f])∧w''.ownsRow w'.heap.size TI 1 (.slice p' n cap') n (ivs ys)∧Ext w' w'')
  (HF:xC 86 #[.agg #[aA,aB,.slice p n l,a,c,aE,aF,aC,aG,.slice (some ⟨b,m,none⟩) (k+1) (k+1)],o] w fun w' e w''=>e= .returned (.int .i64 (k:Int))∧Ext w' w'')
  (HM:xB 87 #[.agg #[aA,aB,.slice p n l,a,c,aE,aF,aC,aG,.slice (some ⟨b,m,none⟩) (k+1) (k+1)],o] w true):
  Calls Tryz.prog 38 #[.agg #[aA,aB,.slice p n l,a,c,aE,aF,aC,aG,.slice (some ⟨b,m,none⟩) (k+1) (k+1)],.agg #[.int .i64 2,o,ag]] w fun e w'=> ∃p' cap' q' c2',e= .returned (.tuple #[.agg #[aA,aB,.slice p' n cap',a,c,aE,aF,aC,aG,.slice q' (k) c2'],f,.bool true])∧w'.ownsRow w.heap.size TI 1 (.slice p' n cap') n (ivs ys)∧w'.ownsRow w.heap.size TV 4 (.slice q' (k) c2') (k) ((vs.take k++vs.drop (k+1)).flatMap aD)∧Ext w w':=by
 go_enter Tryz.func38,Tryz.ntmps38;go_wp2_with fail;refine(bu _ ((((Mem.start w).c0 aL #[aA,aB,.slice p n l,a,c,aE,aF,aC,aG,.slice (some ⟨b,m,none⟩) (k+1) (k+1)]).c1 THD #[.int .i64 2,o,ag]).c2 aL zT).ext).mono ?_;rintro e w1 ⟨rfl,bx⟩;have M1:=(((((Mem.start w).c0 aL #[aA,aB,.slice p n l,a,c,aE,aF,aC,aG,.slice (some ⟨b,m,none⟩) (k+1) (k+1)]).c1 THD #[.int .i64 2,o,ag]).c2 aL zT).adv bx)
 have a2:=M1.hi 0;have a3:=M1.hi 1;have a4:=M1.hi 2;clear bx bu;obtain⟨s,t,u,x,y,z,aa,ab,ad,q⟩:=(M1.bk 2).ten;go_wp2_with fail;clear s t u x y z aa ab ad q;refine(HL _ M1.ext).mono ?_;rintro e w2 ⟨p1,ah,q1,r,rfl,ho,hq,hx⟩;have M2:=(M1.own2 hx ho hq (Nat.le_refl _) (by decide))
 clear M1 a2 a3 a4 hx ho hq;have a5:=M2.hi 2;have a6:=M2.hi 3;have a7:=M2.hi 4;obtain⟨s,t,u,x,y,z,aa,ab,ad,q⟩:=(M2.bk 4).ten;obtain⟨ai,aj,ak⟩:=(M2.bk 3).tri;go_wp2_with fail;clear s t u x y z aa ab ad q ai aj ak;refine(HP _ (M2.c0 aL #[aA,aB,.slice p1 n ah,a,c,aE,aF,aC,aG,.slice q1 (k+1) r]).ext).mono ?_;rintro e w3 ⟨p5,d,rfl,ho,hx⟩;have M3:=((M2.c0 aL #[aA,aB,.slice p1 n ah,a,c,aE,aF,aC,aG,.slice q1 (k+1) r]).call hx ho)
 clear M2 a5 a6 a7 hx ho HP;have a8:=M3.hi 1;have a9:=M3.hi 4;have ba:=M3.hi 5;have bb:=M3.hi 6;obtain⟨s,t,u,x,y,z,aa,ab,ad,q⟩:=(M3.bk 6).ten;obtain⟨ai,aj,ak⟩:=(M3.bk 5).tri;go_wp2_with fail;clear s t u x y z aa ab ad q ai aj ak;refine(HF _ (M3.c0 TH3 #[aA,aB,.slice p5 n d]).ext).mono ?_;rintro e w4 ⟨rfl,bz⟩;have M4:=((M3.c0 TH3 #[aA,aB,.slice p5 n d]).adv bz)
 clear M3 a8 a9 ba bb bz HF;have bc:=M4.hi 0;have bd:=M4.hi 2;have be:=M4.hi 5;have bf:=M4.hi 6;have bg:=M4.hi 7;obtain⟨s,t,u,x,y,z,aa,ab,ad,q⟩:=(M4.bk 7).ten;obtain⟨ai,aj,ak⟩:=(M4.bk 6).tri;go_wp2_with fail;clear s t u x y z aa ab ad q ai aj ak;refine(HM _ M4.ext).mono ?_;rintro e w5 ⟨rfl,b0⟩;have M5:=(M4.adv b0)
 clear M4 bc bd be bf bg b0 HM;have bh:=M5.hi 0;have bi:=M5.hi 2;have bj:=M5.hi 5;have bl:=M5.hi 6;have bm:=M5.hi 7;have hd:decide (f<0)=false:=by simp;omega
 have co:decide (0≤f)=true:=by simp;omega
 clear HL;obtain⟨d0,aq,d1,ar,d2,au,d3,av,d4,aw,d5,ax,d6,ay,d7,az,d8,a0,d9,a1⟩:=(M5.bk 2).tenf;obtain⟨cd,ce,cf⟩:=(M5.bk 0).tri;obtain⟨g,j⟩:=M5.nq 0 2;go_upto_region 22 with fail;clear d0 aq d1 ar d2 au d3 av d4 aw d5 ax d6 ay d7 az d8 a0 d9 a1 cd ce cf g j bh bi bj bl bm;have M6:=(((M5.st 2 0 (.int .i64 aA)).st 2 1 (.int .i64 aB)).st 2 2 (.slice p5 n d))
 generalize al:World.setCell _ _ _=w6;rw[al]at M6;clear al M5;have bo:=M6.hi 0;have bq:=M6.hi 2;have bs:=M6.hi 5;have ae:=M6.hi 6;have af:=M6.hi 7;have q:=(M6.bk 7).cl 9;obtain⟨d0,aq,d1,ar,d2,au,d3,av,d4,aw,d5,ax,d6,ay,d7,az,d8,a0,d9,a1⟩:=(M6.bk 2).tenf;obtain⟨g,j⟩:=M6.nq 2 7;obtain⟨am,an⟩:=M6.nq 5 7;obtain⟨ao,ap⟩:=M6.nq 2 5;have i1:(0:Int)≤(k:Int):=by omega
 have i2:(k:Int)≤((k+1):Int):=by omega
 have i3:(k:Int)≤((k+1):Int):=by omega
 have i4:(k:Int)+1≤((k+1):Int):=by omega
 have i5:(0:Int)≤(k:Int)+1:=by omega
 have i6:((k:Int)+1).toNat=k+1:=by omega
 have i7:IntKind.i64.wrap ((k:Int)+1)=(k:Int)+1:=IntWalk.i64_in _ (by omega);have cb: ¬(k+1)=0:=by omega
 go_cut [] (fun wx=> ∃(q9:OA) (c9:Nat),Mem w wx [aJ w.heap.size TV 4 (q9) (k) (c9) ((vs.take k++vs.drop (k+1)).flatMap aD),aI w.heap.size (w3.heap.size) TH3 #[aA,aB,.slice p5 n d],aJ w.heap.size TI 1 (p5) (n) (d) (ivs ys),aI w.heap.size (w2.heap.size) aL #[aA,aB,.slice p5 n d,a,c,aE,aF,aC,aG,.slice q9 (k) c9],aJ w.heap.size TI 1 (p1) (n) (ah) (ivs xs),aJ w.heap.size TV 4 (q1) (k+1) (r) (vs.flatMap aD),aI w.heap.size (w.heap.size+1+1) aL #[(),(),((),()),(),(),(),(),(),(),((),())],aI w.heap.size (w.heap.size+1) THD #[.int .i64 2,o,ag],aI w.heap.size (w.heap.size) aL #[aA,aB,.slice p n l,a,c,aE,aF,aC,aG,.slice (some ⟨b,m,none⟩) (k+1) (k+1)]])
 case first=>
  go_region_law ((first
   |(refine fL rQ (by rfl) _ _ (by rfl) (by first|exact M6.made0 TV 4 w6.heap.size (by simp)|exact(M6.made0 TV 4 w6.heap.size (by simp)).adv (by exact .drew (.refl _))|exact(M6.adv xE).made0 TV 4 w6.heap.size (by simp)) 0 (by rfl) (by rfl) ((vs.take k).flatMap aD) (by rfl) (aA1 (HS.out.ext (M6.ext.trans (by exact .drew (.alloc (.refl _) _)))) (by omega)) (eL _) (by omega) ?_
     intro q7 c7 w7 bv;have M7:=(show Mem w w7 [aJ w.heap.size TV 4 (q7) (k) (c7) ((vs.take k).flatMap aD),aI w.heap.size (w3.heap.size) TH3 #[aA,aB,.slice p5 n d],aJ w.heap.size TI 1 (p5) (n) (d) (ivs ys),aI w.heap.size (w2.heap.size) aL #[aA,aB,.slice p5 n d,a,c,aE,aF,aC,aG,.slice q1 (k+1) r],aJ w.heap.size TI 1 (p1) (n) (ah) (ivs xs),aJ w.heap.size TV 4 (q1) (k+1) (r) (vs.flatMap aD),aI w.heap.size (w.heap.size+1+1) aL #[(),(),((),()),(),(),(),(),(),(),((),())],aI w.heap.size (w.heap.size+1) THD #[.int .i64 2,o,ag],aI w.heap.size (w.heap.size) aL #[aA,aB,.slice p n l,a,c,aE,aF,aC,aG,.slice (some ⟨b,m,none⟩) (k+1) (k+1)]]from by simpa only[List.set_cons_zero,Nat.zero_add,List.nil_append]using bv)
     clear bv;have ci:=(M7.bk 8).cl 9;have cj:=(M7.bk 3).cl 9;have cg:=(M7.bk 3).frozen 9;have ck:w.heap.size<w7.heap.size:=(M7.hi 8)
     have cm:w2.heap.size<w7.heap.size:=(M7.hi 3))
   |(refine fL rQ (by rfl) _ _ (by rfl) (M7.adv (by exact .refl _)) 0 (by rfl) (by rfl) (([]:List aP).flatMap aD) (by rfl) (⟨by simp,Nat.zero_le _,by have:=HS.out.mx;omega,fun h=>absurd h (by omega)⟩) (eL _) (by omega) ?_
     intro q9 c9 w9 bw;have M9:=(show Mem w w9 [aJ w.heap.size TV 4 (q9) (k+(0)) (c9) ((vs.take k).flatMap aD++([]:List aP).flatMap aD),aI w.heap.size (w3.heap.size) TH3 #[aA,aB,.slice p5 n d],aJ w.heap.size TI 1 (p5) (n) (d) (ivs ys),aI w.heap.size (w2.heap.size) aL #[aA,aB,.slice p5 n d,a,c,aE,aF,aC,aG,.slice q1 (k+1) r],aJ w.heap.size TI 1 (p1) (n) (ah) (ivs xs),aJ w.heap.size TV 4 (q1) (k+1) (r) (vs.flatMap aD),aI w.heap.size (w.heap.size+1+1) aL #[(),(),((),()),(),(),(),(),(),(),((),())],aI w.heap.size (w.heap.size+1) THD #[.int .i64 2,o,ag],aI w.heap.size (w.heap.size) aL #[aA,aB,.slice p n l,a,c,aE,aF,aC,aG,.slice (some ⟨b,m,none⟩) (k+1) (k+1)]]from bw)
     clear bw;have cn:=(M9.bk 8).cl 9;have cp:=(M9.bk 3).cl 9;have ch:=(M9.bk 3).frozen 9;have cq:w.heap.size<w9.heap.size:=(M9.hi 8)
     have cr:w2.heap.size<w9.heap.size:=(M9.hi 3))))
  all_goals (
   have e1:k+(0)=k:=by omega
   have e2:(vs.take k).flatMap aD++([]:List aP).flatMap aD=(vs.take k++vs.drop (k+1)).flatMap aD:=by rw[cc.out];simp
   skip;have MZ:=(show Mem w w9 [aJ w.heap.size TV 4 (q9) (k) (c9) ((vs.take k++vs.drop (k+1)).flatMap aD),aI w.heap.size (w3.heap.size) TH3 #[aA,aB,.slice p5 n d],aJ w.heap.size TI 1 (p5) (n) (d) (ivs ys),aI w.heap.size (w2.heap.size) aL #[aA,aB,.slice p5 n d,a,c,aE,aF,aC,aG,.slice q1 (k+1) r],aJ w.heap.size TI 1 (p1) (n) (ah) (ivs xs),aJ w.heap.size TV 4 (q1) (k+1) (r) (vs.flatMap aD),aI w.heap.size (w.heap.size+1+1) aL #[(),(),((),()),(),(),(),(),(),(),((),())],aI w.heap.size (w.heap.size+1) THD #[.int .i64 2,o,ag],aI w.heap.size (w.heap.size) aL #[aA,aB,.slice p n l,a,c,aE,aF,aC,aG,.slice (some ⟨b,m,none⟩) (k+1) (k+1)]]from by have:=M9;rw[e2]at this;simpa only[e1]using this)
   clear e2 M9 M7)
  all_goals go_wp2_with fail
  all_goals go_meet
  all_goals exact⟨q9,c9,by first|exact(MZ.store (i:=3) rfl 9 (.slice q9 (k) c9))|(simp only[e1];exact(MZ.store (i:=3) rfl 9 (.slice q9 (k) c9)))⟩
 case rest=>
  obtain⟨q9,c9,MC⟩:=hcut;have MC:=xQ MC;clear M6 i1 i2 i3 i4 i5 i6 i7 cb q d0 aq d1 ar d2 au d3 av d4 aw d5 ax d6 ay d7 az d8 a0 d9 a1 g j am an ao ap bo bq bs ae af;have bp:w3.heap.size<wc.heap.size:=(MC.out.hi 1)
  have br:w2.heap.size<wc.heap.size:=(MC.out.hi 3)
  have ae:w.heap.size+1+1<wc.heap.size:=(MC.out.hi 6)
  have af:w.heap.size+1<wc.heap.size:=(MC.out.hi 7)
  have bt:w.heap.size<wc.heap.size:=(MC.out.hi 8)
  obtain⟨e0,e1,e2,e3,e4,e5,e6,e7,e8,e9⟩:=(MC.out.bk 3).ten;obtain⟨f0,b1,f1,b2,f2,b3,f3,b4,f4,b5,f5,b6,f6,b7,f7,b8,f8,b9,f9,ca⟩:=(MC.out.bk 6).tenf;obtain⟨g,j⟩:=MC.out.nq 3 6;go_upto_region 33 with fail;go_wp2;clear e0 e1 e2 e3 e4 e5 e6 e7 e8 e9 f0 b1 f1 b2 f2 b3 f3 b4 f4 b5 f5 b6 f6 b7 f7 b8 f8 b9 f9 ca g j bp br ae af bt;have M7:=(MC.out.put10 (i:=6) rfl (.int .i64 aA) (.int .i64 aB) (.slice p5 n d) (.int .i64 a) (.int .i64 c) (.int .i64 aE) (.int .i64 aF) (.int .i64 aC) (.int .i64 aG) (.slice q9 (k) c9))
  generalize al:World.setCell _ _ _=wz;rw[al]at M7;clear al MC;obtain⟨y0,y1,y2,y3,y4,y5,y6,y7,y8,y9⟩:=(M7.bk 6).ten;exact bodyPost_ret (v:= .tuple #[.agg #[aA,aB,.slice p5 n d,a,c,aE,aF,aC,aG,.slice q9 (k) c9],f,.bool true]) (by simp[results,Tryz.results38,go_sem, *]) rfl ⟨p5,d,q9,c9,rfl,(M7.ow 2),(M7.ow 0),M7.ext⟩
end Go.Proofs.YtpelpnfhbepokaaGreatDoor
