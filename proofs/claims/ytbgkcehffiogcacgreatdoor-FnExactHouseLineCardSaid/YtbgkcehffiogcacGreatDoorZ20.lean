/-
  Texts of this proof, packed (@packed).
-/
import Derived.Test.YtbgkcehffiogcacGreatDoorZ19
namespace Go.Proofs.YtbgkcehffiogcacGreatDoor
open Go.RowKit
set_option linter.unusedSimpArgs false
set_option linter.unusedVariables false
set_option maxHeartbeats 8000000
set_option maxRecDepth 100000
section
open Go.Proofs.Tryz
theorem vF (aA aB a b aD aF aC aG s ix x ar:Int)(p:OA)(n cap:Nat)(q:OA)(m c2:Nat)(xs ys:List Int)(vs:List aP)(w:World)(mb:Bool)(a1:mb=true→s<0)
  (au:xB 21 #[.agg #[aA,aB,.slice p n cap,a,b,aD,aF,aC,aG,.slice q m c2]] w true)
  (HL:xC 26 #[.agg #[aA,aB,.slice p n cap,a,b,aD,aF,aC,aG,.slice q m c2]] w fun w' e w''=> ∃p' cap' q' c2',e= .returned (.agg #[aA,aB,.slice p' n cap',a,b,aD,aF,aC,aG,.slice q' m c2'])∧w''.ownsRow w' TI 1 (.slice p' n cap') n (ivs xs)∧w''.ownsRow w' TV 4 (.slice q' m c2') m (vs.flatMap aE)∧Ext w' w'')
  (HP:xC 59 #[aH aA aB p n cap,x] w fun w' e w''=> ∃p' cap',e= .returned (.tuple #[aH aA aB p' n cap',s])∧w''.ownsRow w' TI 1 (.slice p' n cap') n (ivs ys)∧Ext w' w'')
  (HF:xC 60 #[.agg #[aA,aB,.slice p n cap,a,b,aD,aF,aC,aG,.slice q m c2],x] w fun w' e w''=>e= .returned (I (ix))∧Ext w' w'')
  (HM:xB 61 #[.agg #[aA,aB,.slice p n cap,a,b,aD,aF,aC,aG,.slice q m c2],x] w mb):
  U 23 #[.agg #[aA,aB,.slice p n cap,a,b,aD,aF,aC,aG,.slice q m c2],.agg #[I 2,x,ar]] w fun e w'=> ∃p' cap' q' c2',e= .returned (.tuple #[.agg #[aA,aB,.slice p' n cap',a,b,aD,aF,aC,aG,.slice q' m c2'],(-1:Int),.bool false])∧w'.ownsRow w TI 1 (.slice p' n cap') n (ivs xs)∧w'.ownsRow w TV 4 (.slice q' m c2') m (vs.flatMap aE)∧Ext w w':=by
 go_enter func23,ntmps23;go_wp2_with fail;refine Z (au _ ((((Mem.start w).c0 aK #[aA,aB,.slice p n cap,a,b,aD,aF,aC,aG,.slice q m c2]).c1 THD #[I 2,x,ar]).c2 aK zT).ext) fun w1 ay=>?_
 have M1:=(((((Mem.start w).c0 aK #[aA,aB,.slice p n cap,a,b,aD,aF,aC,aG,.slice q m c2]).c1 THD #[I 2,x,ar]).c2 aK zT).adv ay)
 clear ay au;obtain⟨c,d,f,g,h,j,k,l,o,r⟩:=(M1.bk 2).ten;go_wp2_with fail;clear c d f g h j k l o r;refine(HL _ M1.ext).mono ?_;rintro e w2 ⟨p1,av,q1,ax,rfl,ho,hq,hx⟩;have M2:=(M1.own2 hx ho hq (aQn _) (by decide))
 clear M1 hx ho hq;have an:=M2.hi 3;have ao:=M2.hi 4;obtain⟨c,d,f,g,h,j,k,l,o,r⟩:=(M2.bk 4).ten;obtain⟨y,z,aa⟩:=(M2.bk 3).tri;go_wp2_with fail;clear c d f g h j k l o r y z aa;refine(HP _ (M2.c0 aK #[aA,aB,.slice p1 n av,a,b,aD,aF,aC,aG,.slice q1 m ax]).ext).mono ?_;rintro e w3 ⟨p5,aw,rfl,ho,hx⟩;have M3:=((M2.c0 aK #[aA,aB,.slice p1 n av,a,b,aD,aF,aC,aG,.slice q1 m ax]).call hx ho)
 clear M2 an ao hx ho HP;have ap:=M3.hi 5;have aq:=M3.hi 6;obtain⟨c,d,f,g,h,j,k,l,o,r⟩:=(M3.bk 6).ten;obtain⟨y,z,aa⟩:=(M3.bk 5).tri;go_wp2_with fail;clear c d f g h j k l o r y z aa;refine Z (HF _ (M3.c0 TH3 #[aA,aB,.slice p5 n aw]).ext) fun w4 az=>?_
 have M4:=((M3.c0 TH3 #[aA,aB,.slice p5 n aw]).adv az)
 clear M3 ap aq az HF;obtain⟨c,d,f,g,h,j,k,l,o,r⟩:=(M4.bk 7).ten;obtain⟨y,z,aa⟩:=(M4.bk 6).tri;go_wp2_with fail;clear c d f g h j k l o r y z aa;refine Z (HM _ M4.ext) fun w5 a0=>?_
 have M5:=(M4.adv a0)
 clear M4 a0 HM;cases mb with
 |true=>
   have a2:decide (0≤s)=false:=by simp;have:=a1 rfl;omega
   obtain⟨c,d,f,g,h,j,k,l,o,r⟩:=(M5.bk 7).ten;go_wp2_with fail;clear c d f g h j k l o r;refine(HL _ M5.ext).mono ?_;rintro e w9 ⟨p9,t,q9,u,rfl,ho,hq,hx⟩;have M6:=(M5.own2 hx ho hq (aQn _) (by decide))
   clear M5 hx ho hq HL;obtain⟨f0,ad,f1,ae,f2,af,f3,ag,f4,ah,f5,ai,f6,aj,f7,ak,f8,al,f9,am⟩:=(M6.bk 7).tenf;go_wp2;clear f0 ad f1 ae f2 af f3 ag f4 ah f5 ai f6 aj f7 ak f8 al f9 am;have M7:=(M6.put10 (i:=7) rfl (I aA) (I aB) (.slice p9 n t) (I a) (I b) (I aD) (I aF) (I aC) (I aG) (.slice q9 m u))
   generalize ab:World.setCell _ _ _=wz;rw[ab]at M7;clear ab M6;obtain⟨y0,y1,y2,y3,y4,y5,y6,y7,y8,y9⟩:=(M7.bk 7).ten;exact bodyPost_ret (v:= .tuple #[.agg #[aA,aB,.slice p9 n t,a,b,aD,aF,aC,aG,.slice q9 m u],(-1:Int),.bool false]) (by simp[results,results23,go_sem, *]) rfl ⟨p9,t,q9,u,rfl,(M7.ow 0),(M7.ow 1),M7.ext⟩
 |false=>
   obtain⟨c,d,f,g,h,j,k,l,o,r⟩:=(M5.bk 7).ten;go_wp2_with fail;clear c d f g h j k l o r;refine(HL _ M5.ext).mono ?_;rintro e w9 ⟨p9,t,q9,u,rfl,ho,hq,hx⟩;have M6:=(M5.own2 hx ho hq (aQn _) (by decide))
   clear M5 hx ho hq HL;obtain⟨f0,ad,f1,ae,f2,af,f3,ag,f4,ah,f5,ai,f6,aj,f7,ak,f8,al,f9,am⟩:=(M6.bk 7).tenf;go_wp2;clear f0 ad f1 ae f2 af f3 ag f4 ah f5 ai f6 aj f7 ak f8 al f9 am;have M7:=(M6.put10 (i:=7) rfl (I aA) (I aB) (.slice p9 n t) (I a) (I b) (I aD) (I aF) (I aC) (I aG) (.slice q9 m u))
   generalize ab:World.setCell _ _ _=wz;rw[ab]at M7;clear ab M6;obtain⟨y0,y1,y2,y3,y4,y5,y6,y7,y8,y9⟩:=(M7.bk 7).ten;exact bodyPost_ret (v:= .tuple #[.agg #[aA,aB,.slice p9 n t,a,b,aD,aF,aC,aG,.slice q9 m u],(-1:Int),.bool false]) (by simp[results,results23,go_sem, *]) rfl ⟨p9,t,q9,u,rfl,(M7.ow 0),(M7.ow 1),M7.ext⟩
theorem aD2 {w:World}{b a n cap k:Nat}{vs:List aP}(h:Sl w (some ⟨b,a,none⟩) n cap 4 (vs.flatMap aE))(hk:k≤n):Sl w (some ⟨b,a,none⟩) k cap 4 ((vs.take k).flatMap aE):=by
 have hl:=h.len;have d:=h.le;have f:=h.mx;have e:(vs.take k).flatMap aE=(vs.flatMap aE).take (k*4):=by
  have h1:vs.flatMap aE=(vs.take k).flatMap aE++(vs.drop k).flatMap aE:=by rw[←aRh,List.take_append_drop]
  have h2:vs.length=n:=by rw[cQ aE 4 (fun _=>rfl)]at hl;omega
  have h3:((vs.take k).flatMap aE).length=k*4:=by rw[cQ aE 4 (fun _=>rfl),aRc];omega
  rw[h1,←h3,List.take_left]
 rw[e];refine⟨by rw[aRc,hl];omega,by omega,by omega,fun h0=> ?_⟩;obtain⟨b',c,e,hb,hc⟩:=h.rd (by omega);injection e with e;injection e with e1 e2;subst e1 e2;refine⟨_,_,rfl,hb,fun j hj=> ?_⟩;rw[hc j (by omega),List.getElem?_take,if_pos hj]
theorem tE (aA aB a c aD aF aC aG f h ab:Int)(p:OA)(n cap:Nat)(b g m c2 k:Nat)(xs ys:List Int)(vs:List aP)(w:World)(h0:0≤f)(hk:k<m)(hm:m≤1000)(bo:k+1<c2)(HS:Hid (Sl w (some ⟨b,g,none⟩) m c2 4 (vs.flatMap aE)))
  (ay:xB 21 #[.agg #[aA,aB,.slice p n cap,a,c,aD,aF,aC,aG,.slice (some ⟨b,g,none⟩) m c2]] w true)
  (HL:xC 26 #[.agg #[aA,aB,.slice p n cap,a,c,aD,aF,aC,aG,.slice (some ⟨b,g,none⟩) m c2]] w fun w' e w''=> ∃p' cap' q' c2',e= .returned (.agg #[aA,aB,.slice p' n cap',a,c,aD,aF,aC,aG,.slice q' m c2'])∧w''.ownsRow w' TI 1 (.slice p' n cap') n (ivs xs)∧w''.ownsRow w' TV 4 (.slice q' m c2') m (vs.flatMap aE)∧Ext w' w'')
  (HP:xC 59 #[aH aA aB p n cap,h] w fun w' e w''=> ∃p' cap',e= .returned (.tuple #[aH aA aB p' n cap',f])∧w''.ownsRow w' TI 1 (.slice p' n cap') n (ivs ys)∧Ext w' w'')
  (HF:xC 60 #[.agg #[aA,aB,.slice p n cap,a,c,aD,aF,aC,aG,.slice (some ⟨b,g,none⟩) m c2],h] w fun w' e w''=>e= .returned (I k)∧Ext w' w'')
  (HM:xB 61 #[.agg #[aA,aB,.slice p n cap,a,c,aD,aF,aC,aG,.slice (some ⟨b,g,none⟩) m c2],h] w true):
  U 23 #[.agg #[aA,aB,.slice p n cap,a,c,aD,aF,aC,aG,.slice (some ⟨b,g,none⟩) m c2],.agg #[I 2,h,ab]] w fun e w'=> ∃p' cap' q' c2',e= .returned (.tuple #[.agg #[aA,aB,.slice p' n cap',a,c,aD,aF,aC,aG,.slice q' (m-1) c2'],f,.bool true])∧w'.ownsRow w TI 1 (.slice p' n cap') n (ivs ys)∧w'.ownsRow w TV 4 (.slice q' (m-1) c2') (m-1) ((vs.take k++vs.drop (k+1)).flatMap aE)∧Ext w w':=by
 go_enter func23,ntmps23;go_wp2_with fail;refine Z (ay _ ((((Mem.start w).c0 aK #[aA,aB,.slice p n cap,a,c,aD,aF,aC,aG,.slice (some ⟨b,g,none⟩) m c2]).c1 THD #[I 2,h,ab]).c2 aK zT).ext) fun w1 a1=>?_
 have M1:=(((((Mem.start w).c0 aK #[aA,aB,.slice p n cap,a,c,aD,aF,aC,aG,.slice (some ⟨b,g,none⟩) m c2]).c1 THD #[I 2,h,ab]).c2 aK zT).adv a1)
 clear a1 ay;obtain⟨o,q,r,s,t,u,x,y,z,j⟩:=(M1.bk 2).ten;go_wp2_with fail;clear o q r s t u x y z j;refine(HL _ M1.ext).mono ?_;rintro e w2 ⟨p1,ad,q1,l,rfl,ho,hq,hx⟩;have M2:=(M1.own2 hx ho hq (aQn _) (by decide))
 clear M1 hx ho hq;have au:=M2.hi 3;have av:=M2.hi 4;obtain⟨o,q,r,s,t,u,x,y,z,j⟩:=(M2.bk 4).ten;obtain⟨ae,af,ag⟩:=(M2.bk 3).tri;go_wp2_with fail;clear o q r s t u x y z j ae af ag;refine(HP _ (M2.c0 aK #[aA,aB,.slice p1 n ad,a,c,aD,aF,aC,aG,.slice q1 m l]).ext).mono ?_;rintro e w3 ⟨p5,d,rfl,ho,hx⟩;have M3:=((M2.c0 aK #[aA,aB,.slice p1 n ad,a,c,aD,aF,aC,aG,.slice q1 m l]).call hx ho)
 clear M2 au av hx ho HP;have aw:=M3.hi 5;have ax:=M3.hi 6;obtain⟨o,q,r,s,t,u,x,y,z,j⟩:=(M3.bk 6).ten;obtain⟨ae,af,ag⟩:=(M3.bk 5).tri;go_wp2_with fail;clear o q r s t u x y z j ae af ag;refine Z (HF _ (M3.c0 TH3 #[aA,aB,.slice p5 n d]).ext) fun w4 a2=>?_
 have M4:=((M3.c0 TH3 #[aA,aB,.slice p5 n d]).adv a2)
 clear M3 aw ax a2 HF;obtain⟨o,q,r,s,t,u,x,y,z,j⟩:=(M4.bk 7).ten;obtain⟨ae,af,ag⟩:=(M4.bk 6).tri;go_wp2_with fail;clear o q r s t u x y z j ae af ag;refine Z (HM _ M4.ext) fun w5 a3=>?_
 have M5:=(M4.adv a3)
 clear M4 a3 HM;have hd:decide (f<0)=false:=by simp;omega
 clear HL;obtain⟨d0,ai,d1,aj,d2,ak,d3,al,d4,am,d5,an,d6,ao,d7,ap,d8,aq,d9,ar⟩:=(M5.bk 2).tenf;obtain⟨bg,bh,bi⟩:=(M5.bk 0).tri;go_upto_region 22 with fail;clear d0 ai d1 aj d2 ak d3 al d4 am d5 an d6 ao d7 ap d8 aq d9 ar bg bh bi;have M6:=(((M5.st 2 0 (I aA)).st 2 1 (I aB)).st 2 2 (.slice p5 n d))
 generalize ah:World.setCell _ _ _=w6;rw[ah]at M6;clear ah M5;have aa:=M6.hi 7;have j:=(M6.bk 7).cl 9;obtain⟨d0,ai,d1,aj,d2,ak,d3,al,d4,am,d5,an,d6,ao,d7,ap,d8,aq,d9,ar⟩:=(M6.bk 2).tenf;have i1:(0:Int)≤(k:Int):=by omega
 have i3:(k:Int)≤(c2:Int):=by omega
 have i4:(k:Int)+1≤(m:Int):=by omega
 have i5:(0:Int)≤(k:Int)+1:=by omega
 have i6:((k:Int)+1).toNat=k+1:=by omega
 have i7:IntKind.i64.wrap ((k:Int)+1)=(k:Int)+1:=aQp _ (by omega);have bf: ¬c2=k+1:=by omega
 have be: ¬c2=0:=by omega
 go_cut [] (fun wx=> ∃(q9:OA) (c9:Nat),Mem w wx [aI w TV 4 (q9) (m-1) (c9) ((vs.take k++vs.drop (k+1)).flatMap aE),aJ w w3 TH3 #[aA,aB,.slice p5 n d],aI w TI 1 (p5) (n) (d) (ivs ys),aJ w w2 aK #[aA,aB,.slice p5 n d,a,c,aD,aF,aC,aG,.slice q9 (m-1) c9],aI w TI 1 (p1) (n) (ad) (ivs xs),aI w TV 4 (q1) (m) (l) (vs.flatMap aE),aJ w (w.heap.size+1+1) aK #[(),(),((),()),(),(),(),(),(),(),((),())],aJ w (w.heap.size+1) THD #[I 2,h,ab],aJ w w aK #[aA,aB,.slice p n cap,a,c,aD,aF,aC,aG,.slice (some ⟨b,g,none⟩) m c2]])
 case first=>
  go_region_law ((first
   |(refine fZ vK (by rfl) _ _ (by rfl) (by first|exact M6.made0 TV 4 w6 (by simp)|exact(M6.made0 TV 4 w6 (by simp)).adv (by exact .drew (.refl _))|exact(M6.adv xE).made0 TV 4 w6 (by simp)) 0 (by rfl) (by rfl) ((vs.take k).flatMap aE) (by rfl) (aD2 (HS.out.ext (M6.ext.trans (by exact .drew (.alloc (.refl _) _)))) (by omega)) (eT _) (by omega) ?_
     intro q7 c7 w7 az;have M7:=(show Mem w w7 [aI w TV 4 (q7) (k) (c7) ((vs.take k).flatMap aE),aJ w w3 TH3 #[aA,aB,.slice p5 n d],aI w TI 1 (p5) (n) (d) (ivs ys),aJ w w2 aK #[aA,aB,.slice p5 n d,a,c,aD,aF,aC,aG,.slice q1 m l],aI w TI 1 (p1) (n) (ad) (ivs xs),aI w TV 4 (q1) (m) (l) (vs.flatMap aE),aJ w (w.heap.size+1+1) aK #[(),(),((),()),(),(),(),(),(),(),((),())],aJ w (w.heap.size+1) THD #[I 2,h,ab],aJ w w aK #[aA,aB,.slice p n cap,a,c,aD,aF,aC,aG,.slice (some ⟨b,g,none⟩) m c2]]from by simpa only[aQz,aRq,aS6]using az)
     clear az;have bl:=(M7.bk 8).cl 9
     have bm:(w2:Nat)<w7:=(M7.hi 3))
   |(refine fZ vK (by rfl) _ _ (by rfl) (M7.adv (by exact .refl _)) 0 (by rfl) (by rfl) ((vs.drop (k+1)).flatMap aE) (by rfl) (kN (k+1) vs▸aD3 (HS.out.ext (M7.ext.trans (by exact .refl _))) (by omega)) (eT _) (by omega) ?_
     intro q9 c9 w9 a0;have M9:=(show Mem w w9 [aI w TV 4 (q9) (k+(m-(k+1))) (c9) ((vs.take k).flatMap aE++(vs.drop (k+1)).flatMap aE),aJ w w3 TH3 #[aA,aB,.slice p5 n d],aI w TI 1 (p5) (n) (d) (ivs ys),aJ w w2 aK #[aA,aB,.slice p5 n d,a,c,aD,aF,aC,aG,.slice q1 m l],aI w TI 1 (p1) (n) (ad) (ivs xs),aI w TV 4 (q1) (m) (l) (vs.flatMap aE),aJ w (w.heap.size+1+1) aK #[(),(),((),()),(),(),(),(),(),(),((),())],aJ w (w.heap.size+1) THD #[I 2,h,ab],aJ w w aK #[aA,aB,.slice p n cap,a,c,aD,aF,aC,aG,.slice (some ⟨b,g,none⟩) m c2]]from a0)
     clear a0;have bp:=(M9.bk 3).cl 9;have bj:=(M9.bk 3).frozen 9
     have bq:(w2:Nat)<w9:=(M9.hi 3))))
  all_goals (
   have e1:k+(m-(k+1))=m-1:=by omega
   have e2:(vs.take k).flatMap aE++(vs.drop (k+1)).flatMap aE=(vs.take k++vs.drop (k+1)).flatMap aE:=by simp
   have MZ:=(show Mem w w9 [aI w TV 4 (q9) (m-1) (c9) ((vs.take k++vs.drop (k+1)).flatMap aE),aJ w w3 TH3 #[aA,aB,.slice p5 n d],aI w TI 1 (p5) (n) (d) (ivs ys),aJ w w2 aK #[aA,aB,.slice p5 n d,a,c,aD,aF,aC,aG,.slice q1 m l],aI w TI 1 (p1) (n) (ad) (ivs xs),aI w TV 4 (q1) (m) (l) (vs.flatMap aE),aJ w (w.heap.size+1+1) aK #[(),(),((),()),(),(),(),(),(),(),((),())],aJ w (w.heap.size+1) THD #[I 2,h,ab],aJ w w aK #[aA,aB,.slice p n cap,a,c,aD,aF,aC,aG,.slice (some ⟨b,g,none⟩) m c2]]from by have:=M9;rw[e2]at this;simpa only[e1]using this)
   clear e2 M9 M7)
  all_goals go_wp2_with fail
  all_goals go_meet
  all_goals exact⟨q9,c9,by first|exact(MZ.store (i:=3) rfl 9 (.slice q9 (m-1) c9))|(simp only[e1];exact(MZ.store (i:=3) rfl 9 (.slice q9 (m-1) c9)))⟩
 case rest=>
  obtain⟨q9,c9,MC⟩:=hcut;have MC:=xQ MC;clear M6 i1 i3 i4 i5 i6 i7 bf be j d0 ai d1 aj d2 ak d3 al d4 am d5 an d6 ao d7 ap d8 aq d9 ar aa;have aa:w.heap.size+1<wc.heap.size:=(MC.out.hi 7)
  obtain⟨e0,e1,e2,e3,e4,e5,e6,e7,e8,e9⟩:=(MC.out.bk 3).ten;obtain⟨f0,a4,f1,a5,f2,a6,f3,a7,f4,a8,f5,a9,f6,ba,f7,bb,f8,bc,f9,bd⟩:=(MC.out.bk 6).tenf;go_upto_region 33 with fail;go_wp2;clear e0 e1 e2 e3 e4 e5 e6 e7 e8 e9 f0 a4 f1 a5 f2 a6 f3 a7 f4 a8 f5 a9 f6 ba f7 bb f8 bc f9 bd aa;have M7:=(MC.out.put10 (i:=6) rfl (I aA) (I aB) (.slice p5 n d) (I a) (I c) (I aD) (I aF) (I aC) (I aG) (.slice q9 (m-1) c9))
  generalize ah:World.setCell _ _ _=wz;rw[ah]at M7;clear ah MC;obtain⟨y0,y1,y2,y3,y4,y5,y6,y7,y8,y9⟩:=(M7.bk 6).ten;exact bodyPost_ret (v:= .tuple #[.agg #[aA,aB,.slice p5 n d,a,c,aD,aF,aC,aG,.slice q9 (m-1) c9],f,.bool true]) (by simp[results,results23,go_sem, *]) rfl ⟨p5,d,q9,c9,rfl,(M7.ow 2),(M7.ow 0),M7.ext⟩
theorem rM (aA aB a c aD aF aC aG f j ab:Int)(p:OA)(n cap:Nat)(b g k:Nat)(xs ys:List Int)(vs:List aP)(w:World)(h0:0≤f)(hm:(k+1)≤1000)(be:Hid (vs.drop (k+1)= []))(HS:Hid (Sl w (some ⟨b,g,none⟩) (k+1) (k+1) 4 (vs.flatMap aE)))
  (ay:xB 21 #[.agg #[aA,aB,.slice p n cap,a,c,aD,aF,aC,aG,.slice (some ⟨b,g,none⟩) (k+1) (k+1)]] w true)
  (HL:xC 26 #[.agg #[aA,aB,.slice p n cap,a,c,aD,aF,aC,aG,.slice (some ⟨b,g,none⟩) (k+1) (k+1)]] w fun w' e w''=> ∃p' cap' q' c2',e= .returned (.agg #[aA,aB,.slice p' n cap',a,c,aD,aF,aC,aG,.slice q' (k+1) c2'])∧w''.ownsRow w' TI 1 (.slice p' n cap') n (ivs xs)∧w''.ownsRow w' TV 4 (.slice q' (k+1) c2') (k+1) (vs.flatMap aE)∧Ext w' w'')
  (HP:xC 59 #[aH aA aB p n cap,j] w fun w' e w''=> ∃p' cap',e= .returned (.tuple #[aH aA aB p' n cap',f])∧w''.ownsRow w' TI 1 (.slice p' n cap') n (ivs ys)∧Ext w' w'')
  (HF:xC 60 #[.agg #[aA,aB,.slice p n cap,a,c,aD,aF,aC,aG,.slice (some ⟨b,g,none⟩) (k+1) (k+1)],j] w fun w' e w''=>e= .returned (I k)∧Ext w' w'')
  (HM:xB 61 #[.agg #[aA,aB,.slice p n cap,a,c,aD,aF,aC,aG,.slice (some ⟨b,g,none⟩) (k+1) (k+1)],j] w true):
  U 23 #[.agg #[aA,aB,.slice p n cap,a,c,aD,aF,aC,aG,.slice (some ⟨b,g,none⟩) (k+1) (k+1)],.agg #[I 2,j,ab]] w fun e w'=> ∃p' cap' q' c2',e= .returned (.tuple #[.agg #[aA,aB,.slice p' n cap',a,c,aD,aF,aC,aG,.slice q' (k) c2'],f,.bool true])∧w'.ownsRow w TI 1 (.slice p' n cap') n (ivs ys)∧w'.ownsRow w TV 4 (.slice q' (k) c2') (k) ((vs.take k++vs.drop (k+1)).flatMap aE)∧Ext w w':=by
 go_enter func23,ntmps23;go_wp2_with fail;refine Z (ay _ ((((Mem.start w).c0 aK #[aA,aB,.slice p n cap,a,c,aD,aF,aC,aG,.slice (some ⟨b,g,none⟩) (k+1) (k+1)]).c1 THD #[I 2,j,ab]).c2 aK zT).ext) fun w1 a1=>?_
 have M1:=(((((Mem.start w).c0 aK #[aA,aB,.slice p n cap,a,c,aD,aF,aC,aG,.slice (some ⟨b,g,none⟩) (k+1) (k+1)]).c1 THD #[I 2,j,ab]).c2 aK zT).adv a1)
 clear a1 ay;obtain⟨o,q,r,s,t,u,x,y,z,l⟩:=(M1.bk 2).ten;go_wp2_with fail;clear o q r s t u x y z l;refine(HL _ M1.ext).mono ?_;rintro e w2 ⟨p1,ad,q1,m,rfl,ho,hq,hx⟩;have M2:=(M1.own2 hx ho hq (aQn _) (by decide))
 clear M1 hx ho hq;have au:=M2.hi 3;have av:=M2.hi 4;obtain⟨o,q,r,s,t,u,x,y,z,l⟩:=(M2.bk 4).ten;obtain⟨ae,af,ag⟩:=(M2.bk 3).tri;go_wp2_with fail;clear o q r s t u x y z l ae af ag;refine(HP _ (M2.c0 aK #[aA,aB,.slice p1 n ad,a,c,aD,aF,aC,aG,.slice q1 (k+1) m]).ext).mono ?_;rintro e w3 ⟨p5,d,rfl,ho,hx⟩;have M3:=((M2.c0 aK #[aA,aB,.slice p1 n ad,a,c,aD,aF,aC,aG,.slice q1 (k+1) m]).call hx ho)
 clear M2 au av hx ho HP;have aw:=M3.hi 5;have ax:=M3.hi 6;obtain⟨o,q,r,s,t,u,x,y,z,l⟩:=(M3.bk 6).ten;obtain⟨ae,af,ag⟩:=(M3.bk 5).tri;go_wp2_with fail;clear o q r s t u x y z l ae af ag;refine Z (HF _ (M3.c0 TH3 #[aA,aB,.slice p5 n d]).ext) fun w4 a2=>?_
 have M4:=((M3.c0 TH3 #[aA,aB,.slice p5 n d]).adv a2)
 clear M3 aw ax a2 HF;obtain⟨o,q,r,s,t,u,x,y,z,l⟩:=(M4.bk 7).ten;obtain⟨ae,af,ag⟩:=(M4.bk 6).tri;go_wp2_with fail;clear o q r s t u x y z l ae af ag;refine Z (HM _ M4.ext) fun w5 a3=>?_
 have M5:=(M4.adv a3)
 clear M4 a3 HM;have hd:decide (f<0)=false:=by simp;omega
 clear HL;obtain⟨d0,ai,d1,aj,d2,ak,d3,al,d4,am,d5,an,d6,ao,d7,ap,d8,aq,d9,ar⟩:=(M5.bk 2).tenf;obtain⟨bf,bg,bh⟩:=(M5.bk 0).tri;go_upto_region 22 with fail;clear d0 ai d1 aj d2 ak d3 al d4 am d5 an d6 ao d7 ap d8 aq d9 ar bf bg bh;have M6:=(((M5.st 2 0 (I aA)).st 2 1 (I aB)).st 2 2 (.slice p5 n d))
 generalize ah:World.setCell _ _ _=w6;rw[ah]at M6;clear ah M5;have aa:=M6.hi 7;have l:=(M6.bk 7).cl 9;obtain⟨d0,ai,d1,aj,d2,ak,d3,al,d4,am,d5,an,d6,ao,d7,ap,d8,aq,d9,ar⟩:=(M6.bk 2).tenf;have i1:(0:Int)≤(k:Int):=by omega
 have i2:(k:Int)≤((k+1):Int):=by omega
 have i5:(0:Int)≤(k:Int)+1:=by omega
 have i6:((k:Int)+1).toNat=k+1:=by omega
 have i7:IntKind.i64.wrap ((k:Int)+1)=(k:Int)+1:=aQp _ (by omega);go_cut [] (fun wx=> ∃(q9:OA) (c9:Nat),Mem w wx [aI w TV 4 (q9) (k) (c9) ((vs.take k++vs.drop (k+1)).flatMap aE),aJ w w3 TH3 #[aA,aB,.slice p5 n d],aI w TI 1 (p5) (n) (d) (ivs ys),aJ w w2 aK #[aA,aB,.slice p5 n d,a,c,aD,aF,aC,aG,.slice q9 (k) c9],aI w TI 1 (p1) (n) (ad) (ivs xs),aI w TV 4 (q1) (k+1) (m) (vs.flatMap aE),aJ w (w.heap.size+1+1) aK #[(),(),((),()),(),(),(),(),(),(),((),())],aJ w (w.heap.size+1) THD #[I 2,j,ab],aJ w w aK #[aA,aB,.slice p n cap,a,c,aD,aF,aC,aG,.slice (some ⟨b,g,none⟩) (k+1) (k+1)]])
 case first=>
  go_region_law ((first
   |(refine fZ vK (by rfl) _ _ (by rfl) (by first|exact M6.made0 TV 4 w6 (by simp)|exact(M6.made0 TV 4 w6 (by simp)).adv (by exact .drew (.refl _))|exact(M6.adv xE).made0 TV 4 w6 (by simp)) 0 (by rfl) (by rfl) ((vs.take k).flatMap aE) (by rfl) (aD2 (HS.out.ext (M6.ext.trans (by exact .drew (.alloc (.refl _) _)))) (by omega)) (eT _) (by omega) ?_
     intro q7 c7 w7 az;have M7:=(show Mem w w7 [aI w TV 4 (q7) (k) (c7) ((vs.take k).flatMap aE),aJ w w3 TH3 #[aA,aB,.slice p5 n d],aI w TI 1 (p5) (n) (d) (ivs ys),aJ w w2 aK #[aA,aB,.slice p5 n d,a,c,aD,aF,aC,aG,.slice q1 (k+1) m],aI w TI 1 (p1) (n) (ad) (ivs xs),aI w TV 4 (q1) (k+1) (m) (vs.flatMap aE),aJ w (w.heap.size+1+1) aK #[(),(),((),()),(),(),(),(),(),(),((),())],aJ w (w.heap.size+1) THD #[I 2,j,ab],aJ w w aK #[aA,aB,.slice p n cap,a,c,aD,aF,aC,aG,.slice (some ⟨b,g,none⟩) (k+1) (k+1)]]from by simpa only[aQz,aRq,aS6]using az)
     clear az;have bj:=(M7.bk 8).cl 9
     have bl:(w2:Nat)<w7:=(M7.hi 3))
   |(refine fZ vK (by rfl) _ _ (by rfl) (M7.adv (by exact .refl _)) 0 (by rfl) (by rfl) (([]:List aP).flatMap aE) (by rfl) (⟨by simp,aQt _,by have:=HS.out.mx;omega,fun h=>absurd h (by omega)⟩) (eT _) (by omega) ?_
     intro q9 c9 w9 a0;have M9:=(show Mem w w9 [aI w TV 4 (q9) (k+(0)) (c9) ((vs.take k).flatMap aE++([]:List aP).flatMap aE),aJ w w3 TH3 #[aA,aB,.slice p5 n d],aI w TI 1 (p5) (n) (d) (ivs ys),aJ w w2 aK #[aA,aB,.slice p5 n d,a,c,aD,aF,aC,aG,.slice q1 (k+1) m],aI w TI 1 (p1) (n) (ad) (ivs xs),aI w TV 4 (q1) (k+1) (m) (vs.flatMap aE),aJ w (w.heap.size+1+1) aK #[(),(),((),()),(),(),(),(),(),(),((),())],aJ w (w.heap.size+1) THD #[I 2,j,ab],aJ w w aK #[aA,aB,.slice p n cap,a,c,aD,aF,aC,aG,.slice (some ⟨b,g,none⟩) (k+1) (k+1)]]from a0)
     clear a0;have bm:=(M9.bk 3).cl 9;have bi:=(M9.bk 3).frozen 9
     have bo:(w2:Nat)<w9:=(M9.hi 3))))
  all_goals (
   have e1:k+(0)=k:=by omega
   have e2:(vs.take k).flatMap aE++([]:List aP).flatMap aE=(vs.take k++vs.drop (k+1)).flatMap aE:=by rw[be.out];simp
   skip;have MZ:=(show Mem w w9 [aI w TV 4 (q9) (k) (c9) ((vs.take k++vs.drop (k+1)).flatMap aE),aJ w w3 TH3 #[aA,aB,.slice p5 n d],aI w TI 1 (p5) (n) (d) (ivs ys),aJ w w2 aK #[aA,aB,.slice p5 n d,a,c,aD,aF,aC,aG,.slice q1 (k+1) m],aI w TI 1 (p1) (n) (ad) (ivs xs),aI w TV 4 (q1) (k+1) (m) (vs.flatMap aE),aJ w (w.heap.size+1+1) aK #[(),(),((),()),(),(),(),(),(),(),((),())],aJ w (w.heap.size+1) THD #[I 2,j,ab],aJ w w aK #[aA,aB,.slice p n cap,a,c,aD,aF,aC,aG,.slice (some ⟨b,g,none⟩) (k+1) (k+1)]]from by have:=M9;rw[e2]at this;simpa only[e1]using this)
   clear e2 M9 M7)
  all_goals go_wp2_with fail
  all_goals go_meet
  all_goals exact⟨q9,c9,by first|exact(MZ.store (i:=3) rfl 9 (.slice q9 (k) c9))|(simp only[e1];exact(MZ.store (i:=3) rfl 9 (.slice q9 (k) c9)))⟩
 case rest=>
  obtain⟨q9,c9,MC⟩:=hcut;have MC:=xQ MC;clear M6 i1 i2 i5 i6 i7 l d0 ai d1 aj d2 ak d3 al d4 am d5 an d6 ao d7 ap d8 aq d9 ar aa;have aa:w.heap.size+1<wc.heap.size:=(MC.out.hi 7)
  obtain⟨e0,e1,e2,e3,e4,e5,e6,e7,e8,e9⟩:=(MC.out.bk 3).ten;obtain⟨f0,a4,f1,a5,f2,a6,f3,a7,f4,a8,f5,a9,f6,ba,f7,bb,f8,bc,f9,bd⟩:=(MC.out.bk 6).tenf;go_upto_region 33 with fail;go_wp2;clear e0 e1 e2 e3 e4 e5 e6 e7 e8 e9 f0 a4 f1 a5 f2 a6 f3 a7 f4 a8 f5 a9 f6 ba f7 bb f8 bc f9 bd aa;have M7:=(MC.out.put10 (i:=6) rfl (I aA) (I aB) (.slice p5 n d) (I a) (I c) (I aD) (I aF) (I aC) (I aG) (.slice q9 (k) c9))
  generalize ah:World.setCell _ _ _=wz;rw[ah]at M7;clear ah MC;obtain⟨y0,y1,y2,y3,y4,y5,y6,y7,y8,y9⟩:=(M7.bk 6).ten;exact bodyPost_ret (v:= .tuple #[.agg #[aA,aB,.slice p5 n d,a,c,aD,aF,aC,aG,.slice q9 (k) c9],f,.bool true]) (by simp[results,results23,go_sem, *]) rfl ⟨p5,d,q9,c9,rfl,(M7.ow 2),(M7.ow 0),M7.ext⟩
end
def aI9 (h:aM)(r:Option (aM×Int))(w:World)(e:Ending)(w':World):Prop:=
 match r with
 |none=> ∃p cap q c2,e= .returned (.tuple #[bO h p h.cells.length cap q h.vs.length c2,(-1:Int),.bool false])∧w'.ownsRow w.heap.size TI 1 (.slice p h.cells.length cap) h.cells.length (ivs h.cells)∧w'.ownsRow w.heap.size TV 4 (.slice q h.vs.length c2) h.vs.length (h.vs.flatMap aE)∧Ext w w'
 |some (h',n)=> ∃p cap q c2,e= .returned (.tuple #[bO h' p h'.cells.length cap q h'.vs.length c2,n,.bool true])∧w'.ownsRow w.heap.size TI 1 (.slice p h'.cells.length cap) h'.cells.length (ivs h'.cells)∧w'.ownsRow w.heap.size TV 4 (.slice q h'.vs.length c2) h'.vs.length (h'.vs.flatMap aE)∧Ext w w'
theorem eP {h:aM}(a:aT h=true):h.cells.length≤12∧h.vs.length≤12∧4≤h.cells.length:=by obtain⟨q1,q2,q3,q4,q5⟩:=(eF h).1 a;have hb:=cC (cP q1);have:=congrArg List.length q4;rw[iQ,aRb]at this;have:=jX h.cells;omega
theorem vA (h:aM)(k a b:Int)(p:OA)(n cap:Nat)(q:OA)(m c2:Nat)(w:World)(hi:IsHouse w h p n cap q m c2)(c:aT h=false):
  U 23 #[bO h p n cap q m c2,fP k a b] w (O (.tuple #[.agg #[(),(),((),()),(),(),(),(),(),(),((),())],(-1:Int),.bool false]) w):=
 aFn h.aA h.aB h.free h.step h.aD h.aF h.aC h.aG k a b p n cap q m c2 h.cells h.vs w (xQ fun w' hx=>by have:=iT h p n cap q m c2 w' (hi.ext hx);rwa[c]at this)
theorem uH (h:aM)(k a b:Int)(p:OA)(n cap:Nat)(q:OA)(m c2:Nat)(w:World)(hi:IsHouse w h p n cap q m c2)(i:aT h=true):
  U 23 #[bO h p n cap q m c2,fP k a b] w (aI9 h (cN h k a b) w):=by
 obtain⟨q1,q2,q3,q4,q5⟩:=(eF h).1 i;have ab:=eP i;have hl:=hi.clen;have o:=hi.vlen;have hS:=hi.cells;have hV:=hi.vs;subst hl o;have d:=xQ fun(w':World) (hx:Ext w w')=>(by have:=iT h p _ cap q _ c2 w' (hi.ext hx);rwa[i]at this:U 21 #[bO h p h.cells.length cap q h.vs.length c2] w' (O (.bool true) w'))
 have HL:=xQ fun(w':World) (hx:Ext w w')=>nT h p _ cap q _ c2 w' (by omega) (by omega) (hi.ext hx)
 unfold RetHouse at HL;by_cases k0:k=0
 ·subst k0;have HP:=xQ fun(w':World) (hx:Ext w w')=>aCl h.aA h.aB a p _ cap h.cells w' (hS.ext hx) q1
  have e0:cN h 0 a b=(if 0≤(cJ h.aA h.aB h.cells a).2 then some ({h with cells:=(cJ h.aA h.aB h.cells a).1,vs:=kW (a,h.aC,0,h.aC) h.vs},(cJ h.aA h.aB h.cells a).2)else none):=by unfold cN;rw[if_pos rfl]
  have el:(cJ h.aA h.aB h.cells a).1.length=h.cells.length:=by
   by_cases h0:0≤(cJ h.aA h.aB h.cells a).2
   ·obtain⟨zs,s1,_,_,s4,_⟩:=nG q1 h0;rw[s4,aS8,s1.length_eq]
   unfold cJ at h0⊢;split at h0
   ·rfl
   dsimp only at h0;omega
  unfold cR at HP;rw[el]at HP;rw[e0];by_cases h0:0≤(cJ h.aA h.aB h.cells a).2
  ·rw[if_pos h0];have HQ:=xQ fun(w':World) (hx:Ext w w')=>aJk a h.aC 0 h.aC q _ c2 h.vs w' (by omega) (hV.ext hx)
   refine(tC h.aA h.aB h.free h.step h.aD h.aF h.aC h.aG (cJ h.aA h.aB h.cells a).2 a b p _ cap q _ c2 h.cells (cJ h.aA h.aB h.cells a).1 h.vs (kW (a,h.aC,0,h.aC) h.vs) w h0 d HL HP HQ).mono ?_;rintro e w' ⟨p',c,q',f,rfl,o1,o2,hx⟩;refine⟨p',c,q',f,?_,?_,?_,hx⟩
   ·simp[bO,el,rP]
   ·dsimp only;rw[el];exact o1
   dsimp only;rw[rP];exact o2
  rw[if_neg h0];exact vD h.aA h.aB h.free h.step h.aD h.aF h.aC h.aG (cJ h.aA h.aB h.cells a).2 a b p _ cap q _ c2 h.cells (cJ h.aA h.aB h.cells a).1 h.vs w (by omega) d HL HP
 by_cases k1:k=1
 ·subst k1;have HP:=xQ fun(w':World) (hx:Ext w w')=>aJl h a b p _ cap q _ c2 w' (by omega) (by omega) (hi.ext hx) q2 (fun v hv=>(iR _ _).1 (q5 v hv)) q3.2.1 q3.2.2.1 q3.2.2.2
  have e0:cN h 1 a b=oP h a b:=by unfold cN;rw[if_neg (by omega),if_pos rfl]
  rw[e0];cases hp:oP h a b with
  |none=>rw[hp]at HP;exact yG h.aA h.aB h.free h.step h.aD h.aF h.aC h.aG a b p _ cap q _ c2 h.cells h.vs w d HL HP
  |some r=>
   obtain⟨h',bk⟩:=r;rw[hp]at HP;have hd:=qV i (e0.trans hp);have hv:h'.vs.length=h.vs.length∧h'.cells=h.cells∧h'.aC=h.aC:=by
    unfold oP at hp;split at hp
    ·cases hp
    split at hp
    ·injection hp with hp;simp only[aRw]at hp;obtain⟨rfl,_⟩:=hp;exact⟨by simp,rfl,rfl⟩
    cases hp
   obtain⟨t1,t2,t3,t4,t5,t6,t7,t8,t9⟩:=hd;obtain⟨v1,v2,v3⟩:=hv;obtain⟨hw,y,hc,hf,hs,aa,u,x,l,s⟩:=h';dsimp only at t4 t5 t6 t7 t8 t9 v1 v2 v3;subst t4 t5 t6 t7 t8 t9 v2 v3;unfold aNw at HP;dsimp only at HP;rw[v1]at HP;refine(wD h.aA h.aB h.free h.step h.aD h.aF h.aC h.aG l bk a b p _ cap q _ c2 h.cells h.vs s w t2.1 d HL HP).mono ?_;rintro e w' ⟨p',c,q',f,rfl,o1,o2,hx⟩;refine⟨p',c,q',f,?_,o1,?_,hx⟩
   ·simp[bO,v1]
   dsimp only;rw[v1];exact o2
 by_cases k2:k=2
 ·subst k2;have HP:=xQ fun(w':World) (hx:Ext w w')=>aEi h.aA h.aB a p _ cap h.cells w' (hS.ext hx) q1
  have HF:=xQ fun(w':World) (hx:Ext w w')=>qU h.aA h.aB h.free h.step h.aD h.aF h.aC h.aG a p h.cells.length cap q _ c2 h.vs w' (hV.ext hx)
  have HM:=fun(w':World) (hx:Ext w w')=>rJ h a p _ cap q _ c2 w' (hi.ext hx)
  have e0:cN h 2 a b=(if dL h a=true∧0≤(bZ h.aA h.aB h.cells a).2 then some ({h with cells:=(bZ h.aA h.aB h.cells a).1,vs:=h.vs.eraseIdx (vix a h.vs).toNat},(bZ h.aA h.aB h.cells a).2)else none):=by unfold cN;rw[if_neg (by omega),if_neg (by omega),if_pos rfl]
  have el:(bZ h.aA h.aB h.cells a).1.length=h.cells.length:=by
   by_cases h0:0≤(bZ h.aA h.aB h.cells a).2
   ·obtain⟨zs,s1,_,_,s4,_⟩:=lT q1 h0;rw[s4,aS8,s1.length_eq]
   unfold bZ at h0⊢;split at h0
   ·rfl
   dsimp only at h0;omega
  unfold cR at HP;rw[el]at HP;rw[e0];by_cases h0:dL h a=true∧0≤(bZ h.aA h.aB h.cells a).2
  ·rw[if_pos h0];have hv: ∃v,dS a h.vs=some v:=by
    have:=h0.1;unfold dL cS at this;rw[if_pos i]at this;cases hv:dS a h.vs with
    |none=>rw[hv]at this;simp at this
    |some v=>exact⟨v,rfl⟩
   obtain⟨v,hv⟩:=hv;obtain⟨v1,v2,v3,v4,v5,v6⟩:=kI hv;generalize hk:(vix a h.vs).toNat=kk at*;rw[v5]at HF;rw[h0.1]at HM;obtain⟨bb,j,rfl,t,_⟩:=hV.rd (by omega);have ee:h.vs.eraseIdx kk=h.vs.take kk++h.vs.drop (kk+1):=List.eraseIdx_eq_take_drop_succ _ _;have g:(h.vs.eraseIdx kk).length=h.vs.length-1:=by rw[List.length_eraseIdx,if_pos v4]
   by_cases hcc:kk+1<c2
   ·refine(tE h.aA h.aB h.free h.step h.aD h.aF h.aC h.aG (bZ h.aA h.aB h.cells a).2 a b p _ cap bb j _ c2 kk h.cells (bZ h.aA h.aB h.cells a).1 h.vs w h0.2 v4 (by omega) hcc (xQ hV) d HL HP HF HM).mono ?_;rintro e w' ⟨p',c,q',f,rfl,o1,o2,hx⟩;refine⟨p',c,q',f,?_,?_,?_,hx⟩
    ·simp only[bO,el,g]
    ·dsimp only;rw[el];exact o1
    dsimp only;rw[g,ee];exact o2
   have z:=hV.le;have e1:c2=kk+1:=by omega
   have e2:h.vs.length=kk+1:=by omega
   subst e1;rw[e2]at hV d HL HF HM g⊢;refine(rM h.aA h.aB h.free h.step h.aD h.aF h.aC h.aG (bZ h.aA h.aB h.cells a).2 a b p _ cap bb j kk h.cells (bZ h.aA h.aB h.cells a).1 h.vs w h0.2 (by omega) (xQ (aS4 (by omega))) (xQ hV) d HL HP HF HM).mono ?_;rintro e w' ⟨p',c,q',f,rfl,o1,o2,hx⟩;refine⟨p',c,q',f,?_,?_,?_,hx⟩
   ·simp[bO,el,g]
   ·dsimp only;rw[el];exact o1
   dsimp only;rw[g,ee,Nat.add_sub_cancel];exact o2
  rw[if_neg h0]
  exact vF h.aA h.aB h.free h.step h.aD h.aF h.aC h.aG (bZ h.aA h.aB h.cells a).2 (vix a h.vs) a b p _ cap q _ c2 h.cells (bZ h.aA h.aB h.cells a).1 h.vs w (dL h a) (fun e=>by
   by_cases hx:0≤(bZ h.aA h.aB h.cells a).2
   ·exact absurd ⟨e,hx⟩ h0
   ·omega) d HL HP HF HM
 by_cases k3:k=3
 ·subst k3;have e0:cN h 3 a b=(if 1≤a∧a≤9999-h.aC then some ({h with aC:=h.aC+a},h.aC+a)else none):=by unfold cN;rw[if_neg (by omega),if_neg (by omega),if_neg (by omega),if_pos rfl]
  rw[e0];by_cases h0:1≤a∧a≤9999-h.aC
  ·rw[if_pos h0];exact vC h.aA h.aB h.free h.step h.aD h.aF h.aC h.aG a b p _ cap q _ c2 h.cells h.vs w q3.1 q3.2.1 h0.1 h0.2 d HL (xQ fun w'=>mX a 1 (9999-h.aC) w' h0.1 h0.2)
  rw[if_neg h0];exact wC h.aA h.aB h.free h.step h.aD h.aF h.aC h.aG a b p _ cap q _ c2 h.cells h.vs w q3.1 q3.2.1 d HL (xQ fun w'=>vO a 1 (9999-h.aC) w' (by omega))
 by_cases k4:k=4
 ·subst k4;have HP:=xQ fun(w':World) (hx:Ext w w')=>lZ h.aA h.aB a b p _ cap h.cells w' (hS.ext hx) q1
  have e0:cN h 4 a b=(if bD h.aA h.aB h.cells a b=true then some ({h with cells:=bH h.aA h.aB h.cells a b},0)else none):=by unfold cN;rw[if_neg (by omega),if_neg (by omega),if_neg (by omega),if_neg (by omega),if_pos rfl]
  unfold cT at HP;rw[cZ]at HP;rw[e0];cases hm:bD h.aA h.aB h.cells a b with
  |true=>
   rw[hm]at HP;rw[if_pos rfl];refine(tD h.aA h.aB h.free h.step h.aD h.aF h.aC h.aG a b p _ cap q _ c2 h.cells (bH h.aA h.aB h.cells a b) h.vs w d HL HP).mono ?_;rintro e w' ⟨p',c,q',f,rfl,o1,o2,hx⟩;refine⟨p',c,q',f,?_,?_,o2,hx⟩
   ·simp only[bO,cZ]
   dsimp only;rw[cZ];exact o1
  |false=>rw[hm]at HP;rw[if_neg (by simp)];exact vE h.aA h.aB h.free h.step h.aD h.aF h.aC h.aG a b p _ cap q _ c2 h.cells (bH h.aA h.aB h.cells a b) h.vs w d HL HP
 have e0:cN h k a b=none:=by unfold cN;rw[if_neg k0,if_neg k1,if_neg k2,if_neg k3,if_neg k4]
 rw[e0];exact aAy h.aA h.aB h.free h.step h.aD h.aF h.aC h.aG k a b p _ cap q _ c2 h.cells h.vs w k0 k1 k2 k3 k4 d HL
def bG (K:Int):Nat→List Value
 |0=> []
 |m+1=>bG K m++ [.int .i64 (K+m)]
theorem iK (K:Int)(m:Nat):(bG K m).length=m:=by induction m with|zero=>rfl|succ m ih=>simp[bG,ih]
theorem mN (K:Int): ∀(m j:Nat),j<m→(bG K m)[j]? =some (I (K+j)):=by
 intro m;induction m with
 |zero=>intro j h;omega
 |succ m ih=>
  intro j h;by_cases hj:j<m
  ·rw[bG,aR4 (by rw[iK];exact hj)];exact ih j hj
  obtain rfl:j=m:=by omega
  rw[bG,aR2 (by rw[iK];omega),iK];simp
theorem aDk (K:Int)(k:Nat):bG K ((k+1)*1)=bG K (k*1)++ [I (K+(k*1:Nat))]:=by rw[aRz];rfl
theorem aDj (K:Int)(k:Nat):bG K ((k+1)*4)=bG K (k*4)++ [I (K+(k*4:Nat)),I (K+(k*4:Nat)+1),I (K+(k*4:Nat)+1+1),I (K+(k*4:Nat)+1+1+1)]:=by
 have e1:K+((k*4+1:Nat):Int)=K+(k*4:Nat)+1:=by omega
 have e2:K+((k*4+2:Nat):Int)=K+(k*4:Nat)+1+1:=by omega
 have e3:K+((k*4+3:Nat):Int)=K+(k*4:Nat)+1+1+1:=by omega
 rw[aRz];show bG K (k*4)++ [I (K+(k*4:Nat))]++ [I (K+((k*4+1:Nat):Int))]++ [I (K+((k*4+2:Nat):Int))]++ [I (K+((k*4+3:Nat):Int))]=_;rw[e1,e2,e3];simp only[aRe,aSd,aS6]
section
open Go.Proofs.Tryz
theorem aH7 (aA aB:Int)(p q:OA)(n c1 c2:Nat)(xs:List Int)(w:World)(h1:Sl w p n c1 1 (ivs xs))(h2:Sl w q n c2 1 (ivs xs)):
  U 38 #[aH aA aB p n c1,aH aA aB q n c2] w (O (.bool true) w):=by
 have H1:=xQ h1;have H2:=xQ h2;clear h1 h2;go_enter func38,ntmps38;go_wp2_with fail;refine Z (aH6 p q n c1 c2 xs _ (H1.out.ext xE) (H2.out.ext xE)) fun w1 hx=>?_
 go_wp2;go_ret;exact⟨rfl,xE⟩
theorem mJ (h:aM)(p1:OA)(n c1:Nat)(q1:OA)(m d1:Nat)(p2:OA)(c2:Nat)(q2:OA)(d2:Nat)(w:World)(k:IsHouse w h p1 n c1 q1 m d1)(l:IsHouse w h p2 n c2 q2 m d2):
  U 9 #[bO h p1 n c1 q1 m d1,bO h p2 n c2 q2 m d2] w (O (.bool true) w):=by
 have H1:=xQ k;have H2:=xQ l;clear k l;obtain⟨aA,aB,j,a,b,aD,aF,aC,aG,vs⟩:=h;go_enter func9,ntmps9;go_wp2_with fail;refine Z (aH7 aA aB p1 p2 n c1 c2 j _ (H1.out.cells.ext xE) (H2.out.cells.ext xE)) fun w1 d=>?_
 have BA:=xQ (((Blk.new w 35 #[aA,aB,.slice p1 n c1,a,b,aD,aF,aC,aG,.slice q1 m d1]).alloc (.cells #[aA,aB,.slice p2 n c2,a,b,aD,aF,aC,aG,.slice q2 m d2] 35)).ext d);have c:=xQ ((Blk.new (w.alloc (.cells #[aA,aB,.slice p1 n c1,a,b,aD,aF,aC,aG,.slice q1 m d1] 35)) 35 #[aA,aB,.slice p2 n c2,a,b,aD,aF,aC,aG,.slice q2 m d2]).ext d);simp only[aT7]at c;have o:Ext w w1:=(((Ext.refl w).alloc _).alloc _).trans d;have ha:w.heap.size+1<w1.heap.size:=aQm (by simp) d.sz;clear d;have a3:=BA.out.cl 3;have a4:=BA.out.cl 4;have a5:=BA.out.cl 5;have a6:=BA.out.cl 6;have b3:=c.out.cl 3;have b4:=c.out.cl 4;have b5:=c.out.cl 5;have b6:=c.out.cl 6;go_wp2_with fail;clear a3 a4 a5 a6 b3 b4 b5 b6;refine Z (aC5 a b aD aF _) fun w2 f=>?_
 have p:Ext w w2:=o.trans f;have q:w.heap.size+1<w2.heap.size:=aQm ha f.sz;have g:=xQ (BA.out.ext f);have i:=xQ (c.out.ext f);clear f BA c;have a7:=g.out.cl 7;have a8:=g.out.cl 8;have a9:=g.out.cl 9;have b7:=i.out.cl 7;have b8:=i.out.cl 8;have b9:=i.out.cl 9;go_wp2_with fail;clear a7 a8 a9 b7 b8 b9;refine Z (aC4 q1 q2 m d1 d2 vs _ (H1.out.vs.ext xE) (H2.out.vs.ext xE)) fun w3 r=>?_
 go_wp2;go_ret;exact⟨rfl,xE⟩
theorem RetHouse.is {h:aM}{w w':World}{p q:OA}{cap c2:Nat}(ho:w'.ownsRow w TI 1 (.slice p h.cells cap) h.cells.length (ivs h.cells))(hv:w'.ownsRow w TV 4 (.slice q h.vs c2) h.vs.length (h.vs.flatMap aE)):
  IsHouse w' h p h.cells.length cap q h.vs.length c2:=⟨Sl.own ho,Sl.own hv⟩
end
end Go.Proofs.YtbgkcehffiogcacGreatDoor
