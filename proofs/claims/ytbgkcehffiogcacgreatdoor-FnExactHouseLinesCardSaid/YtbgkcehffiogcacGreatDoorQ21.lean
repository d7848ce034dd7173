/-
  Texts of this proof, packed (@packed).
-/
import Derived.Test.YtbgkcehffiogcacGreatDoorQ20
namespace Go.Proofs.YtbgkcehffiogcacGreatDoor
open Go.RowKit
set_option linter.unusedSimpArgs false
set_option linter.unusedVariables false
set_option maxHeartbeats 8000000
set_option maxRecDepth 100000
section
open Go.Proofs.Tryz
theorem vR (aA aB a b aD aF aC aG s ix x ar:Int)(p:OA)(n cap:Nat)(q:OA)(m c2:Nat)(xs ys:List Int)(vs:List aP)(w:World)(mb:Bool)(a1:mb=true→s<0)
  (au:xB 21 #[.agg #[aA,aB,.slice p n cap,a,b,aD,aF,aC,aG,.slice q m c2]] w true)
  (HL:xC 26 #[.agg #[aA,aB,.slice p n cap,a,b,aD,aF,aC,aG,.slice q m c2]] w fun w' e w''=> ∃p' cap' q' c2',e= .returned (.agg #[aA,aB,.slice p' n cap',a,b,aD,aF,aC,aG,.slice q' m c2'])∧w''.ownsRow w' TI 1 (.slice p' n cap') n (ivs xs)∧w''.ownsRow w' TV 4 (.slice q' m c2') m (vs.flatMap aE)∧Ext w' w'')
  (HP:xC 59 #[aH aA aB p n cap,x] w fun w' e w''=> ∃p' cap',e= .returned (.tuple #[aH aA aB p' n cap',s])∧w''.ownsRow w' TI 1 (.slice p' n cap') n (ivs ys)∧Ext w' w'')
  (HF:xC 60 #[.agg #[aA,aB,.slice p n cap,a,b,aD,aF,aC,aG,.slice q m c2],x] w fun w' e w''=>e= .returned (I (ix))∧Ext w' w'')
  (HM:xB 61 #[.agg #[aA,aB,.slice p n cap,a,b,aD,aF,aC,aG,.slice q m c2],x] w mb):
  U 23 #[.agg #[aA,aB,.slice p n cap,a,b,aD,aF,aC,aG,.slice q m c2],.agg #[I 2,x,ar]] w fun e w'=> ∃p' cap' q' c2',e= .returned (.tuple #[.agg #[aA,aB,.slice p' n cap',a,b,aD,aF,aC,aG,.slice q' m c2'],(-1:Int),.bool false])∧w'.ownsRow w TI 1 (.slice p' n cap') n (ivs xs)∧w'.ownsRow w TV 4 (.slice q' m c2') m (vs.flatMap aE)∧Ext w w':=by
 go_enter func23,ntmps23;go_wp2_with fail;refine Z (au _ ((((Mem.start w).c0 aK #[aA,aB,.slice p n cap,a,b,aD,aF,aC,aG,.slice q m c2]).c1 THD #[I 2,x,ar]).c2 aK zT).ext) fun w1 ay=>?_
 have M1:=(((((Mem.start w).c0 aK #[aA,aB,.slice p n cap,a,b,aD,aF,aC,aG,.slice q m c2]).c1 THD #[I 2,x,ar]).c2 aK zT).adv ay)
 clear ay au;obtain⟨c,d,f,g,h,j,k,l,o,r⟩:=(M1.bk 2).ten;go_wp2_with fail;clear c d f g h j k l o r;refine(HL _ M1.ext).mono ?_;rintro e w2 ⟨p1,av,q1,ax,rfl,ho,hq,hx⟩;have M2:=(M1.own2 hx ho hq (aRp _) (by decide))
 clear M1 hx ho hq;have an:=M2.hi 3;have ao:=M2.hi 4;obtain⟨c,d,f,g,h,j,k,l,o,r⟩:=(M2.bk 4).ten;obtain⟨y,z,aa⟩:=(M2.bk 3).tri;go_wp2_with fail;clear c d f g h j k l o r y z aa;refine(HP _ (M2.c0 aK #[aA,aB,.slice p1 n av,a,b,aD,aF,aC,aG,.slice q1 m ax]).ext).mono ?_;rintro e w3 ⟨p5,aw,rfl,ho,hx⟩;have M3:=((M2.c0 aK #[aA,aB,.slice p1 n av,a,b,aD,aF,aC,aG,.slice q1 m ax]).call hx ho)
 clear M2 an ao hx ho HP;have ap:=M3.hi 5;have aq:=M3.hi 6;obtain⟨c,d,f,g,h,j,k,l,o,r⟩:=(M3.bk 6).ten;obtain⟨y,z,aa⟩:=(M3.bk 5).tri;go_wp2_with fail;clear c d f g h j k l o r y z aa;refine Z (HF _ (M3.c0 TH3 #[aA,aB,.slice p5 n aw]).ext) fun w4 az=>?_
 have M4:=((M3.c0 TH3 #[aA,aB,.slice p5 n aw]).adv az)
 clear M3 ap aq az HF;obtain⟨c,d,f,g,h,j,k,l,o,r⟩:=(M4.bk 7).ten;obtain⟨y,z,aa⟩:=(M4.bk 6).tri;go_wp2_with fail;clear c d f g h j k l o r y z aa;refine Z (HM _ M4.ext) fun w5 a0=>?_
 have M5:=(M4.adv a0)
 clear M4 a0 HM;cases mb with
 |true=>
   have a2:decide (0≤s)=false:=by simp;have:=a1 rfl;omega
   obtain⟨c,d,f,g,h,j,k,l,o,r⟩:=(M5.bk 7).ten;go_wp2_with fail;clear c d f g h j k l o r;refine(HL _ M5.ext).mono ?_;rintro e w9 ⟨p9,t,q9,u,rfl,ho,hq,hx⟩;have M6:=(M5.own2 hx ho hq (aRp _) (by decide))
   clear M5 hx ho hq HL;obtain⟨f0,ad,f1,ae,f2,af,f3,ag,f4,ah,f5,ai,f6,aj,f7,ak,f8,al,f9,am⟩:=(M6.bk 7).tenf;go_wp2;clear f0 ad f1 ae f2 af f3 ag f4 ah f5 ai f6 aj f7 ak f8 al f9 am;have M7:=(M6.put10 (i:=7) rfl (I aA) (I aB) (.slice p9 n t) (I a) (I b) (I aD) (I aF) (I aC) (I aG) (.slice q9 m u))
   generalize ab:World.setCell _ _ _=wz;rw[ab]at M7;clear ab M6;obtain⟨y0,y1,y2,y3,y4,y5,y6,y7,y8,y9⟩:=(M7.bk 7).ten;exact bodyPost_ret (v:= .tuple #[.agg #[aA,aB,.slice p9 n t,a,b,aD,aF,aC,aG,.slice q9 m u],(-1:Int),.bool false]) (by simp[results,results23,go_sem, *]) rfl ⟨p9,t,q9,u,rfl,(M7.ow 0),(M7.ow 1),M7.ext⟩
 |false=>
   obtain⟨c,d,f,g,h,j,k,l,o,r⟩:=(M5.bk 7).ten;go_wp2_with fail;clear c d f g h j k l o r;refine(HL _ M5.ext).mono ?_;rintro e w9 ⟨p9,t,q9,u,rfl,ho,hq,hx⟩;have M6:=(M5.own2 hx ho hq (aRp _) (by decide))
   clear M5 hx ho hq HL;obtain⟨f0,ad,f1,ae,f2,af,f3,ag,f4,ah,f5,ai,f6,aj,f7,ak,f8,al,f9,am⟩:=(M6.bk 7).tenf;go_wp2;clear f0 ad f1 ae f2 af f3 ag f4 ah f5 ai f6 aj f7 ak f8 al f9 am;have M7:=(M6.put10 (i:=7) rfl (I aA) (I aB) (.slice p9 n t) (I a) (I b) (I aD) (I aF) (I aC) (I aG) (.slice q9 m u))
   generalize ab:World.setCell _ _ _=wz;rw[ab]at M7;clear ab M6;obtain⟨y0,y1,y2,y3,y4,y5,y6,y7,y8,y9⟩:=(M7.bk 7).ten;exact bodyPost_ret (v:= .tuple #[.agg #[aA,aB,.slice p9 n t,a,b,aD,aF,aC,aG,.slice q9 m u],(-1:Int),.bool false]) (by simp[results,results23,go_sem, *]) rfl ⟨p9,t,q9,u,rfl,(M7.ow 0),(M7.ow 1),M7.ext⟩
theorem aDl {w:World}{b a n cap k:Nat}{vs:List aP}(h:Sl w (some ⟨b,a,none⟩) n cap 4 (vs.flatMap aE))(hk:k≤n):Sl w (some ⟨b,a,none⟩) k cap 4 ((vs.take k).flatMap aE):=by
 have hl:=h.len;have d:=h.le;have f:=h.mx;have e:(vs.take k).flatMap aE=(vs.flatMap aE).take (k*4):=by
  have h1:vs.flatMap aE=(vs.take k).flatMap aE++(vs.drop k).flatMap aE:=by rw[←aSk,List.take_append_drop]
  have h2:vs.length=n:=by rw[cR aE 4 (fun _=>rfl)]at hl;omega
  have h3:((vs.take k).flatMap aE).length=k*4:=by rw[cR aE 4 (fun _=>rfl),aSd];omega
  rw[h1,←h3,List.take_left]
 rw[e];refine⟨by rw[aSd,hl];omega,by omega,by omega,fun h0=> ?_⟩;obtain⟨b',c,e,hb,hc⟩:=h.rd (by omega);injection e with e;injection e with e1 e2;subst e1 e2;refine⟨_,_,rfl,hb,fun j hj=> ?_⟩;rw[hc j (by omega),List.getElem?_take,if_pos hj]
theorem tQ (aA aB a c aD aF aC aG f h ab:Int)(p:OA)(n cap:Nat)(b g m c2 k:Nat)(xs ys:List Int)(vs:List aP)(w:World)(h0:0≤f)(hk:k<m)(hm:m≤1000)(bo:k+1<c2)(HS:Hid (Sl w (some ⟨b,g,none⟩) m c2 4 (vs.flatMap aE)))
  (ay:xB 21 #[.agg #[aA,aB,.slice p n cap,a,c,aD,aF,aC,aG,.slice (some ⟨b,g,none⟩) m c2]] w true)
  (HL:xC 26 #[.agg #[aA,aB,.slice p n cap,a,c,aD,aF,aC,aG,.slice (some ⟨b,g,none⟩) m c2]] w fun w' e w''=> ∃p' cap' q' c2',e= .returned (.agg #[aA,aB,.slice p' n cap',a,c,aD,aF,aC,aG,.slice q' m c2'])∧w''.ownsRow w' TI 1 (.slice p' n cap') n (ivs xs)∧w''.ownsRow w' TV 4 (.slice q' m c2') m (vs.flatMap aE)∧Ext w' w'')
  (HP:xC 59 #[aH aA aB p n cap,h] w fun w' e w''=> ∃p' cap',e= .returned (.tuple #[aH aA aB p' n cap',f])∧w''.ownsRow w' TI 1 (.slice p' n cap') n (ivs ys)∧Ext w' w'')
  (HF:xC 60 #[.agg #[aA,aB,.slice p n cap,a,c,aD,aF,aC,aG,.slice (some ⟨b,g,none⟩) m c2],h] w fun w' e w''=>e= .returned (I k)∧Ext w' w'')
  (HM:xB 61 #[.agg #[aA,aB,.slice p n cap,a,c,aD,aF,aC,aG,.slice (some ⟨b,g,none⟩) m c2],h] w true):
  U 23 #[.agg #[aA,aB,.slice p n cap,a,c,aD,aF,aC,aG,.slice (some ⟨b,g,none⟩) m c2],.agg #[I 2,h,ab]] w fun e w'=> ∃p' cap' q' c2',e= .returned (.tuple #[.agg #[aA,aB,.slice p' n cap',a,c,aD,aF,aC,aG,.slice q' (m-1) c2'],f,.bool true])∧w'.ownsRow w TI 1 (.slice p' n cap') n (ivs ys)∧w'.ownsRow w TV 4 (.slice q' (m-1) c2') (m-1) ((vs.take k++vs.drop (k+1)).flatMap aE)∧Ext w w':=by
 go_enter func23,ntmps23;go_wp2_with fail;refine Z (ay _ ((((Mem.start w).c0 aK #[aA,aB,.slice p n cap,a,c,aD,aF,aC,aG,.slice (some ⟨b,g,none⟩) m c2]).c1 THD #[I 2,h,ab]).c2 aK zT).ext) fun w1 a1=>?_
 have M1:=(((((Mem.start w).c0 aK #[aA,aB,.slice p n cap,a,c,aD,aF,aC,aG,.slice (some ⟨b,g,none⟩) m c2]).c1 THD #[I 2,h,ab]).c2 aK zT).adv a1)
 clear a1 ay;obtain⟨o,q,r,s,t,u,x,y,z,j⟩:=(M1.bk 2).ten;go_wp2_with fail;clear o q r s t u x y z j;refine(HL _ M1.ext).mono ?_;rintro e w2 ⟨p1,ad,q1,l,rfl,ho,hq,hx⟩;have M2:=(M1.own2 hx ho hq (aRp _) (by decide))
 clear M1 hx ho hq;have au:=M2.hi 3;have av:=M2.hi 4;obtain⟨o,q,r,s,t,u,x,y,z,j⟩:=(M2.bk 4).ten;obtain⟨ae,af,ag⟩:=(M2.bk 3).tri;go_wp2_with fail;clear o q r s t u x y z j ae af ag;refine(HP _ (M2.c0 aK #[aA,aB,.slice p1 n ad,a,c,aD,aF,aC,aG,.slice q1 m l]).ext).mono ?_;rintro e w3 ⟨p5,d,rfl,ho,hx⟩;have M3:=((M2.c0 aK #[aA,aB,.slice p1 n ad,a,c,aD,aF,aC,aG,.slice q1 m l]).call hx ho)
 clear M2 au av hx ho HP;have aw:=M3.hi 5;have ax:=M3.hi 6;obtain⟨o,q,r,s,t,u,x,y,z,j⟩:=(M3.bk 6).ten;obtain⟨ae,af,ag⟩:=(M3.bk 5).tri;go_wp2_with fail;clear o q r s t u x y z j ae af ag;refine Z (HF _ (M3.c0 TH3 #[aA,aB,.slice p5 n d]).ext) fun w4 a2=>?_
 have M4:=((M3.c0 TH3 #[aA,aB,.slice p5 n d]).adv a2)
 clear M3 aw ax a2 HF;obtain⟨o,q,r,s,t,u,x,y,z,j⟩:=(M4.bk 7).ten;obtain⟨ae,af,ag⟩:=(M4.bk 6).tri;go_wp2_with fail;clear o q r s t u x y z j ae af ag;refine Z (HM _ M4.ext) fun w5 a3=>?_
 have M5:=(M4.adv a3)
 clear M4 a3 HM;have hd:decide (f<0)=false:=by simp;omega
 clear HL;obtain⟨d0,ai,d1,aj,d2,ak,d3,al,d4,am,d5,an,d6,ao,d7,ap,d8,aq,d9,ar⟩:=(M5.bk 2).tenf;obtain⟨bg,bh,bi⟩:=(M5.bk 0).tri;go_upto_region 22 with fail;clear d0 ai d1 aj d2 ak d3 al d4 am d5 an d6 ao d7 ap d8 aq d9 ar bg bh bi;have M6:=(((M5.st 2 0 (I aA)).st 2 1 (I aB)).st 2 2 (.slice p5 n d))
 generalize ah:World.setCell _ _ _=w6;rw[ah]at M6;clear ah M5;have aa:=M6.hi 7;have j:=(M6.bk 7).cl 9;obtain⟨d0,ai,d1,aj,d2,ak,d3,al,d4,am,d5,an,d6,ao,d7,ap,d8,aq,d9,ar⟩:=(M6.bk 2).tenf;have i1:(0:Int)≤(k:Int):=by omega
 have i3:(k:Int)≤(c2:Int):=by omega
 have i4:(k:Int)+1≤(m:Int):=by omega
 have i5:(0:Int)≤(k:Int)+1:=by omega
 have i6:((k:Int)+1).toNat=k+1:=by omega
 have i7:IntKind.i64.wrap ((k:Int)+1)=(k:Int)+1:=aRr _ (by omega);have bf: ¬c2=k+1:=by omega
 have be: ¬c2=0:=by omega
 go_cut [] (fun wx=> ∃(q9:OA) (c9:Nat),Mem w wx [aI w TV 4 (q9) (m-1) (c9) ((vs.take k++vs.drop (k+1)).flatMap aE),aJ w w3 TH3 #[aA,aB,.slice p5 n d],aI w TI 1 (p5) (n) (d) (ivs ys),aJ w w2 aK #[aA,aB,.slice p5 n d,a,c,aD,aF,aC,aG,.slice q9 (m-1) c9],aI w TI 1 (p1) (n) (ad) (ivs xs),aI w TV 4 (q1) (m) (l) (vs.flatMap aE),aJ w (w.heap.size+1+1) aK #[(),(),((),()),(),(),(),(),(),(),((),())],aJ w (w.heap.size+1) THD #[I 2,h,ab],aJ w w aK #[aA,aB,.slice p n cap,a,c,aD,aF,aC,aG,.slice (some ⟨b,g,none⟩) m c2]])
 case first=>
  go_region_law ((first
   |(refine gH vW (by rfl) _ _ (by rfl) (by first|exact M6.made0 TV 4 w6 (by simp)|exact(M6.made0 TV 4 w6 (by simp)).adv (by exact .drew (.refl _))|exact(M6.adv xE).made0 TV 4 w6 (by simp)) 0 (by rfl) (by rfl) ((vs.take k).flatMap aE) (by rfl) (aDl (HS.out.ext (M6.ext.trans (by exact .drew (.alloc (.refl _) _)))) (by omega)) (eW _) (by omega) ?_
     intro q7 c7 w7 az;have M7:=(show Mem w w7 [aI w TV 4 (q7) (k) (c7) ((vs.take k).flatMap aE),aJ w w3 TH3 #[aA,aB,.slice p5 n d],aI w TI 1 (p5) (n) (d) (ivs ys),aJ w w2 aK #[aA,aB,.slice p5 n d,a,c,aD,aF,aC,aG,.slice q1 m l],aI w TI 1 (p1) (n) (ad) (ivs xs),aI w TV 4 (q1) (m) (l) (vs.flatMap aE),aJ w (w.heap.size+1+1) aK #[(),(),((),()),(),(),(),(),(),(),((),())],aJ w (w.heap.size+1) THD #[I 2,h,ab],aJ w w aK #[aA,aB,.slice p n cap,a,c,aD,aF,aC,aG,.slice (some ⟨b,g,none⟩) m c2]]from by simpa only[aS1,aSs,aTa]using az)
     clear az;have bl:=(M7.bk 8).cl 9
     have bm:(w2:Nat)<w7:=(M7.hi 3))
   |(refine gH vW (by rfl) _ _ (by rfl) (M7.adv (by exact .refl _)) 0 (by rfl) (by rfl) ((vs.drop (k+1)).flatMap aE) (by rfl) (kX (k+1) vs▸aDm (HS.out.ext (M7.ext.trans (by exact .refl _))) (by omega)) (eW _) (by omega) ?_
     intro q9 c9 w9 a0;have M9:=(show Mem w w9 [aI w TV 4 (q9) (k+(m-(k+1))) (c9) ((vs.take k).flatMap aE++(vs.drop (k+1)).flatMap aE),aJ w w3 TH3 #[aA,aB,.slice p5 n d],aI w TI 1 (p5) (n) (d) (ivs ys),aJ w w2 aK #[aA,aB,.slice p5 n d,a,c,aD,aF,aC,aG,.slice q1 m l],aI w TI 1 (p1) (n) (ad) (ivs xs),aI w TV 4 (q1) (m) (l) (vs.flatMap aE),aJ w (w.heap.size+1+1) aK #[(),(),((),()),(),(),(),(),(),(),((),())],aJ w (w.heap.size+1) THD #[I 2,h,ab],aJ w w aK #[aA,aB,.slice p n cap,a,c,aD,aF,aC,aG,.slice (some ⟨b,g,none⟩) m c2]]from a0)
     clear a0;have bp:=(M9.bk 3).cl 9;have bj:=(M9.bk 3).frozen 9
     have bq:(w2:Nat)<w9:=(M9.hi 3))))
  all_goals (
   have e1:k+(m-(k+1))=m-1:=by omega
   have e2:(vs.take k).flatMap aE++(vs.drop (k+1)).flatMap aE=(vs.take k++vs.drop (k+1)).flatMap aE:=by simp
   have MZ:=(show Mem w w9 [aI w TV 4 (q9) (m-1) (c9) ((vs.take k++vs.drop (k+1)).flatMap aE),aJ w w3 TH3 #[aA,aB,.slice p5 n d],aI w TI 1 (p5) (n) (d) (ivs ys),aJ w w2 aK #[aA,aB,.slice p5 n d,a,c,aD,aF,aC,aG,.slice q1 m l],aI w TI 1 (p1) (n) (ad) (ivs xs),aI w TV 4 (q1) (m) (l) (vs.flatMap aE),aJ w (w.heap.size+1+1) aK #[(),(),((),()),(),(),(),(),(),(),((),())],aJ w (w.heap.size+1) THD #[I 2,h,ab],aJ w w aK #[aA,aB,.slice p n cap,a,c,aD,aF,aC,aG,.slice (some ⟨b,g,none⟩) m c2]]from by have:=M9;rw[e2]at this;simpa only[e1]using this)
   clear e2 M9 M7)
  all_goals go_wp2_with fail
  all_goals go_meet
  all_goals exact⟨q9,c9,by first|exact(MZ.store (i:=3) rfl 9 (.slice q9 (m-1) c9))|(simp only[e1];exact(MZ.store (i:=3) rfl 9 (.slice q9 (m-1) c9)))⟩
 case rest=>
  obtain⟨q9,c9,MC⟩:=hcut;have MC:=xQ MC;clear M6 i1 i3 i4 i5 i6 i7 bf be j d0 ai d1 aj d2 ak d3 al d4 am d5 an d6 ao d7 ap d8 aq d9 ar aa;have aa:w.heap.size+1<wc.heap.size:=(MC.out.hi 7)
  obtain⟨e0,e1,e2,e3,e4,e5,e6,e7,e8,e9⟩:=(MC.out.bk 3).ten;obtain⟨f0,a4,f1,a5,f2,a6,f3,a7,f4,a8,f5,a9,f6,ba,f7,bb,f8,bc,f9,bd⟩:=(MC.out.bk 6).tenf;go_upto_region 33 with fail;go_wp2;clear e0 e1 e2 e3 e4 e5 e6 e7 e8 e9 f0 a4 f1 a5 f2 a6 f3 a7 f4 a8 f5 a9 f6 ba f7 bb f8 bc f9 bd aa;have M7:=(MC.out.put10 (i:=6) rfl (I aA) (I aB) (.slice p5 n d) (I a) (I c) (I aD) (I aF) (I aC) (I aG) (.slice q9 (m-1) c9))
  generalize ah:World.setCell _ _ _=wz;rw[ah]at M7;clear ah MC;obtain⟨y0,y1,y2,y3,y4,y5,y6,y7,y8,y9⟩:=(M7.bk 6).ten;exact bodyPost_ret (v:= .tuple #[.agg #[aA,aB,.slice p5 n d,a,c,aD,aF,aC,aG,.slice q9 (m-1) c9],f,.bool true]) (by simp[results,results23,go_sem, *]) rfl ⟨p5,d,q9,c9,rfl,(M7.ow 2),(M7.ow 0),M7.ext⟩
theorem rX (aA aB a c aD aF aC aG f j ab:Int)(p:OA)(n cap:Nat)(b g k:Nat)(xs ys:List Int)(vs:List aP)(w:World)(h0:0≤f)(hm:(k+1)≤1000)(be:Hid (vs.drop (k+1)= []))(HS:Hid (Sl w (some ⟨b,g,none⟩) (k+1) (k+1) 4 (vs.flatMap aE)))
  (ay:xB 21 #[.agg #[aA,aB,.slice p n cap,a,c,aD,aF,aC,aG,.slice (some ⟨b,g,none⟩) (k+1) (k+1)]] w true)
  (HL:xC 26 #[.agg #[aA,aB,.slice p n cap,a,c,aD,aF,aC,aG,.slice (some ⟨b,g,none⟩) (k+1) (k+1)]] w fun w' e w''=> ∃p' cap' q' c2',e= .returned (.agg #[aA,aB,.slice p' n cap',a,c,aD,aF,aC,aG,.slice q' (k+1) c2'])∧w''.ownsRow w' TI 1 (.slice p' n cap') n (ivs xs)∧w''.ownsRow w' TV 4 (.slice q' (k+1) c2') (k+1) (vs.flatMap aE)∧Ext w' w'')
  (HP:xC 59 #[aH aA aB p n cap,j] w fun w' e w''=> ∃p' cap',e= .returned (.tuple #[aH aA aB p' n cap',f])∧w''.ownsRow w' TI 1 (.slice p' n cap') n (ivs ys)∧Ext w' w'')
  (HF:xC 60 #[.agg #[aA,aB,.slice p n cap,a,c,aD,aF,aC,aG,.slice (some ⟨b,g,none⟩) (k+1) (k+1)],j] w fun w' e w''=>e= .returned (I k)∧Ext w' w'')
  (HM:xB 61 #[.agg #[aA,aB,.slice p n cap,a,c,aD,aF,aC,aG,.slice (some ⟨b,g,none⟩) (k+1) (k+1)],j] w true):
  U 23 #[.agg #[aA,aB,.slice p n cap,a,c,aD,aF,aC,aG,.slice (some ⟨b,g,none⟩) (k+1) (k+1)],.agg #[I 2,j,ab]] w fun e w'=> ∃p' cap' q' c2',e= .returned (.tuple #[.agg #[aA,aB,.slice p' n cap',a,c,aD,aF,aC,aG,.slice q' (k) c2'],f,.bool true])∧w'.ownsRow w TI 1 (.slice p' n cap') n (ivs ys)∧w'.ownsRow w TV 4 (.slice q' (k) c2') (k) ((vs.take k++vs.drop (k+1)).flatMap aE)∧Ext w w':=by
 go_enter func23,ntmps23;go_wp2_with fail;refine Z (ay _ ((((Mem.start w).c0 aK #[aA,aB,.slice p n cap,a,c,aD,aF,aC,aG,.slice (some ⟨b,g,none⟩) (k+1) (k+1)]).c1 THD #[I 2,j,ab]).c2 aK zT).ext) fun w1 a1=>?_
 have M1:=(((((Mem.start w).c0 aK #[aA,aB,.slice p n cap,a,c,aD,aF,aC,aG,.slice (some ⟨b,g,none⟩) (k+1) (k+1)]).c1 THD #[I 2,j,ab]).c2 aK zT).adv a1)
 clear a1 ay;obtain⟨o,q,r,s,t,u,x,y,z,l⟩:=(M1.bk 2).ten;go_wp2_with fail;clear o q r s t u x y z l;refine(HL _ M1.ext).mono ?_;rintro e w2 ⟨p1,ad,q1,m,rfl,ho,hq,hx⟩;have M2:=(M1.own2 hx ho hq (aRp _) (by decide))
 clear M1 hx ho hq;have au:=M2.hi 3;have av:=M2.hi 4;obtain⟨o,q,r,s,t,u,x,y,z,l⟩:=(M2.bk 4).ten;obtain⟨ae,af,ag⟩:=(M2.bk 3).tri;go_wp2_with fail;clear o q r s t u x y z l ae af ag;refine(HP _ (M2.c0 aK #[aA,aB,.slice p1 n ad,a,c,aD,aF,aC,aG,.slice q1 (k+1) m]).ext).mono ?_;rintro e w3 ⟨p5,d,rfl,ho,hx⟩;have M3:=((M2.c0 aK #[aA,aB,.slice p1 n ad,a,c,aD,aF,aC,aG,.slice q1 (k+1) m]).call hx ho)
 clear M2 au av hx ho HP;have aw:=M3.hi 5;have ax:=M3.hi 6;obtain⟨o,q,r,s,t,u,x,y,z,l⟩:=(M3.bk 6).ten;obtain⟨ae,af,ag⟩:=(M3.bk 5).tri;go_wp2_with fail;clear o q r s t u x y z l ae af ag;refine Z (HF _ (M3.c0 TH3 #[aA,aB,.slice p5 n d]).ext) fun w4 a2=>?_
 have M4:=((M3.c0 TH3 #[aA,aB,.slice p5 n d]).adv a2)
 clear M3 aw ax a2 HF;obtain⟨o,q,r,s,t,u,x,y,z,l⟩:=(M4.bk 7).ten;obtain⟨ae,af,ag⟩:=(M4.bk 6).tri;go_wp2_with fail;clear o q r s t u x y z l ae af ag;refine Z (HM _ M4.ext) fun w5 a3=>?_
 have M5:=(M4.adv a3)
 clear M4 a3 HM;have hd:decide (f<0)=false:=by simp;omega
 clear HL;obtain⟨d0,ai,d1,aj,d2,ak,d3,al,d4,am,d5,an,d6,ao,d7,ap,d8,aq,d9,ar⟩:=(M5.bk 2).tenf;obtain⟨bf,bg,bh⟩:=(M5.bk 0).tri;go_upto_region 22 with fail;clear d0 ai d1 aj d2 ak d3 al d4 am d5 an d6 ao d7 ap d8 aq d9 ar bf bg bh;have M6:=(((M5.st 2 0 (I aA)).st 2 1 (I aB)).st 2 2 (.slice p5 n d))
 generalize ah:World.setCell _ _ _=w6;rw[ah]at M6;clear ah M5;have aa:=M6.hi 7;have l:=(M6.bk 7).cl 9;obtain⟨d0,ai,d1,aj,d2,ak,d3,al,d4,am,d5,an,d6,ao,d7,ap,d8,aq,d9,ar⟩:=(M6.bk 2).tenf;have i1:(0:Int)≤(k:Int):=by omega
 have i2:(k:Int)≤((k+1):Int):=by omega
 have i5:(0:Int)≤(k:Int)+1:=by omega
 have i6:((k:Int)+1).toNat=k+1:=by omega
 have i7:IntKind.i64.wrap ((k:Int)+1)=(k:Int)+1:=aRr _ (by omega);go_cut [] (fun wx=> ∃(q9:OA) (c9:Nat),Mem w wx [aI w TV 4 (q9) (k) (c9) ((vs.take k++vs.drop (k+1)).flatMap aE),aJ w w3 TH3 #[aA,aB,.slice p5 n d],aI w TI 1 (p5) (n) (d) (ivs ys),aJ w w2 aK #[aA,aB,.slice p5 n d,a,c,aD,aF,aC,aG,.slice q9 (k) c9],aI w TI 1 (p1) (n) (ad) (ivs xs),aI w TV 4 (q1) (k+1) (m) (vs.flatMap aE),aJ w (w.heap.size+1+1) aK #[(),(),((),()),(),(),(),(),(),(),((),())],aJ w (w.heap.size+1) THD #[I 2,j,ab],aJ w w aK #[aA,aB,.slice p n cap,a,c,aD,aF,aC,aG,.slice (some ⟨b,g,none⟩) (k+1) (k+1)]])
 case first=>
  go_region_law ((first
   |(refine gH vW (by rfl) _ _ (by rfl) (by first|exact M6.made0 TV 4 w6 (by simp)|exact(M6.made0 TV 4 w6 (by simp)).adv (by exact .drew (.refl _))|exact(M6.adv xE).made0 TV 4 w6 (by simp)) 0 (by rfl) (by rfl) ((vs.take k).flatMap aE) (by rfl) (aDl (HS.out.ext (M6.ext.trans (by exact .drew (.alloc (.refl _) _)))) (by omega)) (eW _) (by omega) ?_
     intro q7 c7 w7 az;have M7:=(show Mem w w7 [aI w TV 4 (q7) (k) (c7) ((vs.take k).flatMap aE),aJ w w3 TH3 #[aA,aB,.slice p5 n d],aI w TI 1 (p5) (n) (d) (ivs ys),aJ w w2 aK #[aA,aB,.slice p5 n d,a,c,aD,aF,aC,aG,.slice q1 (k+1) m],aI w TI 1 (p1) (n) (ad) (ivs xs),aI w TV 4 (q1) (k+1) (m) (vs.flatMap aE),aJ w (w.heap.size+1+1) aK #[(),(),((),()),(),(),(),(),(),(),((),())],aJ w (w.heap.size+1) THD #[I 2,j,ab],aJ w w aK #[aA,aB,.slice p n cap,a,c,aD,aF,aC,aG,.slice (some ⟨b,g,none⟩) (k+1) (k+1)]]from by simpa only[aS1,aSs,aTa]using az)
     clear az;have bj:=(M7.bk 8).cl 9
     have bl:(w2:Nat)<w7:=(M7.hi 3))
   |(refine gH vW (by rfl) _ _ (by rfl) (M7.adv (by exact .refl _)) 0 (by rfl) (by rfl) (([]:List aP).flatMap aE) (by rfl) (⟨by simp,aRv _,by have:=HS.out.mx;omega,fun h=>absurd h (by omega)⟩) (eW _) (by omega) ?_
     intro q9 c9 w9 a0;have M9:=(show Mem w w9 [aI w TV 4 (q9) (k+(0)) (c9) ((vs.take k).flatMap aE++([]:List aP).flatMap aE),aJ w w3 TH3 #[aA,aB,.slice p5 n d],aI w TI 1 (p5) (n) (d) (ivs ys),aJ w w2 aK #[aA,aB,.slice p5 n d,a,c,aD,aF,aC,aG,.slice q1 (k+1) m],aI w TI 1 (p1) (n) (ad) (ivs xs),aI w TV 4 (q1) (k+1) (m) (vs.flatMap aE),aJ w (w.heap.size+1+1) aK #[(),(),((),()),(),(),(),(),(),(),((),())],aJ w (w.heap.size+1) THD #[I 2,j,ab],aJ w w aK #[aA,aB,.slice p n cap,a,c,aD,aF,aC,aG,.slice (some ⟨b,g,none⟩) (k+1) (k+1)]]from a0)
     clear a0;have bm:=(M9.bk 3).cl 9;have bi:=(M9.bk 3).frozen 9
     have bo:(w2:Nat)<w9:=(M9.hi 3))))
  all_goals (
   have e1:k+(0)=k:=by omega
   have e2:(vs.take k).flatMap aE++([]:List aP).flatMap aE=(vs.take k++vs.drop (k+1)).flatMap aE:=by rw[be.out];simp
   skip;have MZ:=(show Mem w w9 [aI w TV 4 (q9) (k) (c9) ((vs.take k++vs.drop (k+1)).flatMap aE),aJ w w3 TH3 #[aA,aB,.slice p5 n d],aI w TI 1 (p5) (n) (d) (ivs ys),aJ w w2 aK #[aA,aB,.slice p5 n d,a,c,aD,aF,aC,aG,.slice q1 (k+1) m],aI w TI 1 (p1) (n) (ad) (ivs xs),aI w TV 4 (q1) (k+1) (m) (vs.flatMap aE),aJ w (w.heap.size+1+1) aK #[(),(),((),()),(),(),(),(),(),(),((),())],aJ w (w.heap.size+1) THD #[I 2,j,ab],aJ w w aK #[aA,aB,.slice p n cap,a,c,aD,aF,aC,aG,.slice (some ⟨b,g,none⟩) (k+1) (k+1)]]from by have:=M9;rw[e2]at this;simpa only[e1]using this)
   clear e2 M9 M7)
  all_goals go_wp2_with fail
  all_goals go_meet
  all_goals exact⟨q9,c9,by first|exact(MZ.store (i:=3) rfl 9 (.slice q9 (k) c9))|(simp only[e1];exact(MZ.store (i:=3) rfl 9 (.slice q9 (k) c9)))⟩
 case rest=>
  obtain⟨q9,c9,MC⟩:=hcut;have MC:=xQ MC;clear M6 i1 i2 i5 i6 i7 l d0 ai d1 aj d2 ak d3 al d4 am d5 an d6 ao d7 ap d8 aq d9 ar aa;have aa:w.heap.size+1<wc.heap.size:=(MC.out.hi 7)
  obtain⟨e0,e1,e2,e3,e4,e5,e6,e7,e8,e9⟩:=(MC.out.bk 3).ten;obtain⟨f0,a4,f1,a5,f2,a6,f3,a7,f4,a8,f5,a9,f6,ba,f7,bb,f8,bc,f9,bd⟩:=(MC.out.bk 6).tenf;go_upto_region 33 with fail;go_wp2;clear e0 e1 e2 e3 e4 e5 e6 e7 e8 e9 f0 a4 f1 a5 f2 a6 f3 a7 f4 a8 f5 a9 f6 ba f7 bb f8 bc f9 bd aa;have M7:=(MC.out.put10 (i:=6) rfl (I aA) (I aB) (.slice p5 n d) (I a) (I c) (I aD) (I aF) (I aC) (I aG) (.slice q9 (k) c9))
  generalize ah:World.setCell _ _ _=wz;rw[ah]at M7;clear ah MC;obtain⟨y0,y1,y2,y3,y4,y5,y6,y7,y8,y9⟩:=(M7.bk 6).ten;exact bodyPost_ret (v:= .tuple #[.agg #[aA,aB,.slice p5 n d,a,c,aD,aF,aC,aG,.slice q9 (k) c9],f,.bool true]) (by simp[results,results23,go_sem, *]) rfl ⟨p5,d,q9,c9,rfl,(M7.ow 2),(M7.ow 0),M7.ext⟩
end
def aIy (h:aL)(r:Option (aL×Int))(w:World)(e:Ending)(w':World):Prop:=
 match r with
 |none=> ∃p cap q c2,e= .returned (.tuple #[bM h p h.cells.length cap q h.vs.length c2,(-1:Int),.bool false])∧w'.ownsRow w.heap.size TI 1 (.slice p h.cells.length cap) h.cells.length (ivs h.cells)∧w'.ownsRow w.heap.size TV 4 (.slice q h.vs.length c2) h.vs.length (h.vs.flatMap aE)∧Ext w w'
 |some (h',n)=> ∃p cap q c2,e= .returned (.tuple #[bM h' p h'.cells.length cap q h'.vs.length c2,n,.bool true])∧w'.ownsRow w.heap.size TI 1 (.slice p h'.cells.length cap) h'.cells.length (ivs h'.cells)∧w'.ownsRow w.heap.size TV 4 (.slice q h'.vs.length c2) h'.vs.length (h'.vs.flatMap aE)∧Ext w w'
theorem dE {h:aL}(a:aR h=true):h.cells.length≤12∧h.vs.length≤12∧4≤h.cells.length:=by obtain⟨q1,q2,q3,q4,q5⟩:=(eL h).1 a;have hb:=cE (cQ q1);have:=congrArg List.length q4;rw[iX,aSg]at this;have:=kG h.cells;omega
theorem vM (h:aL)(k a b:Int)(p:OA)(n cap:Nat)(q:OA)(m c2:Nat)(w:World)(hi:IsHouse w h p n cap q m c2)(c:aR h=false):
  U 23 #[bM h p n cap q m c2,fU k a b] w (O (.tuple #[.agg #[(),(),((),()),(),(),(),(),(),(),((),())],(-1:Int),.bool false]) w):=
 aG6 h.aA h.aB h.free h.step h.aD h.aF h.aC h.aG k a b p n cap q m c2 h.cells h.vs w (xQ fun w' hx=>by have:=iE h p n cap q m c2 w' (hi.ext hx);rwa[c]at this)
theorem uS (h:aL)(k a b:Int)(p:OA)(n cap:Nat)(q:OA)(m c2:Nat)(w:World)(hi:IsHouse w h p n cap q m c2)(i:aR h=true):
  U 23 #[bM h p n cap q m c2,fU k a b] w (aIy h (cO h k a b) w):=by
 obtain⟨q1,q2,q3,q4,q5⟩:=(eL h).1 i;have ab:=dE i;have hl:=hi.clen;have o:=hi.vlen;have hS:=hi.cells;have hV:=hi.vs;subst hl o;have d:=xQ fun(w':World) (hx:Ext w w')=>(by have:=iE h p _ cap q _ c2 w' (hi.ext hx);rwa[i]at this:U 21 #[bM h p h.cells.length cap q h.vs.length c2] w' (O (.bool true) w'))
 have HL:=xQ fun(w':World) (hx:Ext w w')=>lZ h p _ cap q _ c2 w' (by omega) (by omega) (hi.ext hx)
 unfold RetHouse at HL;by_cases k0:k=0
 ·subst k0;have HP:=xQ fun(w':World) (hx:Ext w w')=>aD4 h.aA h.aB a p _ cap h.cells w' (hS.ext hx) q1
  have e0:cO h 0 a b=(if 0≤(cK h.aA h.aB h.cells a).2 then some ({h with cells:=(cK h.aA h.aB h.cells a).1,vs:=lF (a,h.aC,0,h.aC) h.vs},(cK h.aA h.aB h.cells a).2)else none):=by unfold cO;rw[if_pos rfl]
  have el:(cK h.aA h.aB h.cells a).1.length=h.cells.length:=by
   by_cases h0:0≤(cK h.aA h.aB h.cells a).2
   ·obtain⟨zs,s1,_,_,s4,_⟩:=nP q1 h0;rw[s4,aTb,s1.length_eq]
   unfold cK at h0⊢;split at h0
   ·rfl
   dsimp only at h0;omega
  unfold cT at HP;rw[el]at HP;rw[e0];by_cases h0:0≤(cK h.aA h.aB h.cells a).2
  ·rw[if_pos h0];have HQ:=xQ fun(w':World) (hx:Ext w w')=>aK9 a h.aC 0 h.aC q _ c2 h.vs w' (by omega) (hV.ext hx)
   refine(tO h.aA h.aB h.free h.step h.aD h.aF h.aC h.aG (cK h.aA h.aB h.cells a).2 a b p _ cap q _ c2 h.cells (cK h.aA h.aB h.cells a).1 h.vs (lF (a,h.aC,0,h.aC) h.vs) w h0 d HL HP HQ).mono ?_;rintro e w' ⟨p',c,q',f,rfl,o1,o2,hx⟩;refine⟨p',c,q',f,?_,?_,?_,hx⟩
   ·simp[bM,el,sD]
   ·dsimp only;rw[el];exact o1
   dsimp only;rw[sD];exact o2
  rw[if_neg h0];exact vP h.aA h.aB h.free h.step h.aD h.aF h.aC h.aG (cK h.aA h.aB h.cells a).2 a b p _ cap q _ c2 h.cells (cK h.aA h.aB h.cells a).1 h.vs w (by omega) d HL HP
 by_cases k1:k=1
 ·subst k1;have HP:=xQ fun(w':World) (hx:Ext w w')=>aKa h a b p _ cap q _ c2 w' (by omega) (by omega) (hi.ext hx) q2 (fun v hv=>(iY _ _).1 (q5 v hv)) q3.2.1 q3.2.2.1 q3.2.2.2
  have e0:cO h 1 a b=oY h a b:=by unfold cO;rw[if_neg (by omega),if_pos rfl]
  rw[e0];cases hp:oY h a b with
  |none=>rw[hp]at HP;exact yW h.aA h.aB h.free h.step h.aD h.aF h.aC h.aG a b p _ cap q _ c2 h.cells h.vs w d HL HP
  |some r=>
   obtain⟨h',bk⟩:=r;rw[hp]at HP;have hd:=rH i (e0.trans hp);have hv:h'.vs.length=h.vs.length∧h'.cells=h.cells∧h'.aC=h.aC:=by
    unfold oY at hp;split at hp
    ·cases hp
    split at hp
    ·injection hp with hp;simp only[aSy]at hp;obtain⟨rfl,_⟩:=hp;exact⟨by simp,rfl,rfl⟩
    cases hp
   obtain⟨t1,t2,t3,t4,t5,t6,t7,t8,t9⟩:=hd;obtain⟨v1,v2,v3⟩:=hv;obtain⟨hw,y,hc,hf,hs,aa,u,x,l,s⟩:=h';dsimp only at t4 t5 t6 t7 t8 t9 v1 v2 v3;subst t4 t5 t6 t7 t8 t9 v2 v3;unfold aOo at HP;dsimp only at HP;rw[v1]at HP;refine(wQ h.aA h.aB h.free h.step h.aD h.aF h.aC h.aG l bk a b p _ cap q _ c2 h.cells h.vs s w t2.1 d HL HP).mono ?_;rintro e w' ⟨p',c,q',f,rfl,o1,o2,hx⟩;refine⟨p',c,q',f,?_,o1,?_,hx⟩
   ·simp[bM,v1]
   dsimp only;rw[v1];exact o2
 by_cases k2:k=2
 ·subst k2;have HP:=xQ fun(w':World) (hx:Ext w w')=>aF0 h.aA h.aB a p _ cap h.cells w' (hS.ext hx) q1
  have HF:=xQ fun(w':World) (hx:Ext w w')=>rG h.aA h.aB h.free h.step h.aD h.aF h.aC h.aG a p h.cells.length cap q _ c2 h.vs w' (hV.ext hx)
  have HM:=fun(w':World) (hx:Ext w w')=>rV h a p _ cap q _ c2 w' (hi.ext hx)
  have e0:cO h 2 a b=(if dQ h a=true∧0≤(cA h.aA h.aB h.cells a).2 then some ({h with cells:=(cA h.aA h.aB h.cells a).1,vs:=h.vs.eraseIdx (vix a h.vs).toNat},(cA h.aA h.aB h.cells a).2)else none):=by unfold cO;rw[if_neg (by omega),if_neg (by omega),if_pos rfl]
  have el:(cA h.aA h.aB h.cells a).1.length=h.cells.length:=by
   by_cases h0:0≤(cA h.aA h.aB h.cells a).2
   ·obtain⟨zs,s1,_,_,s4,_⟩:=mE q1 h0;rw[s4,aTb,s1.length_eq]
   unfold cA at h0⊢;split at h0
   ·rfl
   dsimp only at h0;omega
  unfold cT at HP;rw[el]at HP;rw[e0];by_cases h0:dQ h a=true∧0≤(cA h.aA h.aB h.cells a).2
  ·rw[if_pos h0];have hv: ∃v,eA a h.vs=some v:=by
    have:=h0.1;unfold dQ cV at this;rw[if_pos i]at this;cases hv:eA a h.vs with
    |none=>rw[hv]at this;simp at this
    |some v=>exact⟨v,rfl⟩
   obtain⟨v,hv⟩:=hv;obtain⟨v1,v2,v3,v4,v5,v6⟩:=kR hv;generalize hk:(vix a h.vs).toNat=kk at*;rw[v5]at HF;rw[h0.1]at HM;obtain⟨bb,j,rfl,t,_⟩:=hV.rd (by omega);have ee:h.vs.eraseIdx kk=h.vs.take kk++h.vs.drop (kk+1):=List.eraseIdx_eq_take_drop_succ _ _;have g:(h.vs.eraseIdx kk).length=h.vs.length-1:=by rw[List.length_eraseIdx,if_pos v4]
   by_cases hcc:kk+1<c2
   ·refine(tQ h.aA h.aB h.free h.step h.aD h.aF h.aC h.aG (cA h.aA h.aB h.cells a).2 a b p _ cap bb j _ c2 kk h.cells (cA h.aA h.aB h.cells a).1 h.vs w h0.2 v4 (by omega) hcc (xQ hV) d HL HP HF HM).mono ?_;rintro e w' ⟨p',c,q',f,rfl,o1,o2,hx⟩;refine⟨p',c,q',f,?_,?_,?_,hx⟩
    ·simp only[bM,el,g]
    ·dsimp only;rw[el];exact o1
    dsimp only;rw[g,ee];exact o2
   have z:=hV.le;have e1:c2=kk+1:=by omega
   have e2:h.vs.length=kk+1:=by omega
   subst e1;rw[e2]at hV d HL HF HM g⊢;refine(rX h.aA h.aB h.free h.step h.aD h.aF h.aC h.aG (cA h.aA h.aB h.cells a).2 a b p _ cap bb j kk h.cells (cA h.aA h.aB h.cells a).1 h.vs w h0.2 (by omega) (xQ (aT7 (by omega))) (xQ hV) d HL HP HF HM).mono ?_;rintro e w' ⟨p',c,q',f,rfl,o1,o2,hx⟩;refine⟨p',c,q',f,?_,?_,?_,hx⟩
   ·simp[bM,el,g]
   ·dsimp only;rw[el];exact o1
   dsimp only;rw[g,ee,Nat.add_sub_cancel];exact o2
  rw[if_neg h0]
  exact vR h.aA h.aB h.free h.step h.aD h.aF h.aC h.aG (cA h.aA h.aB h.cells a).2 (vix a h.vs) a b p _ cap q _ c2 h.cells (cA h.aA h.aB h.cells a).1 h.vs w (dQ h a) (fun e=>by
   by_cases hx:0≤(cA h.aA h.aB h.cells a).2
   ·exact absurd ⟨e,hx⟩ h0
   ·omega) d HL HP HF HM
 by_cases k3:k=3
 ·subst k3;have e0:cO h 3 a b=(if 1≤a∧a≤9999-h.aC then some ({h with aC:=h.aC+a},h.aC+a)else none):=by unfold cO;rw[if_neg (by omega),if_neg (by omega),if_neg (by omega),if_pos rfl]
  rw[e0];by_cases h0:1≤a∧a≤9999-h.aC
  ·rw[if_pos h0];exact vO h.aA h.aB h.free h.step h.aD h.aF h.aC h.aG a b p _ cap q _ c2 h.cells h.vs w q3.1 q3.2.1 h0.1 h0.2 d HL (xQ fun w'=>nH a 1 (9999-h.aC) w' h0.1 h0.2)
  rw[if_neg h0];exact wP h.aA h.aB h.free h.step h.aD h.aF h.aC h.aG a b p _ cap q _ c2 h.cells h.vs w q3.1 q3.2.1 d HL (xQ fun w'=>wB a 1 (9999-h.aC) w' (by omega))
 by_cases k4:k=4
 ·subst k4;have HP:=xQ fun(w':World) (hx:Ext w w')=>mK h.aA h.aB a b p _ cap h.cells w' (hS.ext hx) q1
  have e0:cO h 4 a b=(if bF h.aA h.aB h.cells a b=true then some ({h with cells:=bI h.aA h.aB h.cells a b},0)else none):=by unfold cO;rw[if_neg (by omega),if_neg (by omega),if_neg (by omega),if_neg (by omega),if_pos rfl]
  unfold cW at HP;rw[dB]at HP;rw[e0];cases hm:bF h.aA h.aB h.cells a b with
  |true=>
   rw[hm]at HP;rw[if_pos rfl];refine(tP h.aA h.aB h.free h.step h.aD h.aF h.aC h.aG a b p _ cap q _ c2 h.cells (bI h.aA h.aB h.cells a b) h.vs w d HL HP).mono ?_;rintro e w' ⟨p',c,q',f,rfl,o1,o2,hx⟩;refine⟨p',c,q',f,?_,?_,o2,hx⟩
   ·simp only[bM,dB]
   dsimp only;rw[dB];exact o1
  |false=>rw[hm]at HP;rw[if_neg (by simp)];exact vQ h.aA h.aB h.free h.step h.aD h.aF h.aC h.aG a b p _ cap q _ c2 h.cells (bI h.aA h.aB h.cells a b) h.vs w d HL HP
 have e0:cO h k a b=none:=by unfold cO;rw[if_neg k0,if_neg k1,if_neg k2,if_neg k3,if_neg k4]
 rw[e0];exact aBg h.aA h.aB h.free h.step h.aD h.aF h.aC h.aG k a b p _ cap q _ c2 h.cells h.vs w k0 k1 k2 k3 k4 d HL
section
open Go.Proofs.Tryz
def nO (D:aP→Int)(vs:List aP):Int:=vs.foldl (fun a v=>a+D v) 0
theorem zU (D:aP→Int){vs:List aP}{k:Nat}{v:aP}(h:vs[k]? =some v):nO D (vs.take (k+1))=nO D (vs.take k)+D v:=by unfold nO;rw[aY h,List.foldl_append];rfl
theorem aB4 (D:aP→Int): ∀(vs:List aP) (a:Int),(∀v∈vs,0≤D v∧D v≤693)→a≤vs.foldl (fun a v=>a+D v) a∧vs.foldl (fun a v=>a+D v) a≤a+693*vs.length:=by
 intro vs;induction vs with
 |nil=>intro a _;simp
 |cons v vs ih=>intro a h;obtain⟨h0,h1⟩:=h v (by simp);have:=ih (a+D v) (fun x hx=>h x (by simp[hx]));simp only[List.foldl_cons,aSo];omega
theorem aH6 (aA aB a b aD aF aC aG:Int)(p:OA)(n cap:Nat)(q:OA)(m c2:Nat)(w:World)(HV:xB 31 #[.agg #[aA,aB,.slice p n cap,a,b,aD,aF,aC,aG,.slice q m c2]] w false):
  U 89 #[.agg #[aA,aB,.slice p n cap,a,b,aD,aF,aC,aG,.slice q m c2]] w (O (I (-1)) w):=by
 go_enter func89,ntmps89;go_wp2_with fail;refine Z (HV _ (by exact .alloc (.refl _) _)) fun w1 c=>?_
 go_wp2;go_ret;exact⟨rfl,by exact .trans (.alloc (.refl _) _) c⟩
theorem aFu (aA aB a b aD aF aC aG:Int)(p:OA)(n cap:Nat)(q:OA)(m c2:Nat)(w:World)(HV:xB 21 #[.agg #[aA,aB,.slice p n cap,a,b,aD,aF,aC,aG,.slice q m c2]] w false):
  U 67 #[.agg #[aA,aB,.slice p n cap,a,b,aD,aF,aC,aG,.slice q m c2]] w (O (I (-1)) w):=by
 go_enter func67,ntmps67;go_wp2_with fail;refine Z (HV _ (by exact .alloc (.refl _) _)) fun w1 c=>?_
 go_wp2;go_ret;exact⟨rfl,by exact .trans (.alloc (.refl _) _) c⟩
theorem aEj (aA aB a c aD aF aC aG:Int)(p:OA)(n cap:Nat)(q:OA)(m c2:Nat)(w:World)(vs:List aP)(D:aP→Int)(hm:m≤12)(HB:Hid (∀v∈vs,0≤D v∧D v≤693))(HS:Hid (Sl w q m c2 4 (vs.flatMap aE)))
  (HV:xB 31 #[.agg #[aA,aB,.slice p n cap,a,c,aD,aF,aC,aG,.slice q m c2]] w true)
  (HD:Hid (∀w' (k:Nat) a0 a1 a2 a3,vs[k]? =some (a0,a1,a2,a3)→U 130 #[aT a c aD aF,bS a1 a2 a3,aC] w' (O (I (D (a0,a1,a2,a3))) w'))):
  U 89 #[.agg #[aA,aB,.slice p n cap,a,c,aD,aF,aC,aG,.slice q m c2]] w (O (I (nO D vs)) w):=by
 have hl:Hid (vs.length=m):=by have:=HS.out.len;rw[cR aE 4 (fun _=>rfl)]at this;exact(by omega:vs.length=m)
 go_enter func89,ntmps89;go_wp2_with fail;refine Z (HV _ (by exact .alloc (.refl _) _)) fun w1 g=>?_
 have BA:Blk w1 w 35 #[aA,aB,.slice p n cap,a,c,aD,aF,aC,aG,.slice q m c2]:=(Blk.new w _ _).ext g;have j:=xQ BA;have X1:Ext w w1:=by exact .trans (.alloc (.refl _) _) g
 clear g;obtain⟨a0,a1,a2,a3,a4,a5,a6,a7,a8,a9⟩:=BA.ten;clear BA;go_wp2;clear a0 a1 a2 a3 a4 a5 a6 a7 a8 a9;go_loopw [3,12] (fun o i wr=> ∃k:Nat,k≤m∧i=I k∧o=I (nO D (vs.take k))∧Ext w wr∧Blk wr w 35 #[aA,aB,.slice p n cap,a,c,aD,aF,aC,aG,.slice q m c2]) (fun _ i _=>m-(intOf i).toNat)
 case atStart=>exact⟨0,aRv _,rfl,rfl,X1,j.out⟩
 case round=>
  obtain⟨k,hk,rfl,rfl,hE,hB⟩:=hrel;have f:=xQ hB;clear X1 j;have ah:(w:Nat)<wr:=hB.lt;clear hB;by_cases hlt:k<m
  ·obtain⟨b,ai,a0,a1,a2,a3,rfl,hv,hb,g0,g1,g2,g3⟩:=eH (HS.out.ext hE) hlt;have y:=xQ hv;have s:=xQ (zU D hv);have hd:=HB _ (aRs hv);have h:=aB4 D (vs.take k) 0 (fun x hx=>HB x (aTi hx));have ab:(vs.take k).length≤12:=by rw[aSd,hl.out];omega
   obtain⟨S,hS⟩: ∃S,S=nO D (vs.take k):=⟨_,rfl⟩
   obtain⟨E,d⟩: ∃E,E=D (a0,a1,a2,a3):=⟨_,rfl⟩
   change 0≤nO D (vs.take k)∧nO D (vs.take k)≤_ at h;rw[←hS]at h⊢;rw[←d]at hd;obtain⟨ad,ae⟩:=hd;obtain⟨af,aa⟩:=h;have ag:S≤8316:=by omega
   have t:Hid (S+E=nO D (vs.take (k+1))):=by show _=_;rw[s.out,hS,d]
   have u:=xQ d;clear hS aa ab s hv d;obtain⟨e0,e1,e2,e3,e4,e5,e6,e7,e8,e9⟩:=f.out.ten;go_wp2_with fail;refine Z (HD _ k a0 a1 a2 a3 y.out) fun w2 r=>?_
   rw[←u.out];have z:=xQ ((f.out.alloc _).ext r);go_wp2;go_roundw
   case rel=>exact⟨k+1,by omega,by go_num,by rw[←t.out],by exact .trans (.alloc hE _) r,z.out⟩
   case measure=>simp[intOf];omega
  have l:Hid (nO D (vs.take k)=nO D vs):=by show _=_;rw[aRu (by rw[hl.out];omega)]
  have e9:=f.out.cl 9;go_wp2;go_ret;exact⟨dV l.out,hE⟩
theorem aDa (aA aB a c aD aF aC aG:Int)(p:OA)(n cap:Nat)(q:OA)(m c2:Nat)(w:World)(vs:List aP)(D:aP→Int)(hm:m≤12)(HB:Hid (∀v∈vs,0≤D v∧D v≤693))(HS:Hid (Sl w q m c2 4 (vs.flatMap aE)))
  (HV:xB 21 #[.agg #[aA,aB,.slice p n cap,a,c,aD,aF,aC,aG,.slice q m c2]] w true)
  (HD:Hid (∀w' (k:Nat) a0 a1 a2 a3,Ext w w'→vs[k]? =some (a0,a1,a2,a3)→U 69 #[.agg #[aA,aB,.slice p n cap,a,c,aD,aF,aC,aG,.slice q m c2],a0] w' (O (I (D (a0,a1,a2,a3))) w'))):
  U 67 #[.agg #[aA,aB,.slice p n cap,a,c,aD,aF,aC,aG,.slice q m c2]] w (O (I (nO D vs)) w):=by
 have hl:Hid (vs.length=m):=by have:=HS.out.len;rw[cR aE 4 (fun _=>rfl)]at this;exact(by omega:vs.length=m)
 go_enter func67,ntmps67;go_wp2_with fail;refine Z (HV _ (by exact .alloc (.refl _) _)) fun w1 l=>?_
 have BA:Blk w1 w 35 #[aA,aB,.slice p n cap,a,c,aD,aF,aC,aG,.slice q m c2]:=(Blk.new w _ _).ext l;have t:=xQ BA;have X1:Ext w w1:=by exact .trans (.alloc (.refl _) _) l
 clear l;obtain⟨a0,a1,a2,a3,a4,a5,a6,a7,a8,a9⟩:=BA.ten;clear BA;go_wp2;clear a0 a1 a2 a3 a4 a5 a6 a7 a8 a9;go_loopw [3,4] (fun o i wr=> ∃k:Nat,k≤m∧i=I k∧o=I (nO D (vs.take k))∧Ext w wr∧Blk wr w 35 #[aA,aB,.slice p n cap,a,c,aD,aF,aC,aG,.slice q m c2]) (fun _ i _=>m-(intOf i).toNat)
 case atStart=>exact⟨0,aRv _,rfl,rfl,X1,t.out⟩
 case round=>
  obtain⟨k,hk,rfl,rfl,hE,hB⟩:=hrel;have h:=xQ hB;clear X1 t;have ai:(w:Nat)<wr:=hB.lt;clear hB;by_cases hlt:k<m
  ·obtain⟨b,s,a0,a1,a2,a3,rfl,hv,hb,g0,g1,g2,g3⟩:=eH (HS.out.ext hE) hlt;have aa:=xQ hv;have y:=xQ (zU D hv);have hd:=HB _ (aRs hv);have r:=aB4 D (vs.take k) 0 (fun x hx=>HB x (aTi hx));have ad:(vs.take k).length≤12:=by rw[aSd,hl.out];omega
   obtain⟨S,hS⟩: ∃S,S=nO D (vs.take k):=⟨_,rfl⟩
   obtain⟨E,f⟩: ∃E,E=D (a0,a1,a2,a3):=⟨_,rfl⟩
   change 0≤nO D (vs.take k)∧nO D (vs.take k)≤_ at r;rw[←hS]at r⊢;rw[←f]at hd;obtain⟨ae,af⟩:=hd;obtain⟨ag,ab⟩:=r;have ah:S≤8316:=by omega
   have g:Hid (S+E=nO D (vs.take (k+1))):=by show _=_;rw[y.out,hS,f]
   have z:=xQ f;clear hS ab ad y hv f;obtain⟨e0,e1,e2,e3,e4,e5,e6,e7,e8,e9⟩:=h.out.ten;have i1:(0:Int)≤(k:Int):=by omega
   have i2:(k:Int)<(m:Int):=by omega
   have j1:IntKind.i64.wrap (S+E)=S+E:=aRr _ (by omega);go_wp2
   go_region_held3 (fun w'=>w'.cell? ⟨w,0,none⟩=some (I aA)∧w'.cell? ⟨w,1,none⟩=some (I aB)∧w'.cell? ⟨w,2,none⟩=some (.slice p n cap)∧w'.cell? ⟨w,3,none⟩=some (I a)∧w'.cell? ⟨w,4,none⟩=some (I c)∧w'.cell? ⟨w,5,none⟩=some (I aD)∧w'.cell? ⟨w,6,none⟩=some (I aF)∧w'.cell? ⟨w,7,none⟩=some (I aC)∧w'.cell? ⟨w,8,none⟩=some (I aG)∧w'.cell? ⟨w,9,none⟩=some (.slice (some ⟨b,s,none⟩) m c2)∧w'.cell? ⟨b,s+k*4,none⟩=some (I a0)) (first|(refine⟨?_,?_,?_,?_,?_,?_,?_,?_,?_,?_,?_⟩<;>assumption)|go_keep)
    ((go_at_call 69
      refine Z (HD _ k a0 a1 a2 a3 (by first|exact hE|exact hE.drew|exact Ext.drewN hE _) aa.out) fun w2 d=>?_
      (try replace d:=d.of_drew);rw[←z.out];have j:=xQ (h.out.ext d);have X2:Ext w w2:=hE.trans d;have gk:w2.cell? ⟨b,s+k*4,none⟩=some (I a0):=by rw[d.cells.1 _ _ hb];exact g0
      obtain⟨k0,k1,k2,k3,k4,k5,k6,k7,k8,k9⟩:=j.out.ten
      clear d))
   all_goals clear j1
   all_goals go_wp2
   all_goals go_roundw
   all_goals first
    |(case rel=>exact⟨k+1,by omega,by go_num,by rw[←g.out],by exact X2,j.out⟩)
    |(case rel=>exact⟨k+1,by omega,by go_num,by rw[←g.out],xE,j.out.ext xE⟩)
    |(case measure=>simp[intOf];omega)
  have u:Hid (nO D (vs.take k)=nO D vs):=by show _=_;rw[aRu (by rw[hl.out];omega)]
  have e9:=h.out.cl 9;go_wp2;go_ret;exact⟨dV u.out,hE⟩
theorem dZ {h:aL}(a:aR h=true):(h.vs.map (·.1)).Nodup∧h.vs.length≤12∧ ∀v∈h.vs,fC h.aC v=true:=by
 unfold aR at a;simp only[aRy]at a;obtain⟨⟨⟨h1,h2⟩,h3⟩,h4⟩:=a;obtain⟨q1,q2⟩:=jN h4;unfold aO at h1;rw[aRy]at h1;have hc:=(fK _ _).1 h1.2;have hb:=cE h1.1;refine⟨?_,?_,q2⟩
 ·rw[q1];exact(gW _).nodup_iff.2 hc.2.2
 have:=congrArg List.length q1;rw[aSg,iX]at this;have:=kG h.cells;omega
theorem aFj {h:aL}(a:aR h=true){v:aP}(hv:v∈h.vs):eA v.1 h.vs=some v:=by
 have hn:=(dZ a).1;unfold eA;generalize h.vs=vs at hn hv;induction vs with
 |nil=>simp at hv
 |cons x xs ih=>
  rw[aTn,List.nodup_cons]at hn;rcases aS6.1 hv with rfl|hv
  ·simp[List.find?_cons]
  rw[List.find?_cons];have:(x.1==v.1)=false:=by rw[beq_eq_false_iff_ne];intro e;exact hn.1 (by rw[e];exact List.mem_map_of_mem hv)
  rw[this];exact ih hn.2 hv
theorem aF3 {h:aL}(a:aR h=true){v:aP}(hv:v∈h.vs):bB h v.1=pO h v:=by unfold bB cV pO;rw[if_pos a,aFj a hv];rfl
theorem vE {h:aL}(a:aR h=true){v:aP}(hv:v∈h.vs):bO h.free h.step h.aD h.aF=true∧dF v.2.1 v.2.2.1 v.2.2.2=true∧v.2.2.2≤h.aC∧h.aC≤9999:=by have b:=(dZ a).2.2 v hv;unfold aR at a;simp only[aRy]at a;obtain⟨⟨⟨h1,h2⟩,h3⟩,h4⟩:=a;unfold fC at b;unfold rF at h3;simp at b h3;exact⟨h2,b.1,b.2,h3.2.1⟩
theorem pN {h:aL}(f:aR h=true){v:aP}(hv:v∈h.vs):0≤pO h v∧pO h v≤693:=by obtain⟨a,b,c,d⟩:=vE f hv;have e:=fM b;unfold pO cC;rw[a,b];have hf:=pL a (m:=h.aC-v.2.1) (by omega) (by omega);simp only[Bool.and_self,Bool.true_and,decide_eq_true_eq];rw[if_pos ⟨c,d⟩];omega
theorem aPb {h:aL}(a:aR h=true):0≤vZ h h.vs∧vZ h h.vs≤8316:=by have:=aB4 (pO h) h.vs 0 (fun v hv=>pN a hv);have hl:=(dZ a).2.1;unfold vZ;omega
theorem zH (h:aL)(p:OA)(n cap:Nat)(q:OA)(m c2:Nat)(w:World)(hi:IsHouse w h p n cap q m c2):
  U 89 #[bM h p n cap q m c2] w (O (I (jG h)) w):=by
 have HV:=fun(w':World) (hx:Ext w w')=>iF h p n cap q m c2 w' (hi.ext hx)
 have f:=hi.vlen;unfold jG;cases hok:aR h with
 |false=>rw[hok]at HV;obtain⟨aA,aB,c,a,b,aD,aF,aC,aG,vs⟩:=h;exact aH6 aA aB a b aD aF aC aG p n cap q m c2 w HV
 |true=>
  rw[hok]at HV;have hn:=(dZ hok).2.1;have d:=fun v (hv:v∈h.vs)=>pN hok hv
  rw[if_pos rfl];obtain⟨aA,aB,c,a,b,aD,aF,aC,aG,vs⟩:=h;simp only at f hn
  exact aEj aA aB a b aD aF aC aG p n cap q m c2 w vs (pO ⟨aA,aB,c,a,b,aD,aF,aC,aG,vs⟩) (by omega) d hi.vs HV (fun w' k a0 a1 a2 a3 hv=>by
    obtain⟨x1,x2,x3,x4⟩:=vE hok (aRs hv)
    exact xP _ _ _ _ _ _ _ _ w' x1 x2 x3 x4)
theorem yU (h:aL)(p:OA)(n cap:Nat)(q:OA)(m c2:Nat)(w:World)(hi:IsHouse w h p n cap q m c2):
  U 67 #[bM h p n cap q m c2] w (O (I (jG h)) w):=by
 have HV:=fun(w':World) (hx:Ext w w')=>iE h p n cap q m c2 w' (hi.ext hx)
 have f:=hi.vlen;unfold jG;cases hok:aR h with
 |false=>rw[hok]at HV;obtain⟨aA,aB,c,a,b,aD,aF,aC,aG,vs⟩:=h;exact aFu aA aB a b aD aF aC aG p n cap q m c2 w HV
 |true=>
  rw[hok]at HV;have hn:=(dZ hok).2.1;have d:=fun v (hv:v∈h.vs)=>pN hok hv
  rw[if_pos rfl];obtain⟨aA,aB,c,a,b,aD,aF,aC,aG,vs⟩:=h;simp only at f hn
  exact aDa aA aB a b aD aF aC aG p n cap q m c2 w vs (pO ⟨aA,aB,c,a,b,aD,aF,aC,aG,vs⟩) (by omega) d hi.vs HV (fun w' k a0 a1 a2 a3 hx hv=>by
    have:=nS _ a0 p n cap q m c2 w' (hi.ext hx);rw[aF3 hok (aRs hv)]at this
    exact this)
end
end Go.Proofs.YtbgkcehffiogcacGreatDoor
