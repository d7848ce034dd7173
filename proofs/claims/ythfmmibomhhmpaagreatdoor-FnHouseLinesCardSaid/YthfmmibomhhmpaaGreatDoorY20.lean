/-
  Texts of this proof, packed (@packed).
-/
import Derived.Test.YthfmmibomhhmpaaGreatDoorY19
namespace Go.Proofs.YthfmmibomhhmpaaGreatDoor
open Go.RowKit
set_option linter.unusedSimpArgs false
set_option linter.unusedVariables false
set_option maxHeartbeats 8000000
set_option maxRecDepth 100000
section
open Go.Proofs.Tryz
theorem aEt {w:World}{b c n a k:Nat}{vs:List aR}(h:Sl w (some ⟨b,c,none⟩) n a 4 (vs.flatMap aE))(hk:k≤n):Sl w (some ⟨b,c,none⟩) k a 4 ((vs.take k).flatMap aE):=by
 have hl:=h.len;have f:=h.le;have g:=h.mx;have e:(vs.take k).flatMap aE=(vs.flatMap aE).take (k*4):=by
  have h1:vs.flatMap aE=(vs.take k).flatMap aE++(vs.drop k).flatMap aE:=by rw[←aTz,List.take_append_drop]
  have h2:vs.length=n:=by rw[dD aE 4 (fun _=>rfl)]at hl;omega
  have h3:((vs.take k).flatMap aE).length=k*4:=by rw[dD aE 4 (fun _=>rfl),aTt];omega
  rw[h1,←h3,List.take_left]
 rw[e];refine⟨by rw[aTt,hl];omega,by omega,by omega,fun h0=> ?_⟩;obtain⟨b',d,e,hb,hc⟩:=h.rd (by omega);injection e with e;injection e with e1 e2;subst e1 e2;refine⟨_,_,rfl,hb,fun j hj=> ?_⟩;rw[hc j (by omega),List.getElem?_take,if_pos hj]
theorem uZ (aA aB a c aD aF aC aG f j ad:Int)(p:OA)(n g:Nat)(b h m c2 k:Nat)(xs ys:List Int)(vs:List aR)(w:World)(h0:0≤f)(hk:k<m)(hm:m≤1000)(az:k+1<c2)(HS:Hid (Sl w (some ⟨b,h,none⟩) m c2 4 (vs.flatMap aE)))
  (al:xB 9 #[.agg #[aA,aB,.slice p n g,a,c,aD,aF,aC,aG,.slice (some ⟨b,h,none⟩) m c2]] w true)
  (HL:xC 21 #[.agg #[aA,aB,.slice p n g,a,c,aD,aF,aC,aG,.slice (some ⟨b,h,none⟩) m c2]] w fun w' e w''=> ∃p' cap' q' c2',e= .returned (.agg #[aA,aB,.slice p' n cap',a,c,aD,aF,aC,aG,.slice q' m c2'])∧w''.ownsRow w' TI 1 (.slice p' n cap') n (ivs xs)∧w''.ownsRow w' TV 4 (.slice q' m c2') m (vs.flatMap aE)∧Ext w' w'')
  (HP:xC 77 #[aH aA aB p n g,j] w fun w' e w''=> ∃p' cap',e= .returned (.tuple #[aH aA aB p' n cap',f])∧w''.ownsRow w' TI 1 (.slice p' n cap') n (ivs ys)∧Ext w' w'')
  (HF:xC 78 #[.agg #[aA,aB,.slice p n g,a,c,aD,aF,aC,aG,.slice (some ⟨b,h,none⟩) m c2],j] w fun w' e w''=>e= .returned (I k)∧Ext w' w'')
  (HM:xB 79 #[.agg #[aA,aB,.slice p n g,a,c,aD,aF,aC,aG,.slice (some ⟨b,h,none⟩) m c2],j] w true):
  U 38 #[.agg #[aA,aB,.slice p n g,a,c,aD,aF,aC,aG,.slice (some ⟨b,h,none⟩) m c2],.agg #[I 2,j,ad]] w fun e w'=> ∃p' cap' q' c2',e= .returned (.tuple #[.agg #[aA,aB,.slice p' n cap',a,c,aD,aF,aC,aG,.slice q' (m-1) c2'],f,.bool true])∧w'.ownsRow w TI 1 (.slice p' n cap') n (ivs ys)∧w'.ownsRow w TV 4 (.slice q' (m-1) c2') (m-1) ((vs.take k++vs.drop (k+1)).flatMap aE)∧Ext w w':=by
 go_enter func38,ntmps38;go_wp2_with fail;refine Z (al _ ((((Mem.start w).c0 aK #[aA,aB,.slice p n g,a,c,aD,aF,aC,aG,.slice (some ⟨b,h,none⟩) m c2]).c1 THD #[I 2,j,ad]).c2 aK zT).ext) fun w1 ao=>?_
 have M1:=(((((Mem.start w).c0 aK #[aA,aB,.slice p n g,a,c,aD,aF,aC,aG,.slice (some ⟨b,h,none⟩) m c2]).c1 THD #[I 2,j,ad]).c2 aK zT).adv ao)
 clear ao al;obtain⟨q,r,s,t,u,x,y,z,aa,l⟩:=(M1.bk 2).ten;go_wp2_with fail;clear q r s t u x y z aa l;refine(HL _ M1.ext).mono ?_;rintro e w2 ⟨p1,ae,q1,o,rfl,ho,hq,hx⟩;have M2:=(M1.own2 hx ho hq (aT5 _) (by decide))
 clear M1 hx ho hq;have ah:=M2.hi 3;have ai:=M2.hi 4;obtain⟨q,r,s,t,u,x,y,z,aa,l⟩:=(M2.bk 4).ten;have af:=(M2.bk 3).tri;go_wp2_with fail;clear q r s t u x y z aa l af;refine(HP _ (M2.c0 aK #[aA,aB,.slice p1 n ae,a,c,aD,aF,aC,aG,.slice q1 m o]).ext).mono ?_;rintro e w3 ⟨p5,d,rfl,ho,hx⟩;have M3:=((M2.c0 aK #[aA,aB,.slice p1 n ae,a,c,aD,aF,aC,aG,.slice q1 m o]).call hx ho)
 clear M2 ah ai hx ho HP;have aj:=M3.hi 5;have ak:=M3.hi 6;obtain⟨q,r,s,t,u,x,y,z,aa,l⟩:=(M3.bk 6).ten;have af:=(M3.bk 5).tri;go_wp2_with fail;clear q r s t u x y z aa l af;refine Z (HF _ (M3.c0 TH3 #[aA,aB,.slice p5 n d]).ext) fun w4 ap=>?_
 have M4:=((M3.c0 TH3 #[aA,aB,.slice p5 n d]).adv ap)
 clear M3 aj ak ap HF;obtain⟨q,r,s,t,u,x,y,z,aa,l⟩:=(M4.bk 7).ten;have af:=(M4.bk 6).tri;go_wp2_with fail;clear q r s t u x y z aa l af;refine Z (HM _ M4.ext) fun w5 aq=>?_
 have M5:=(M4.adv aq)
 clear M4 aq HM;have hd:decide (f<0)=false:=by simp;omega
 clear HL;have d_:=(M5.bk 2).tenf;have av:=(M5.bk 0).tri;go_upto_region 22 with fail;clear d_ av;have M6:=(((M5.st 2 0 (I aA)).st 2 1 (I aB)).st 2 2 (.slice p5 n d))
 generalize ag:World.setCell _ _ _=w6;rw[ag]at M6;clear ag M5;have ab:=M6.hi 7;have l:=(M6.bk 7).cl 9;have d_:=(M6.bk 2).tenf;have i1:=aVt k;have i3:=aVv k c2;have i4:(k:Int)+1≤(m:Int):=by omega
 have i5:(0:Int)≤(k:Int)+1:=by omega
 have i6:((k:Int)+1).toNat=k+1:=by omega
 have i7:=aVw ((k:Int)+1);have au: ¬c2=k+1:=by omega
 have ar: ¬c2=0:=by omega
 go_cut [] (fun wx=> ∃(q9:OA) (c9:Nat),Mem w wx [aJ w TV 4 (q9) (m-1) (c9) ((vs.take k++vs.drop (k+1)).flatMap aE),aI w w3 TH3 #[aA,aB,.slice p5 n d],aJ w TI 1 (p5) (n) (d) (ivs ys),aI w w2 aK #[aA,aB,.slice p5 n d,a,c,aD,aF,aC,aG,.slice q9 (m-1) c9],aJ w TI 1 (p1) (n) (ae) (ivs xs),aJ w TV 4 (q1) (m) (o) (vs.flatMap aE),aI w (w.heap.size+1+1) aK #[(),(),((),()),(),(),(),(),(),(),((),())],aI w (w.heap.size+1) THD #[I 2,j,ad],aI w w aK #[aA,aB,.slice p n g,a,c,aD,aF,aC,aG,.slice (some ⟨b,h,none⟩) m c2]])
 case first=>
  go_region_law ((first
   |(refine hU vU (by rfl) _ _ (by rfl) (by first|exact M6.made0 TV 4 w6 (by simp)|exact(M6.made0 TV 4 w6 (by simp)).adv (by exact .drew (.refl _))|exact(M6.adv xE).made0 TV 4 w6 (by simp)) 0 (by rfl) (by rfl) ((vs.take k).flatMap aE) (by rfl) (aEt (HS.out.ext (M6.ext.trans (by exact .drew (.alloc (.refl _) _)))) (by omega)) (fI _) (by omega) ?_
     intro q7 c7 w7 am;have M7:=(show Mem w w7 [aJ w TV 4 (q7) (k) (c7) ((vs.take k).flatMap aE),aI w w3 TH3 #[aA,aB,.slice p5 n d],aJ w TI 1 (p5) (n) (d) (ivs ys),aI w w2 aK #[aA,aB,.slice p5 n d,a,c,aD,aF,aC,aG,.slice q1 m o],aJ w TI 1 (p1) (n) (ae) (ivs xs),aJ w TV 4 (q1) (m) (o) (vs.flatMap aE),aI w (w.heap.size+1+1) aK #[(),(),((),()),(),(),(),(),(),(),((),())],aI w (w.heap.size+1) THD #[I 2,j,ad],aI w w aK #[aA,aB,.slice p n g,a,c,aD,aF,aC,aG,.slice (some ⟨b,h,none⟩) m c2]]from by simpa only[aTk,aUf,aUx]using am)
     clear am;have ax:=(M7.bk 8).cl 9
     have ay:(w2:Nat)<w7:=(M7.hi 3))
   |(refine hU vU (by rfl) _ _ (by rfl) (M7.adv (by exact .refl _)) 0 (by rfl) (by rfl) ((vs.drop (k+1)).flatMap aE) (by rfl) (lR (k+1) vs▸yL (HS.out.ext (M7.ext.trans (by exact .refl _))) (by omega)) (fI _) (by omega) ?_
     intro q9 c9 w9 an;have M9:=(show Mem w w9 [aJ w TV 4 (q9) (k+(m-(k+1))) (c9) ((vs.take k).flatMap aE++(vs.drop (k+1)).flatMap aE),aI w w3 TH3 #[aA,aB,.slice p5 n d],aJ w TI 1 (p5) (n) (d) (ivs ys),aI w w2 aK #[aA,aB,.slice p5 n d,a,c,aD,aF,aC,aG,.slice q1 m o],aJ w TI 1 (p1) (n) (ae) (ivs xs),aJ w TV 4 (q1) (m) (o) (vs.flatMap aE),aI w (w.heap.size+1+1) aK #[(),(),((),()),(),(),(),(),(),(),((),())],aI w (w.heap.size+1) THD #[I 2,j,ad],aI w w aK #[aA,aB,.slice p n g,a,c,aD,aF,aC,aG,.slice (some ⟨b,h,none⟩) m c2]]from an)
     clear an;have a0:=(M9.bk 3).cl 9;have aw:=(M9.bk 3).frozen 9
     have a1:(w2:Nat)<w9:=(M9.hi 3))))
  all_goals (
   have e1:k+(m-(k+1))=m-1:=by omega
   have e2:(vs.take k).flatMap aE++(vs.drop (k+1)).flatMap aE=(vs.take k++vs.drop (k+1)).flatMap aE:=by simp
   have MZ:=(show Mem w w9 [aJ w TV 4 (q9) (m-1) (c9) ((vs.take k++vs.drop (k+1)).flatMap aE),aI w w3 TH3 #[aA,aB,.slice p5 n d],aJ w TI 1 (p5) (n) (d) (ivs ys),aI w w2 aK #[aA,aB,.slice p5 n d,a,c,aD,aF,aC,aG,.slice q1 m o],aJ w TI 1 (p1) (n) (ae) (ivs xs),aJ w TV 4 (q1) (m) (o) (vs.flatMap aE),aI w (w.heap.size+1+1) aK #[(),(),((),()),(),(),(),(),(),(),((),())],aI w (w.heap.size+1) THD #[I 2,j,ad],aI w w aK #[aA,aB,.slice p n g,a,c,aD,aF,aC,aG,.slice (some ⟨b,h,none⟩) m c2]]from by have:=M9;rw[e2]at this;simpa only[e1]using this)
   clear e2 M9 M7)
  all_goals go_wp2_with fail
  all_goals go_meet
  all_goals exact⟨q9,c9,by first|exact(MZ.store (i:=3) rfl 9 (.slice q9 (m-1) c9))|(simp only[e1];exact(MZ.store (i:=3) rfl 9 (.slice q9 (m-1) c9)))⟩
 case rest=>
  obtain⟨q9,c9,MC⟩:=hcut;have MC:=xQ MC;clear M6 i1 i3 i4 i5 i6 i7 au ar l d_ ab;have ab:w.heap.size+1<wc.heap.size:=(MC.out.hi 7)
  obtain⟨e0,e1,e2,e3,e4,e5,e6,e7,e8,e9⟩:=(MC.out.bk 3).ten;have f_:=(MC.out.bk 6).tenf;go_upto_region 33 with fail;go_wp2;clear e0 e1 e2 e3 e4 e5 e6 e7 e8 e9 f_ ab;have M7:=(MC.out.put10 (i:=6) rfl (I aA) (I aB) (.slice p5 n d) (I a) (I c) (I aD) (I aF) (I aC) (I aG) (.slice q9 (m-1) c9))
  generalize ag:World.setCell _ _ _=wz;rw[ag]at M7;clear ag MC;have y_:=(M7.bk 6).ten;exact bodyPost_ret (v:= .tuple #[.agg #[aA,aB,.slice p5 n d,a,c,aD,aF,aC,aG,.slice q9 (m-1) c9],f,.bool true]) (by simp[results,results38,go_sem, *]) rfl ⟨p5,d,q9,c9,rfl,(M7.ow 2),(M7.ow 0),M7.ext⟩
theorem tJ (aA aB a c aD aF aC aG f l ad:Int)(p:OA)(n g:Nat)(b j k:Nat)(xs ys:List Int)(vs:List aR)(w:World)(h0:0≤f)(hm:(k+1)≤1000)(ar:Hid (vs.drop (k+1)= []))(HS:Hid (Sl w (some ⟨b,j,none⟩) (k+1) (k+1) 4 (vs.flatMap aE)))
  (al:xB 9 #[.agg #[aA,aB,.slice p n g,a,c,aD,aF,aC,aG,.slice (some ⟨b,j,none⟩) (k+1) (k+1)]] w true)
  (HL:xC 21 #[.agg #[aA,aB,.slice p n g,a,c,aD,aF,aC,aG,.slice (some ⟨b,j,none⟩) (k+1) (k+1)]] w fun w' e w''=> ∃p' cap' q' c2',e= .returned (.agg #[aA,aB,.slice p' n cap',a,c,aD,aF,aC,aG,.slice q' (k+1) c2'])∧w''.ownsRow w' TI 1 (.slice p' n cap') n (ivs xs)∧w''.ownsRow w' TV 4 (.slice q' (k+1) c2') (k+1) (vs.flatMap aE)∧Ext w' w'')
  (HP:xC 77 #[aH aA aB p n g,l] w fun w' e w''=> ∃p' cap',e= .returned (.tuple #[aH aA aB p' n cap',f])∧w''.ownsRow w' TI 1 (.slice p' n cap') n (ivs ys)∧Ext w' w'')
  (HF:xC 78 #[.agg #[aA,aB,.slice p n g,a,c,aD,aF,aC,aG,.slice (some ⟨b,j,none⟩) (k+1) (k+1)],l] w fun w' e w''=>e= .returned (I k)∧Ext w' w'')
  (HM:xB 79 #[.agg #[aA,aB,.slice p n g,a,c,aD,aF,aC,aG,.slice (some ⟨b,j,none⟩) (k+1) (k+1)],l] w true):
  U 38 #[.agg #[aA,aB,.slice p n g,a,c,aD,aF,aC,aG,.slice (some ⟨b,j,none⟩) (k+1) (k+1)],.agg #[I 2,l,ad]] w fun e w'=> ∃p' cap' q' c2',e= .returned (.tuple #[.agg #[aA,aB,.slice p' n cap',a,c,aD,aF,aC,aG,.slice q' (k) c2'],f,.bool true])∧w'.ownsRow w TI 1 (.slice p' n cap') n (ivs ys)∧w'.ownsRow w TV 4 (.slice q' (k) c2') (k) ((vs.take k++vs.drop (k+1)).flatMap aE)∧Ext w w':=by
 go_enter func38,ntmps38;go_wp2_with fail;refine Z (al _ ((((Mem.start w).c0 aK #[aA,aB,.slice p n g,a,c,aD,aF,aC,aG,.slice (some ⟨b,j,none⟩) (k+1) (k+1)]).c1 THD #[I 2,l,ad]).c2 aK zT).ext) fun w1 ao=>?_
 have M1:=(((((Mem.start w).c0 aK #[aA,aB,.slice p n g,a,c,aD,aF,aC,aG,.slice (some ⟨b,j,none⟩) (k+1) (k+1)]).c1 THD #[I 2,l,ad]).c2 aK zT).adv ao)
 clear ao al;obtain⟨q,r,s,t,u,x,y,z,aa,m⟩:=(M1.bk 2).ten;go_wp2_with fail;clear q r s t u x y z aa m;refine(HL _ M1.ext).mono ?_;rintro e w2 ⟨p1,ae,q1,o,rfl,ho,hq,hx⟩;have M2:=(M1.own2 hx ho hq (aT5 _) (by decide))
 clear M1 hx ho hq;have ah:=M2.hi 3;have ai:=M2.hi 4;obtain⟨q,r,s,t,u,x,y,z,aa,m⟩:=(M2.bk 4).ten;have af:=(M2.bk 3).tri;go_wp2_with fail;clear q r s t u x y z aa m af;refine(HP _ (M2.c0 aK #[aA,aB,.slice p1 n ae,a,c,aD,aF,aC,aG,.slice q1 (k+1) o]).ext).mono ?_;rintro e w3 ⟨p5,d,rfl,ho,hx⟩;have M3:=((M2.c0 aK #[aA,aB,.slice p1 n ae,a,c,aD,aF,aC,aG,.slice q1 (k+1) o]).call hx ho)
 clear M2 ah ai hx ho HP;have aj:=M3.hi 5;have ak:=M3.hi 6;obtain⟨q,r,s,t,u,x,y,z,aa,m⟩:=(M3.bk 6).ten;have af:=(M3.bk 5).tri;go_wp2_with fail;clear q r s t u x y z aa m af;refine Z (HF _ (M3.c0 TH3 #[aA,aB,.slice p5 n d]).ext) fun w4 ap=>?_
 have M4:=((M3.c0 TH3 #[aA,aB,.slice p5 n d]).adv ap)
 clear M3 aj ak ap HF;obtain⟨q,r,s,t,u,x,y,z,aa,m⟩:=(M4.bk 7).ten;have af:=(M4.bk 6).tri;go_wp2_with fail;clear q r s t u x y z aa m af;refine Z (HM _ M4.ext) fun w5 aq=>?_
 have M5:=(M4.adv aq)
 clear M4 aq HM;have hd:decide (f<0)=false:=by simp;omega
 clear HL;have d_:=(M5.bk 2).tenf;have au:=(M5.bk 0).tri;go_upto_region 22 with fail;clear d_ au;have M6:=(((M5.st 2 0 (I aA)).st 2 1 (I aB)).st 2 2 (.slice p5 n d))
 generalize ag:World.setCell _ _ _=w6;rw[ag]at M6;clear ag M5;have ab:=M6.hi 7;have m:=(M6.bk 7).cl 9;have d_:=(M6.bk 2).tenf;have i1:=aVt k;have i2:(k:Int)≤((k+1):Int):=by omega
 have i5:(0:Int)≤(k:Int)+1:=by omega
 have i6:((k:Int)+1).toNat=k+1:=by omega
 have i7:=aVw ((k:Int)+1);go_cut [] (fun wx=> ∃(q9:OA) (c9:Nat),Mem w wx [aJ w TV 4 (q9) (k) (c9) ((vs.take k++vs.drop (k+1)).flatMap aE),aI w w3 TH3 #[aA,aB,.slice p5 n d],aJ w TI 1 (p5) (n) (d) (ivs ys),aI w w2 aK #[aA,aB,.slice p5 n d,a,c,aD,aF,aC,aG,.slice q9 (k) c9],aJ w TI 1 (p1) (n) (ae) (ivs xs),aJ w TV 4 (q1) (k+1) (o) (vs.flatMap aE),aI w (w.heap.size+1+1) aK #[(),(),((),()),(),(),(),(),(),(),((),())],aI w (w.heap.size+1) THD #[I 2,l,ad],aI w w aK #[aA,aB,.slice p n g,a,c,aD,aF,aC,aG,.slice (some ⟨b,j,none⟩) (k+1) (k+1)]])
 case first=>
  go_region_law ((first
   |(refine hU vU (by rfl) _ _ (by rfl) (by first|exact M6.made0 TV 4 w6 (by simp)|exact(M6.made0 TV 4 w6 (by simp)).adv (by exact .drew (.refl _))|exact(M6.adv xE).made0 TV 4 w6 (by simp)) 0 (by rfl) (by rfl) ((vs.take k).flatMap aE) (by rfl) (aEt (HS.out.ext (M6.ext.trans (by exact .drew (.alloc (.refl _) _)))) (by omega)) (fI _) (by omega) ?_
     intro q7 c7 w7 am;have M7:=(show Mem w w7 [aJ w TV 4 (q7) (k) (c7) ((vs.take k).flatMap aE),aI w w3 TH3 #[aA,aB,.slice p5 n d],aJ w TI 1 (p5) (n) (d) (ivs ys),aI w w2 aK #[aA,aB,.slice p5 n d,a,c,aD,aF,aC,aG,.slice q1 (k+1) o],aJ w TI 1 (p1) (n) (ae) (ivs xs),aJ w TV 4 (q1) (k+1) (o) (vs.flatMap aE),aI w (w.heap.size+1+1) aK #[(),(),((),()),(),(),(),(),(),(),((),())],aI w (w.heap.size+1) THD #[I 2,l,ad],aI w w aK #[aA,aB,.slice p n g,a,c,aD,aF,aC,aG,.slice (some ⟨b,j,none⟩) (k+1) (k+1)]]from by simpa only[aTk,aUf,aUx]using am)
     clear am;have aw:=(M7.bk 8).cl 9
     have ax:(w2:Nat)<w7:=(M7.hi 3))
   |(refine hU vU (by rfl) _ _ (by rfl) (M7.adv (by exact .refl _)) 0 (by rfl) (by rfl) (([]:List aR).flatMap aE) (by rfl) (⟨by simp,aTd _,by have:=HS.out.mx;omega,fun h=>absurd h (by omega)⟩) (fI _) (by omega) ?_
     intro q9 c9 w9 an;have M9:=(show Mem w w9 [aJ w TV 4 (q9) (k+(0)) (c9) ((vs.take k).flatMap aE++([]:List aR).flatMap aE),aI w w3 TH3 #[aA,aB,.slice p5 n d],aJ w TI 1 (p5) (n) (d) (ivs ys),aI w w2 aK #[aA,aB,.slice p5 n d,a,c,aD,aF,aC,aG,.slice q1 (k+1) o],aJ w TI 1 (p1) (n) (ae) (ivs xs),aJ w TV 4 (q1) (k+1) (o) (vs.flatMap aE),aI w (w.heap.size+1+1) aK #[(),(),((),()),(),(),(),(),(),(),((),())],aI w (w.heap.size+1) THD #[I 2,l,ad],aI w w aK #[aA,aB,.slice p n g,a,c,aD,aF,aC,aG,.slice (some ⟨b,j,none⟩) (k+1) (k+1)]]from an)
     clear an;have ay:=(M9.bk 3).cl 9;have av:=(M9.bk 3).frozen 9
     have az:(w2:Nat)<w9:=(M9.hi 3))))
  all_goals (
   have e1:k+(0)=k:=by omega
   have e2:(vs.take k).flatMap aE++([]:List aR).flatMap aE=(vs.take k++vs.drop (k+1)).flatMap aE:=by rw[ar.out];simp
   skip;have MZ:=(show Mem w w9 [aJ w TV 4 (q9) (k) (c9) ((vs.take k++vs.drop (k+1)).flatMap aE),aI w w3 TH3 #[aA,aB,.slice p5 n d],aJ w TI 1 (p5) (n) (d) (ivs ys),aI w w2 aK #[aA,aB,.slice p5 n d,a,c,aD,aF,aC,aG,.slice q1 (k+1) o],aJ w TI 1 (p1) (n) (ae) (ivs xs),aJ w TV 4 (q1) (k+1) (o) (vs.flatMap aE),aI w (w.heap.size+1+1) aK #[(),(),((),()),(),(),(),(),(),(),((),())],aI w (w.heap.size+1) THD #[I 2,l,ad],aI w w aK #[aA,aB,.slice p n g,a,c,aD,aF,aC,aG,.slice (some ⟨b,j,none⟩) (k+1) (k+1)]]from by have:=M9;rw[e2]at this;simpa only[e1]using this)
   clear e2 M9 M7)
  all_goals go_wp2_with fail
  all_goals go_meet
  all_goals exact⟨q9,c9,by first|exact(MZ.store (i:=3) rfl 9 (.slice q9 (k) c9))|(simp only[e1];exact(MZ.store (i:=3) rfl 9 (.slice q9 (k) c9)))⟩
 case rest=>
  obtain⟨q9,c9,MC⟩:=hcut;have MC:=xQ MC;clear M6 i1 i2 i5 i6 i7 m d_ ab;have ab:w.heap.size+1<wc.heap.size:=(MC.out.hi 7)
  obtain⟨e0,e1,e2,e3,e4,e5,e6,e7,e8,e9⟩:=(MC.out.bk 3).ten;have f_:=(MC.out.bk 6).tenf;go_upto_region 33 with fail;go_wp2;clear e0 e1 e2 e3 e4 e5 e6 e7 e8 e9 f_ ab;have M7:=(MC.out.put10 (i:=6) rfl (I aA) (I aB) (.slice p5 n d) (I a) (I c) (I aD) (I aF) (I aC) (I aG) (.slice q9 (k) c9))
  generalize ag:World.setCell _ _ _=wz;rw[ag]at M7;clear ag MC;have y_:=(M7.bk 6).ten;exact bodyPost_ret (v:= .tuple #[.agg #[aA,aB,.slice p5 n d,a,c,aD,aF,aC,aG,.slice q9 (k) c9],f,.bool true]) (by simp[results,results38,go_sem, *]) rfl ⟨p5,d,q9,c9,rfl,(M7.ow 2),(M7.ow 0),M7.ext⟩
end
def aKc (h:aL)(r:Option (aL×Int))(w:World)(e:Ending)(w':World):Prop:=
 match r with
 |none=> ∃p cap q c2,e= .returned (.tuple #[bG h p h.cells.length cap q h.vs.length c2,(-1:Int),.bool false])∧w'.ownsRow w.heap.size TI 1 (.slice p h.cells.length cap) h.cells.length (ivs h.cells)∧w'.ownsRow w.heap.size TV 4 (.slice q h.vs.length c2) h.vs.length (h.vs.flatMap aE)∧Ext w w'
 |some (h',n)=> ∃p cap q c2,e= .returned (.tuple #[bG h' p h'.cells.length cap q h'.vs.length c2,n,.bool true])∧w'.ownsRow w.heap.size TI 1 (.slice p h'.cells.length cap) h'.cells.length (ivs h'.cells)∧w'.ownsRow w.heap.size TV 4 (.slice q h'.vs.length c2) h'.vs.length (h'.vs.flatMap aE)∧Ext w w'
theorem fA {h:aL}(a:aP h=true):h.cells.length≤12∧h.vs.length≤12∧4≤h.cells.length:=by obtain⟨q1,q2,q3,q4,q5⟩:=(dF h).1 a;have hb:=cG (cY q1);have:=congrArg List.length q4;rw[jM,aU1]at this;have:=kT h.cells;omega
theorem pN (h:aL)(k a b:Int)(p:OA)(n c:Nat)(q:OA)(m c2:Nat)(w:World)(hi:IsHouse w h p n c q m c2)(d:aP h=false):
  U 38 #[bG h p n c q m c2,eQ k a b] w (O (.tuple #[.agg #[(),(),((),()),(),(),(),(),(),(),((),())],(-1:Int),.bool false]) w):=
 aHj h.aA h.aB h.free h.step h.aD h.aF h.aC h.aG k a b p n c q m c2 h.cells h.vs w (xQ fun w' hx=>by have:=iA h p n c q m c2 w' (hi.ext hx);rwa[d]at this)
theorem qA (h:aL)(k a b:Int)(p:OA)(n c:Nat)(q:OA)(m c2:Nat)(w:World)(hi:IsHouse w h p n c q m c2)(j:aP h=true):
  U 38 #[bG h p n c q m c2,eQ k a b] w (aKc h (bY h k a b) w):=by
 obtain⟨q1,q2,q3,q4,q5⟩:=(dF h).1 j;have ad:=fA j;have hl:=hi.clen;have s:=hi.vlen;have hS:=hi.cells;have hV:=hi.vs;subst hl s;have f:=xQ fun(w':World) (hx:Ext w w')=>(by have:=iA h p _ c q _ c2 w' (hi.ext hx);rwa[j]at this:U 9 #[bG h p h.cells.length c q h.vs.length c2] w' (O (.bool true) w'))
 have HL:=xQ fun(w':World) (hx:Ext w w')=>mQ h p _ c q _ c2 w' (by omega) (by omega) (hi.ext hx)
 unfold RetHouse at HL;by_cases k0:k=0
 ·subst k0;have HP:=xQ fun(w':World) (hx:Ext w w')=>aEa h.aA h.aB a p _ c h.cells w' (hS.ext hx) q1
  have e0:bY h 0 a b=(if 0≤(cN h.aA h.aB h.cells a).2 then some ({h with cells:=(cN h.aA h.aB h.cells a).1,vs:=lX (a,h.aC,0,h.aC) h.vs},(cN h.aA h.aB h.cells a).2)else none):=by unfold bY;rw[if_pos rfl]
  have el:(cN h.aA h.aB h.cells a).1.length=h.cells.length:=by
   by_cases h0:0≤(cN h.aA h.aB h.cells a).2
   ·obtain⟨zs,s1,_,_,s4,_⟩:=oN q1 h0;rw[s4,aUi,s1.length_eq]
   unfold cN at h0⊢;split at h0
   ·rfl
   dsimp only at h0;omega
  unfold dA at HP;rw[el]at HP;rw[e0];by_cases h0:0≤(cN h.aA h.aB h.cells a).2
  ·rw[if_pos h0];have HQ:=xQ fun(w':World) (hx:Ext w w')=>aLs a h.aC 0 h.aC q _ c2 h.vs w' (by omega) (hV.ext hx)
   refine(uX h.aA h.aB h.free h.step h.aD h.aF h.aC h.aG (cN h.aA h.aB h.cells a).2 a b p _ c q _ c2 h.cells (cN h.aA h.aB h.cells a).1 h.vs (lX (a,h.aC,0,h.aC) h.vs) w h0 f HL HP HQ).mono ?_;rintro e w' ⟨p',d,q',g,rfl,o1,o2,hx⟩;refine⟨p',d,q',g,?_,?_,?_,hx⟩
   ·simp[bG,el,qH]
   ·dsimp only;rw[el];exact o1
   dsimp only;rw[qH];exact o2
  rw[if_neg h0];exact xF h.aA h.aB h.free h.step h.aD h.aF h.aC h.aG (cN h.aA h.aB h.cells a).2 a b p _ c q _ c2 h.cells (cN h.aA h.aB h.cells a).1 h.vs w (by omega) f HL HP
 by_cases k1:k=1
 ·subst k1;have HP:=xQ fun(w':World) (hx:Ext w w')=>aLt h a b p _ c q _ c2 w' (by omega) (by omega) (hi.ext hx) q2 (fun v hv=>(iT _ _).1 (q5 v hv)) q3.2.1 q3.2.2.1 q3.2.2.2
  have e0:bY h 1 a b=oY h a b:=by unfold bY;rw[if_neg (by omega),if_pos rfl]
  rw[e0];cases hp:oY h a b with
  |none=>rw[hp]at HP;exact aA9 h.aA h.aB h.free h.step h.aD h.aF h.aC h.aG a b p _ c q _ c2 h.cells h.vs w f HL HP
  |some r=>
   obtain⟨h',bk⟩:=r;rw[hp]at HP;have hd:=kZ j (e0.trans hp);have hv:h'.vs.length=h.vs.length∧h'.cells=h.cells∧h'.aC=h.aC:=by
    unfold oY at hp;split at hp
    ·cases hp
    split at hp
    ·injection hp with hp;simp only[aTu]at hp;obtain⟨rfl,_⟩:=hp;exact⟨by simp,rfl,rfl⟩
    cases hp
   obtain⟨t1,t2,t3,t4,t5,t6,t7,t8,t9⟩:=hd;obtain⟨v1,v2,v3⟩:=hv;obtain⟨hw,z,hc,hf,hs,ab,x,y,o,t⟩:=h';dsimp only at t4 t5 t6 t7 t8 t9 v1 v2 v3;subst t4 t5 t6 t7 t8 t9 v2 v3;unfold aQ6 at HP;dsimp only at HP;rw[v1]at HP;refine(yI h.aA h.aB h.free h.step h.aD h.aF h.aC h.aG o bk a b p _ c q _ c2 h.cells h.vs t w t2.1 f HL HP).mono ?_;rintro e w' ⟨p',d,q',g,rfl,o1,o2,hx⟩;refine⟨p',d,q',g,?_,o1,?_,hx⟩
   ·simp[bG,v1]
   dsimp only;rw[v1];exact o2
 by_cases k2:k=2
 ·subst k2;have HP:=xQ fun(w':World) (hx:Ext w w')=>aGb h.aA h.aB a p _ c h.cells w' (hS.ext hx) q1
  have HF:=xQ fun(w':World) (hx:Ext w w')=>sQ h.aA h.aB h.free h.step h.aD h.aF h.aC h.aG a p h.cells.length c q _ c2 h.vs w' (hV.ext hx)
  have HM:=fun(w':World) (hx:Ext w w')=>tH h a p _ c q _ c2 w' (hi.ext hx)
  have e0:bY h 2 a b=(if cZ h a=true∧0≤(bW h.aA h.aB h.cells a).2 then some ({h with cells:=(bW h.aA h.aB h.cells a).1,vs:=h.vs.eraseIdx (vix a h.vs).toNat},(bW h.aA h.aB h.cells a).2)else none):=by unfold bY;rw[if_neg (by omega),if_neg (by omega),if_pos rfl]
  have el:(bW h.aA h.aB h.cells a).1.length=h.cells.length:=by
   by_cases h0:0≤(bW h.aA h.aB h.cells a).2
   ·obtain⟨zs,s1,_,_,s4,_⟩:=lD q1 h0;rw[s4,aUi,s1.length_eq]
   unfold bW at h0⊢;split at h0
   ·rfl
   dsimp only at h0;omega
  unfold dA at HP;rw[el]at HP;rw[e0];by_cases h0:cZ h a=true∧0≤(bW h.aA h.aB h.cells a).2
  ·rw[if_pos h0];have hv: ∃v,bT a h.vs=some v:=by
    have:=h0.1;unfold cZ cT at this;rw[if_pos j]at this;cases hv:bT a h.vs with
    |none=>rw[hv]at this;simp at this
    |some v=>exact⟨v,rfl⟩
   obtain⟨v,hv⟩:=hv;obtain⟨v1,v2,v3,v4,v5,v6⟩:=gI hv;generalize hk:(vix a h.vs).toNat=kk at*;rw[v5]at HF;rw[h0.1]at HM;obtain⟨bb,l,rfl,u,_⟩:=hV.rd (by omega);have ee:h.vs.eraseIdx kk=h.vs.take kk++h.vs.drop (kk+1):=List.eraseIdx_eq_take_drop_succ _ _;have i:(h.vs.eraseIdx kk).length=h.vs.length-1:=by rw[List.length_eraseIdx,if_pos v4]
   by_cases hcc:kk+1<c2
   ·refine(uZ h.aA h.aB h.free h.step h.aD h.aF h.aC h.aG (bW h.aA h.aB h.cells a).2 a b p _ c bb l _ c2 kk h.cells (bW h.aA h.aB h.cells a).1 h.vs w h0.2 v4 (by omega) hcc (xQ hV) f HL HP HF HM).mono ?_;rintro e w' ⟨p',d,q',g,rfl,o1,o2,hx⟩;refine⟨p',d,q',g,?_,?_,?_,hx⟩
    ·simp only[bG,el,i]
    ·dsimp only;rw[el];exact o1
    dsimp only;rw[i,ee];exact o2
   have aa:=hV.le;have e1:c2=kk+1:=by omega
   have e2:h.vs.length=kk+1:=by omega
   subst e1;rw[e2]at hV f HL HF HM i⊢;refine(tJ h.aA h.aB h.free h.step h.aD h.aF h.aC h.aG (bW h.aA h.aB h.cells a).2 a b p _ c bb l kk h.cells (bW h.aA h.aB h.cells a).1 h.vs w h0.2 (by omega) (xQ (aUr (by omega))) (xQ hV) f HL HP HF HM).mono ?_;rintro e w' ⟨p',d,q',g,rfl,o1,o2,hx⟩;refine⟨p',d,q',g,?_,?_,?_,hx⟩
   ·simp[bG,el,i]
   ·dsimp only;rw[el];exact o1
   dsimp only;rw[i,ee,Nat.add_sub_cancel];exact o2
  rw[if_neg h0]
  exact xH h.aA h.aB h.free h.step h.aD h.aF h.aC h.aG (bW h.aA h.aB h.cells a).2 (vix a h.vs) a b p _ c q _ c2 h.cells (bW h.aA h.aB h.cells a).1 h.vs w (cZ h a) (fun e=>by
   by_cases hx:0≤(bW h.aA h.aB h.cells a).2
   ·exact absurd ⟨e,hx⟩ h0
   ·omega) f HL HP HF HM
 by_cases k3:k=3
 ·subst k3;have e0:bY h 3 a b=(if 1≤a∧a≤9999-h.aC then some ({h with aC:=h.aC+a},h.aC+a)else none):=by unfold bY;rw[if_neg (by omega),if_neg (by omega),if_neg (by omega),if_pos rfl]
  rw[e0];by_cases h0:1≤a∧a≤9999-h.aC
  ·rw[if_pos h0];exact xD h.aA h.aB h.free h.step h.aD h.aF h.aC h.aG a b p _ c q _ c2 h.cells h.vs w q3.1 q3.2.1 h0.1 h0.2 f HL (xQ fun w'=>oF a 1 (9999-h.aC) w' h0.1 h0.2)
  rw[if_neg h0];exact yH h.aA h.aB h.free h.step h.aD h.aF h.aC h.aG a b p _ c q _ c2 h.cells h.vs w q3.1 q3.2.1 f HL (xQ fun w'=>xP a 1 (9999-h.aC) w' (by omega))
 by_cases k4:k=4
 ·subst k4;have HP:=xQ fun(w':World) (hx:Ext w w')=>nB h.aA h.aB a b p _ c h.cells w' (hS.ext hx) q1
  have e0:bY h 4 a b=(if bH h.aA h.aB h.cells a b=true then some ({h with cells:=bL h.aA h.aB h.cells a b},0)else none):=by unfold bY;rw[if_neg (by omega),if_neg (by omega),if_neg (by omega),if_neg (by omega),if_pos rfl]
  unfold dB at HP;rw[dG]at HP;rw[e0];cases hm:bH h.aA h.aB h.cells a b with
  |true=>
   rw[hm]at HP;rw[if_pos rfl];refine(uY h.aA h.aB h.free h.step h.aD h.aF h.aC h.aG a b p _ c q _ c2 h.cells (bL h.aA h.aB h.cells a b) h.vs w f HL HP).mono ?_;rintro e w' ⟨p',d,q',g,rfl,o1,o2,hx⟩;refine⟨p',d,q',g,?_,?_,o2,hx⟩
   ·simp only[bG,dG]
   dsimp only;rw[dG];exact o1
  |false=>rw[hm]at HP;rw[if_neg (by simp)];exact xG h.aA h.aB h.free h.step h.aD h.aF h.aC h.aG a b p _ c q _ c2 h.cells (bL h.aA h.aB h.cells a b) h.vs w f HL HP
 have e0:bY h k a b=none:=by unfold bY;rw[if_neg k0,if_neg k1,if_neg k2,if_neg k3,if_neg k4]
 rw[e0];exact aCl h.aA h.aB h.free h.step h.aD h.aF h.aC h.aG k a b p _ c q _ c2 h.cells h.vs w k0 k1 k2 k3 k4 f HL
end Go.Proofs.YthfmmibomhhmpaaGreatDoor
