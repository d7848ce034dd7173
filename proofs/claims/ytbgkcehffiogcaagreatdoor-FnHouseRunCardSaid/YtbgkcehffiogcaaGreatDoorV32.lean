/-
  Texts of this proof, packed (@packed).
-/
import Derived.Test.YtbgkcehffiogcaaGreatDoorV31
namespace Go.Proofs.YtbgkcehffiogcaaGreatDoor
open Go.RowKit
set_option linter.unusedSimpArgs false
set_option linter.unusedVariables false
set_option maxHeartbeats 8000000
set_option maxRecDepth 100000
section
open Go.Proofs.Tryz
theorem aIj (h:aO)(p:OA)(a:Nat)(q:OA)(c2:Nat)(lq:OA)(lm lc:Nat)(ds:List Dd3)(w:World)
  (b:xC 16 #[.agg #[h.aA,h.aB,.slice p h.cells a,h.free,h.step,h.aE,h.aF,h.aC,h.aG,.slice q h.vs c2]] w fun w' e w''=>e= .returned (Value.bool false)∧Ext w' w''):
  U 6 #[.agg #[h.aA,h.aB,.slice p h.cells a,h.free,h.step,h.aE,h.aF,h.aC,h.aG,.slice q h.vs c2],.slice lq lm lc] w (iV w (hZ,[]) w):=by
 go_enter func6,ntmps6;go_wp2_with fail;refine Z (b _ (((Mem.start w).c0 aL #[h.aA,h.aB,.slice p h.cells a,h.free,h.step,h.aE,h.aF,h.aC,h.aG,.slice q h.vs c2]).c1 aL zT).ext) fun w1 d=>?_
 have M1:=((((Mem.start w).c0 aL #[h.aA,h.aB,.slice p h.cells a,h.free,h.step,h.aE,h.aF,h.aC,h.aG,.slice q h.vs c2]).c1 aL zT).adv d)
 clear d b;obtain⟨f0,f,f1,g,f2,j,f3,k,f4,l,f5,m,f6,n,f7,o,f8,r,f9,s⟩:=(M1.bk 0).tenf;go_wp2;clear f0 f f1 g f2 j f3 k f4 l f5 m f6 n f7 o f8 r f9 s;have M2:=(M1.put10 (i:=0) rfl (I 0) (I 0) (.slice none 0 0) (I 0) (I 0) (I 0) (I 0) (I 0) (I 0) (.slice none 0 0))
 generalize c:World.setCell _ _ _=wz;rw[c]at M2;clear c M1;obtain⟨y0,y1,y2,y3,y4,y5,y6,y7,y8,y9⟩:=(M2.bk 0).ten;exact bodyPost_ret (v:= .tuple #[.agg #[(),(),((),()),(),(),(),(),(),(),((),())],((),())]) (by simp[results,results6,go_sem, *]) rfl (show iV w (hZ,[]) w _ _ from⟨none,0,none,0,none,0,rfl,aKi _ _ _ _,aKi _ _ _ _,aKi _ _ _ _,M2.ext⟩)
theorem aJt (h:aO)(p:OA)(a:Nat)(q:OA)(c2:Nat)(lq:OA)(lm lc:Nat)(ds:List Dd3)(w:World)(hb:lm≤1048576)(hE:Hid (BitTab w))(s:Hid (ds.length=lm))(a9:Hid (bB h=true))(HS:Hid (Sl w lq lm lc 3 (ds.flatMap cE)))
  (y:xB 16 #[.agg #[h.aA,h.aB,.slice p h.cells a,h.free,h.step,h.aE,h.aF,h.aC,h.aG,.slice q h.vs c2]] w true)
  (HL:xC 24 #[.agg #[h.aA,h.aB,.slice p h.cells a,h.free,h.step,h.aE,h.aF,h.aC,h.aG,.slice q h.vs c2]] w fun w' e w''=> ∃p' cap' q' c2',e= .returned (.agg #[h.aA,h.aB,.slice p' h.cells cap',h.free,h.step,h.aE,h.aF,h.aC,h.aG,.slice q' h.vs c2'])∧w''.ownsRow w' TI 1 (.slice p' h.cells cap') h.cells.length (ivs h.cells)∧w''.ownsRow w' TV 4 (.slice q' h.vs c2') h.vs.length (h.vs.flatMap aD)∧Ext w' w''):
  U 6 #[.agg #[h.aA,h.aB,.slice p h.cells a,h.free,h.step,h.aE,h.aF,h.aC,h.aG,.slice q h.vs c2],.slice lq lm lc] w (iV w (gE h ds,eI h ds) w):=by
 have a6:=HS.out.bd;obtain⟨AB,o⟩: ∃AB:Array Value,AB=madeCells #[.bool false] lm:=⟨_,rfl⟩
 have a8: ∀w:World,(Instr.makeSlice 34 (I lm) (I lm)).run prog w= .ok (.slice (some ⟨w,0,none⟩) lm lm) (w.alloc (.cells AB TB)):=fun w=>by rw[o];exact run_make_row' _ _ (Value.bool false) 1 underlying34 (by kernel_rfl) rfl .i64 .i64 lm (by omega) (by omega) w
 have z:Hid (AB.toList=bcs []++List.replicate (lm-0) (Value.bool false)):=by show _=_;rw[o,(lD _ lm).1];simp[bcs]
 have aa:Hid (AB.size=lm):=by show _=_;rw[o];exact(lD _ lm).2
 clear o a6;go_enter func6,ntmps6;go_wp2_with fail;refine Z (y _ (((Mem.start w).c0 aL #[h.aA,h.aB,.slice p h.cells a,h.free,h.step,h.aE,h.aF,h.aC,h.aG,.slice q h.vs c2]).c1 aL zT).ext) fun w1 af=>?_
 have M1:=((((Mem.start w).c0 aL #[h.aA,h.aB,.slice p h.cells a,h.free,h.step,h.aE,h.aF,h.aC,h.aG,.slice q h.vs c2]).c1 aL zT).adv af)
 clear af y;obtain⟨ah,ai,aj,ak,al,am,an,ao,ap,aq⟩:=(M1.bk 1).ten;go_wp2_with fail;clear ah ai aj ak al am an ao ap aq;refine(HL _ M1.ext).mono ?_;rintro e w2 ⟨p1,l,q1,m,rfl,ho,hq,hx⟩;have M2:=(M1.own2 hx ho hq (aK1 _) (by decide))
 clear M1 hx ho hq HL;go_upto_region 4 with fail;obtain⟨gV,u⟩: ∃gV,gV=w2.heap.size:=⟨_,rfl⟩
 rw[←u];have M3:=(M2.blkNew aL #[h.aA,h.aB,.slice p1 h.cells l,h.free,h.step,h.aE,h.aF,h.aC,h.aG,.slice q1 h.vs m] gV u.symm)
 generalize World.alloc _ _=w3 at M3⊢;clear M2 u;go_upto_region 5 with fail;obtain⟨gD,t⟩: ∃gD,gD=w3.heap.size:=⟨_,rfl⟩
 rw[←t]
 have MD:=(show Mem w (w3.alloc (.cells AB TB)) [aJ w TB 1 (some ⟨gD,0,none⟩) (lm) (lm) (bcs ([])++List.replicate (lm-0) (Value.bool false)),aI w (gV) aL (aMg h p1 l q1 m),aMe w p1 h.cells l,aMf w q1 h.vs m,aI w (w.heap.size+1) aL #[(),(),((),()),(),(),(),(),(),(),((),())],aI w w aL (aMg h p a q c2)]from by
  have h1:=M3.lit TB 1 lm gD AB t.symm (by rw[aa.out];omega) (by simp[maxLen];omega);rw[z.out]at h1
  exact h1)
 generalize ae:World.alloc _ _=w4;rw[ae]at MD;clear ae z aa a8 t M3;go_wp2;go_loopw [21] (fun i wr=> ∃(k:Nat) (g:aO) (p3:OA) (c3:Nat) (q3:OA) (d3:Nat),k≤lm∧i=I k∧g=gE h (ds.take k)∧Mem w wr [aJ w TB 1 (some ⟨gD,0,none⟩) (lm) (lm) (bcs (eI h (ds.take k))++List.replicate (lm-k) (Value.bool false)),aMe w p3 g.cells c3,aMf w q3 g.vs d3,aI w (gV) aL (aMg g p3 c3 q3 d3),aI w (w.heap.size+1) aL #[(),(),((),()),(),(),(),(),(),(),((),())],aI w w aL (aMg h p a q c2)]) (fun i _=>lm-(intOf i).toNat)
 case atStart=>exact⟨0,h,p1,l,q1,m,aK8 _,rfl,rfl,(show Mem w w4 [aJ w TB 1 (some ⟨gD,0,none⟩) (lm) (lm) (bcs ([])++List.replicate (lm-0) (Value.bool false)),aMe w p1 h.cells l,aMf w q1 h.vs m,aI w (gV) aL (aMg h p1 l q1 m),aI w (w.heap.size+1) aL #[(),(),((),()),(),(),(),(),(),(),((),())],aI w w aL (aMg h p a q c2)]from MD.pick [0,2,3,1,4,5] (by decide) rfl)⟩
 case round=>
  clear MD;obtain⟨k,g,p3,c3,q3,d3,hk,rfl,hg,hM⟩:=hrel;have HM:=hM;have HG:=xQ hg;have x:Hid (bB g=true):=by show _=_;rw[hg];exact lU _ a9.out
  clear hM hg;by_cases hlt:k<lm
  ·obtain⟨b,bp,a0,a1,a2,a7,hx,bo,e0,e1,e2⟩:=xK (HS.out.ext HM.ext) hlt;subst a7;have HX:=xQ hx;clear hx;have i1:(0:Int)≤(k:Int):=by omega
   have i2:(k:Int)<(lm:Int):=by omega
   obtain⟨r,num,ok,hr⟩: ∃r num ok,(r,num,ok)=doR g a0 a1 a2:=⟨_,_,_,rfl⟩
   have HR:=xQ hr;clear hr;have ad:Hid (gE h (ds.take (k+1))=r∧eI h (ds.take (k+1))=eI h (ds.take k)++ [ok]):=by show _∧_;rw[bE HX.out,qG,tP,←HG.out,←HR.out];exact⟨rfl,rfl⟩
   have HD:Hid (∀B p c q d w',B≤w'.heap.size→Ext wr w'→IsHouse w' g p g.cells.length c q g.vs.length d→U 13 #[.agg #[g.aA,g.aB,.slice p g.cells c,g.free,g.step,g.aE,g.aF,g.aC,g.aG,.slice q g.vs d],.agg #[a0,a1,a2]] w' fun e w''=> ∃pa ca qa da,e= .returned (.tuple #[.agg #[r.aA,r.aB,.slice pa r.cells ca,r.free,r.step,r.aE,r.aF,r.aC,r.aG,.slice qa r.vs da],num,.bool ok])∧w''.ownsRow B TI 1 (.slice pa r.cells ca) r.cells.length (ivs r.cells)∧w''.ownsRow B TV 4 (.slice qa r.vs da) r.vs.length (r.vs.flatMap aD)∧Ext w' w''):=fun B p c q d w' hB hx hi=>by refine(rI g a0 a1 a2 p _ c q _ d w' hi x (hE.out.ext (HM.ext.trans hx))).mono (fun e w'' hr=> ?_);have hq:=wM hB x hr;rw[←HR.out]at hq;exact hq
   have IX:=xQ (show IsHouse wr g p3 g.cells.length c3 q3 g.vs.length d3 from⟨(HM.sq 1),(HM.sq 2)⟩);have f:gV<wr:=(HM.hi 3)
   obtain⟨v0,v1,v2,v3,v4,v5,v6,v7,v8,v9⟩:=(HM.bk 3).ten;go_wp2_with fail;clear v0 v1 v2 v3 v4 v5 v6 v7 v8 v9 e0 e1 e2;refine(HD _ _ _ _ _ _ (aK1 _) ((Ext.refl _).alloc _) (IX.out.ext ((Ext.refl _).alloc _))).mono ?_;rintro e w6 ⟨p5,c5,q5,d5,rfl,ho,hq,hx⟩;have M6:=((HM.c0 TDd #[a0,a1,a2]).own2 hx ho hq (aK1 _) (by decide))
   clear HM f hx ho hq HD IX;obtain⟨v0,bb,v1,bc,v2,be,v3,bf,v4,bg,v5,bh,v6,bi,v7,bj,v8,bl,v9,bm⟩:=(M6.bk 6).tenf;have ag: ¬(gD=gV):=M6.ne (i:=3) (j:=6) (by omega) rfl rfl rfl rfl;have ba: ¬(gV=gD):=fun h=>ag h.symm
   have fD:w6.frozen? ⟨gD,k,none⟩=false:=(M6.ow 3).frozenAt k;have ab:(bcs (eI h (ds.take k))).length=k:=by rw[aD7,qT,aKs,s.out];omega
   have cD:w6.cell? ⟨gD,k,none⟩=some (Value.bool false):=by have:=(M6.ow 3).cellAt k (by omega);rw[this];exact aIr ab hlt
   go_wp2;clear v0 bb v1 bc v2 be v3 bf v4 bg v5 bh v6 bi v7 bj v8 bl v9 bm ag ba fD cD;have M9:=((M6.put10 (i:=6) rfl (I r.aA) (I r.aB) (.slice p5 r.cells c5) (I r.free) (I r.step) (I r.aE) (I r.aF) (I r.aC) (I r.aG) (.slice q5 r.vs d5)).ostore (i:=3) rfl k (Value.bool ok))
   generalize n:World.setCell _ _ _=wz;rw[n]at M9;clear n M6;go_roundw
   case rel=>
    have hd:(bcs (eI h (ds.take k))++List.replicate (lm-k) (Value.bool false)).set k (Value.bool ok)=bcs (eI h (ds.take (k+1)))++List.replicate (lm-(k+1)) (Value.bool false):=by rw[ad.out.2,aA1];exact aHj ab hlt
    exact⟨k+1,r,p5,c5,q5,d5,by omega,by go_num,ad.out.1.symm,by rw[←hd];exact(show Mem w wz [aJ w TB 1 (some ⟨gD,0,none⟩) (lm) (lm) ((bcs (eI h (ds.take k))++List.replicate (lm-k) (Value.bool false)).set k (Value.bool ok)),aMe w p5 r.cells c5,aMf w q5 r.vs d5,aI w (gV) aL (aMg r p5 c5 q5 d5),aI w (w.heap.size+1) aL #[(),(),((),()),(),(),(),(),(),(),((),())],aI w w aL (aMg h p a q c2)]from(show Mem w wz [aMe w p5 r.cells c5,aMf w q5 r.vs d5,aI w wr TDd #[a0,a1,a2],aJ w TB 1 (some ⟨gD,0,none⟩) (lm) (lm) ((bcs (eI h (ds.take k))++List.replicate (lm-k) (Value.bool false)).set k (Value.bool ok)),aMe w p3 g.cells c3,aMf w q3 g.vs d3,aI w (gV) aL (aMg r p5 c5 q5 d5),aI w (w.heap.size+1) aL #[(),(),((),()),(),(),(),(),(),(),((),())],aI w w aL (aMg h p a q c2)]from M9).pick [3,0,1,6,7,8] (by decide) rfl)⟩
   case measure=>simp[intOf];omega
  obtain rfl:lm=k:=by omega
  have f:gV<wr:=(HM.hi 3)
  obtain⟨v0,v1,v2,v3,v4,v5,v6,v7,v8,v9⟩:=(HM.bk 3).ten;obtain⟨f0,ar,f1,au,f2,av,f3,aw,f4,ax,f5,ay,f6,az,f7,a3,f8,a4,f9,a5⟩:=(HM.bk 4).tenf;go_wp2;clear v0 v1 v2 v3 v4 v5 v6 v7 v8 v9 f0 ar f1 au f2 av f3 aw f4 ax f5 ay f6 az f7 a3 f8 a4 f9 a5 f;have M6:=(HM.put10 (i:=4) rfl (I g.aA) (I g.aB) (.slice p3 g.cells c3) (I g.free) (I g.step) (I g.aE) (I g.aF) (I g.aC) (I g.aG) (.slice q3 g.vs d3))
  generalize n:World.setCell _ _ _=wz;rw[n]at M6;clear n HM;obtain⟨y0,y1,y2,y3,y4,y5,y6,y7,y8,y9⟩:=(M6.bk 4).ten;exact bodyPost_ret (v:= .tuple #[.agg #[g.aA,g.aB,.slice p3 g.cells c3,g.free,g.step,g.aE,g.aF,g.aC,g.aG,.slice q3 g.vs d3],.slice (some ⟨gD,0,none⟩) lm lm]) (by simp[results,results6,go_sem, *]) rfl (aCl (by have h1:=HG.out;rw[aKb (by rw[s.out];exact aK1 _)]at h1;exact h1) s.out (M6.ow 1) (M6.ow 2) (by have h1:=(M6.ow 0);rw[aKb (by rw[s.out];exact aK1 _),aLz,List.replicate_zero,aKr]at h1;exact h1) M6.ext)
theorem mA (h:aO)(p:OA)(n a:Nat)(q:OA)(m c2:Nat)(lq:OA)(lm lc:Nat)(ds:List Dd3)(w:World)(hi:IsHouse w h p n a q m c2)(hS:Sl w lq lm lc 3 (ds.flatMap cE))(hb:lm≤1048576)(hE:BitTab w):
  U 6 #[bN h p n a q m c2,.slice lq lm lc] w (iV w (oA h ds) w):=by
 have hl:=hi.clen;have c:=hi.vlen;have b:ds.length=lm:=by have:=hS.len;rw[cR cE 3 (fun _=>rfl)]at this;omega
 subst hl c;have HV:=xQ fun(w':World) (hx:Ext w w')=>lJ h p _ a q _ c2 w' (hi.ext hx)
 by_cases hok:bB h=true
 ·have d:=gW hok;unfold oA;rw[if_pos hok];rw[hok]at HV;have HL:=xQ fun(w':World) (hx:Ext w w')=>oH h p _ a q _ c2 w' (by omega) (by omega) (hi.ext hx)
  unfold RetHouse at HL;exact aJt h p a q c2 lq lm lc ds w hb hE b hok hS HV HL
 unfold oA;rw[if_neg hok];rw[show bB h=false by simpa using hok]at HV;exact aIj h p a q c2 lq lm lc ds w HV
end
theorem aIi (h:aO)(k a b:Int)(p:OA)(n c:Nat)(q:OA)(m c2:Nat)(w:World)(hi:IsHouse w h p n c q m c2)(hE:BitTab w):
  U 13 #[bN h p n c q m c2,kG k a b] w (aJm w (doR h k a b) w):=by
 by_cases hok:bB h=true
 ·exact(rI h k a b p n c q m c2 w hi hok hE).mono (fun e w' hr=>wM (aK1 _) hok hr)
 exact(rW h k a b p n c q m c2 w hi (by simpa using hok)).mono (fun e w' hr=>aIu hok hr)
section
open Go.Proofs.Tryz
theorem wI (p q:OA)(n m c1 c2:Nat)(xs ys:List Int)(w:World)(h1:Sl w p n c1 1 (ivs xs))(h2:Sl w q m c2 1 (ivs ys)):
  U 62 #[.slice p n c1,.slice q m c2] w fun e w'=> ∃b:Bool,e= .returned (.bool b)∧(b=true↔xs=ys)∧Ext w w':=by
 have hn:=h1.bd;have hm:=h2.bd;have l1:=xQ h1.ilen;have l2:=xQ h2.ilen;have H1:=xQ h1;have H2:=xQ h2;clear h1 h2;by_cases hnm:n=m
 ·subst hnm;go_enter func62,ntmps62;go_wp2;go_loopw [5] (fun i wr=> ∃k:Nat,k≤n∧i=I k∧xs.take k=ys.take k∧Ext w wr) (fun i _=>n-(intOf i).toNat)
  case atStart=>exact⟨0,aK8 _,rfl,rfl,Ext.refl _⟩
  case round=>
   obtain⟨k,hk,rfl,ht,hE⟩:=hrel;have HT:=xQ ht;clear ht;by_cases hlt:k<n
   ·obtain⟨b,j,x,rfl,hx,hb,d⟩:=(H1.out.ext hE).int_at hlt;obtain⟨b2,g,y,rfl,hy,h,c⟩:=(H2.out.ext hE).int_at hlt;have HX:=xQ hx;have HY:=xQ hy;clear hx hy;have i1:(0:Int)≤(k:Int):=by omega
    have i2:(k:Int)<(n:Int):=by omega
    by_cases hxy:x=y
    ·have f:Hid (xs.take (k+1)=ys.take (k+1)):=by
      show _=_;rw[bE HX.out,bE HY.out,HT.out,hxy]
     subst hxy;go_wp2;go_quiet (fail);go_wp2;go_roundw
     case rel=>exact⟨k+1,by omega,by go_num,f.out,xE⟩
     case measure=>simp[intOf];omega
    have e1:(x==y)=false:=by simpa using hxy
    have a:Hid (xs≠ys):=by rintro rfl;have:=HX.out.symm.trans HY.out;injection this with this;exact hxy this
    clear hxy;go_wp2;go_quiet (fail);go_wp2;go_ret;exact⟨false,rfl,iff_of_false Bool.false_ne_true a.out,xE⟩
   have a:Hid (xs=ys):=by have:=HT.out;rw[aKb (by rw[l1.out];omega),aKb (by rw[l2.out];omega)]at this;exact this
   go_wp2;go_ret;exact⟨true,rfl,iff_of_true rfl a.out,hE⟩
 have e1:((n:Int)==(m:Int))=false:=by simp;omega
 have a:Hid (xs≠ys):=by rintro rfl;exact hnm (l1.out.symm.trans l2.out)
 go_enter func62,ntmps62;go_wp2;go_ret;exact⟨false,rfl,iff_of_false Bool.false_ne_true a.out,xE⟩
theorem wJ (aA aB c a:Int)(p q:OA)(n m c1 c2:Nat)(xs ys:List Int)(w:World)(h1:Sl w p n c1 1 (ivs xs))(h2:Sl w q m c2 1 (ivs ys)):
  U 27 #[aH aA aB p n c1,aH c a q m c2] w fun e w'=> ∃b:Bool,e= .returned (.bool b)∧(b=true↔aA=c∧aB=a∧xs=ys)∧Ext w w':=by
 have H1:=xQ h1;have H2:=xQ h2;clear h1 h2;by_cases hw:aA=c
 ·subst hw;by_cases hd:aB=a
  ·subst hd;go_enter func27,ntmps27;go_wp2_with fail;refine(wI p q n m c1 c2 xs ys _ (H1.out.ext xE) (H2.out.ext xE)).mono ?_;rintro e w1 ⟨b,rfl,hb,hx⟩;have HB:=xQ hb;clear hb;go_wp2;go_ret;exact⟨b,rfl,by rw[HB.out];simp,xE⟩
  have e1:(aB==a)=false:=by simpa using hd
  have HN:=xQ hd;clear hd;go_enter func27,ntmps27;go_wp2;go_ret;exact⟨false,rfl,iff_of_false Bool.false_ne_true (fun e=>HN e.2.1),xE⟩
 have e1:(aA==c)=false:=by simpa using hw
 have HN:=xQ hw;clear hw;go_enter func27,ntmps27;go_wp2;go_ret;exact⟨false,rfl,iff_of_false Bool.false_ne_true (fun e=>HN e.1),xE⟩
theorem eY (a b:Int):(a==b)=false∧ ¬a=b∨a=b:=by
 by_cases h:a=b
 ·exact .inr h
 exact .inl ⟨by simpa using h,h⟩
theorem uD (h g:aO)(p1:OA)(n1 c1:Nat)(q1:OA)(m1 d1:Nat)(p2:OA)(n2 c2:Nat)(q2:OA)(m2 d2:Nat)(w:World)(t:IsHouse w h p1 n1 c1 q1 m1 d1)(u:IsHouse w g p2 n2 c2 q2 m2 d2):
  U 8 #[bN h p1 n1 c1 q1 m1 d1,bN g p2 n2 c2 q2 m2 d2] w fun e w'=> ∃b:Bool,e= .returned (.bool b)∧(b=true↔h=g)∧Ext w w':=by
 have hm:=t.vs.bd;have ad:=u.vs.bd;have v:=xQ t.vlen;have x:=xQ u.vlen;have H1:=xQ t.cells;have H2:=xQ u.cells;have V1:=xQ t.vs;have V2:=xQ u.vs;clear t u;obtain⟨aA,aB,s,q,r,aE,aF,aC,aG,vs⟩:=h;obtain⟨f,d,p,m,n,c,l,a,j,o⟩:=g;dsimp only at v x H1 H2 V1 V2;go_enter func8,ntmps8;go_wp2_with fail;refine(wJ aA aB f d p1 p2 n1 n2 c1 c2 s p _ (H1.out.ext (((Mem.start w).c0 aL #[aA,aB,.slice p1 n1 c1,q,r,aE,aF,aC,aG,.slice q1 m1 d1]).c1 aL #[f,d,.slice p2 n2 c2,m,n,c,l,a,j,.slice q2 m2 d2]).ext) (H2.out.ext (((Mem.start w).c0 aL #[aA,aB,.slice p1 n1 c1,q,r,aE,aF,aC,aG,.slice q1 m1 d1]).c1 aL #[f,d,.slice p2 n2 c2,m,n,c,l,a,j,.slice q2 m2 d2]).ext)).mono ?_;rintro e w1 ⟨b,rfl,hb,hx⟩;have HB:=xQ hb;clear hb;have M1:=((((Mem.start w).c0 aL #[aA,aB,.slice p1 n1 c1,q,r,aE,aF,aC,aG,.slice q1 m1 d1]).c1 aL #[f,d,.slice p2 n2 c2,m,n,c,l,a,j,.slice q2 m2 d2]).adv hx)
 clear hx;obtain⟨a0,a1,a2,a3,a4,a5,a6,a7,a8,a9⟩:=(M1.bk 1).ten;obtain⟨b0,b1,b2,b3,b4,b5,b6,b7,b8,b9⟩:=(M1.bk 0).ten;cases b with
 |false=>
  have HN:Hid (¬(aA=f∧aB=d∧s=p)):=fun e=>absurd (HB.out.2 e) Bool.false_ne_true
  go_wp2;go_ret;exact⟨false,rfl,iff_of_false Bool.false_ne_true (fun e=>HN (by injection e;exact⟨‹_›,‹_›,‹_›⟩)),M1.ext⟩
 |true=>
  obtain⟨rfl,rfl,rfl⟩:=HB.out.1 rfl;clear HB;rcases eY q m with⟨x1,hn⟩|rfl
  ·have HN:=xQ hn;clear hn;go_wp2;go_ret;exact⟨false,rfl,iff_of_false Bool.false_ne_true (fun e=>HN (by injection e)),M1.ext⟩
  rcases eY r n with⟨x1,hn⟩|rfl
  ·have HN:=xQ hn;clear hn;go_wp2;go_ret;exact⟨false,rfl,iff_of_false Bool.false_ne_true (fun e=>HN (by injection e)),M1.ext⟩
  rcases eY aE c with⟨x1,hn⟩|rfl
  ·have HN:=xQ hn;clear hn;go_wp2;go_ret;exact⟨false,rfl,iff_of_false Bool.false_ne_true (fun e=>HN (by injection e)),M1.ext⟩
  rcases eY aF l with⟨x1,hn⟩|rfl
  ·have HN:=xQ hn;clear hn;go_wp2;go_ret;exact⟨false,rfl,iff_of_false Bool.false_ne_true (fun e=>HN (by injection e)),M1.ext⟩
  rcases eY aC a with⟨x1,hn⟩|rfl
  ·have HN:=xQ hn;clear hn;go_wp2;go_ret;exact⟨false,rfl,iff_of_false Bool.false_ne_true (fun e=>HN (by injection e)),M1.ext⟩
  rcases eY aG j with⟨x1,hn⟩|rfl
  ·have HN:=xQ hn;clear hn;go_wp2;go_ret;exact⟨false,rfl,iff_of_false Bool.false_ne_true (fun e=>HN (by injection e)),M1.ext⟩
  by_cases hm:m1=m2
  ·subst hm;go_wp2;go_loopw [5] (fun i wr=> ∃k:Nat,k≤m1∧i=I k∧vs.take k=o.take k∧Ext w1 wr) (fun i _=>m1-(intOf i).toNat)
   case atStart=>exact⟨0,aK8 _,rfl,rfl,Ext.refl _⟩
   case round=>
    clear a0 a1 a2 a3 a4 a5 a6 a7 a8 a9 b0 b1 b2 b3 b4 b5 b6 b7 b8 b9;obtain⟨k,hk,rfl,ht,hE⟩:=hrel;have HT:=xQ ht;have M2:=(M1.adv hE)
    clear ht;have a9:=(M2.bk 1).cl 9;have b9:=(M2.bk 0).cl 9;by_cases hlt:k<m1
    ·obtain⟨b,ae,x0,x1,x2,x3,rfl,hx,hb,g0,g1,g2,g3⟩:=fL (V1.out.ext M2.ext) hlt;obtain⟨b',aa,y0,y1,y2,y3,rfl,hy,ab,k0,k1,k2,k3⟩:=fL (V2.out.ext M2.ext) hlt;have HX:=xQ hx;have HY:=xQ hy;clear hx hy;have i1:(0:Int)≤(k:Int):=by omega
     have i2:(k:Int)<(m1:Int):=by omega
     have HV:Hid (vs=o→(x0,x1,x2,x3)=(y0,y1,y2,y3)):=fun e=>by have:=HX.out;rw[e,HY.out]at this;injection this with this;exact this.symm
     rcases eY x0 y0 with⟨z1,hn⟩|rfl
     ·have HN:Hid (¬vs=o):=fun e=>hn (by have:=HV e;simp only[aKx]at this;exact this.1)
      clear hn HV;go_wp2;go_quiet (fail);go_wp2;go_ret;exact⟨false,rfl,iff_of_false Bool.false_ne_true (fun e=>HN (by injection e)),Ext.drewN M2.ext _⟩
     rcases eY x1 y1 with⟨z1,hn⟩|rfl
     ·have HN:Hid (¬vs=o):=fun e=>hn (by have:=HV e;simp only[aKx]at this;exact this.2.1)
      clear hn HV;go_wp2;go_quiet (fail);go_wp2;go_ret;exact⟨false,rfl,iff_of_false Bool.false_ne_true (fun e=>HN (by injection e)),Ext.drewN M2.ext _⟩
     rcases eY x2 y2 with⟨z1,hn⟩|rfl
     ·have HN:Hid (¬vs=o):=fun e=>hn (by have:=HV e;simp only[aKx]at this;exact this.2.2.1)
      clear hn HV;go_wp2;go_quiet (fail);go_wp2;go_ret;exact⟨false,rfl,iff_of_false Bool.false_ne_true (fun e=>HN (by injection e)),Ext.drewN M2.ext _⟩
     rcases eY x3 y3 with⟨z1,hn⟩|rfl
     ·have HN:Hid (¬vs=o):=fun e=>hn (by have:=HV e;simp only[aKx]at this;exact this.2.2.2)
      clear hn HV;go_wp2;go_quiet (fail);go_wp2;go_ret;exact⟨false,rfl,iff_of_false Bool.false_ne_true (fun e=>HN (by injection e)),Ext.drewN M2.ext _⟩
     have z:Hid (vs.take (k+1)=o.take (k+1)):=by show _=_;rw[bE HX.out,bE HY.out,HT.out]
     clear HV;go_wp2;go_quiet (fail);go_wp2;go_roundw
     case rel=>exact⟨k+1,by omega,by go_num,z.out,xE⟩
     case measure=>simp[intOf];omega
    have y:Hid (vs=o):=by have:=HT.out;rw[aKb (by rw[v.out];omega),aKb (by rw[x.out];omega)]at this;exact this
    go_wp2;go_ret;exact⟨true,rfl,iff_of_true rfl (by rw[y.out]),M2.ext⟩
  have e1:((m1:Int)==(m2:Int))=false:=by simp;omega
  have HN:Hid (¬vs=o):=fun e=>hm (by rw[←v.out,←x.out,e])
  go_wp2;go_ret;exact⟨false,rfl,iff_of_false Bool.false_ne_true (fun e=>HN (by injection e)),M1.ext⟩
theorem jO (h:aO)(p1:OA)(n1 c1:Nat)(q1:OA)(m1 d1:Nat)(p2:OA)(n2 c2:Nat)(q2:OA)(m2 d2:Nat)(w:World)(a:IsHouse w h p1 n1 c1 q1 m1 d1)(c:IsHouse w h p2 n2 c2 q2 m2 d2):
  U 8 #[bN h p1 n1 c1 q1 m1 d1,bN h p2 n2 c2 q2 m2 d2] w (O (.bool true) w):=by
 refine(uD h h p1 n1 c1 q1 m1 d1 p2 n2 c2 q2 m2 d2 w a c).mono ?_;rintro e w' ⟨b,rfl,hb,hx⟩;rw[hb.2 rfl];exact⟨rfl,hx⟩
theorem aB9 (p:OA)(c:Nat)(q:OA)(d:Nat)(w:World)(hi:IsHouse w hZ p 0 c q 0 d):
  U 11 #[bN hZ p 0 c q 0 d] w (O (.bool true) w):=by
 have H:=xQ (fun w' (hx:Ext w w')=>jO hZ p 0 c q 0 d none 0 0 none 0 0 w' (hi.ext hx) ⟨Sl.nil w' 1,Sl.nil w' 4⟩);clear hi;unfold hZ at*;go_enter func11,ntmps11;go_wp2_with fail;refine Z (H _ xE) fun w1 a=>?_
 go_wp2;go_ret;exact⟨rfl,xE⟩
theorem aHq {w:World}{q:OA}{m c2:Nat}{bs:List Bool}(h:Sl w q m c2 1 (bcs bs)){k:Nat}(hk:k<m):
  ∃b off x,q=some ⟨b,off,none⟩∧bs[k]? =some x∧b<w.heap.size∧w.cell? ⟨b,off+k,none⟩=some (.bool x):=by
 obtain⟨b,off,hp,hb,hc⟩:=h.rd (by omega);have hl:=h.len;rw[aD7]at hl;have hx:bs[k]? =some (bs[k]'(by omega)):=aK2 (by omega);refine⟨b,off,bs[k]'(by omega),hp,hx,hb,?_⟩;rw[hc k (by omega)];simp only[bcs,aKl,hx,aKv]
theorem wK (p q:OA)(n c1 c2:Nat)(xs:List Bool)(w:World)(h1:Sl w p n c1 1 (bcs xs))(h2:Sl w q n c2 1 (bcs xs)):
  U 9 #[.slice p n c1,.slice q n c2] w (O (.bool true) w):=by
 have hn:=h1.bd;have H1:=xQ h1;have H2:=xQ h2;clear h1 h2;go_enter func9,ntmps9;go_wp2;go_loopw [5] (fun i wr=> ∃k:Nat,k≤n∧i=I k∧Ext w wr) (fun i _=>n-(intOf i).toNat)
 case atStart=>exact⟨0,aK8 _,rfl,Ext.refl _⟩
 case round=>
  obtain⟨k,hk,rfl,hE⟩:=hrel;by_cases hlt:k<n
  ·obtain⟨b,d,x,rfl,hx,hb,g0⟩:=aHq (H1.out.ext hE) hlt;obtain⟨b2,a,x',rfl,hy,c,k0⟩:=aHq (H2.out.ext hE) hlt;rw[hx]at hy;injection hy with hy;subst hy;clear hx;have i1:(0:Int)≤(k:Int):=by omega
   have i2:(k:Int)<(n:Int):=by omega
   go_wp2;go_quiet (fail);go_wp2;go_roundw
   case rel=>exact⟨k+1,by omega,by go_num,xE⟩
   case measure=>simp[intOf];omega
  go_wp2;go_ret;exact⟨rfl,hE⟩
end
theorem aJl {h:aO}(a:bB h=true){id:Int}{v:aS}(hv:dI id h.vs=some v):eF h id=bS h.free h.step h.aE h.aF v.2.1 v.2.2.1 v.2.2.2 h.aC:=by unfold eF cX;rw[if_pos a,hv];rfl
theorem aCn {h:aO}(a:bB h=true){id amt:Int}{g:aO}{n:Int}(hd:mL h id amt=some (g,n)):
  ∃v,dI id h.vs=some v∧1≤amt∧amt≤300∧1≤eF h id∧n=amt-min (eF h id) amt∧h.aG+min (eF h id) amt≤99999∧
   g={h with aG:=h.aG+min (eF h id) amt,vs:=h.vs.set (vix id h.vs).toNat (id,v.2.1,v.2.2.1+min (eF h id) amt,h.aC)}:=by
 obtain⟨q1,q2,q3,q4,q5⟩:=(dK h).1 a;unfold mL at hd;split at hd
 ·cases hd
 rename_i v hv;obtain⟨v1,v2,v3,v4,v5,v6⟩:=iY hv;obtain⟨s1,s2⟩:=(fR _ _).1 (q5 v (aK5 v3));obtain⟨b1,b2⟩:=iP q2 s1 s2 q3.2.1;have hD:=aJl a hv;rw[←hD]at b1 b2;by_cases ha:1≤amt∧amt≤300
 ·by_cases hn:eF h id=0
  ·have hp:(eM h.free h.step h.aE h.aF v.2.1 v.2.2.1 v.2.2.2 h.aC amt).2.2=false:=by unfold eM;rw[if_pos ha,←hD,if_pos hn]
   rw[if_neg (by rw[hp];simp)]at hd;cases hd
  have hp:eM h.free h.step h.aE h.aF v.2.1 v.2.2.1 v.2.2.2 h.aC amt=((v.2.1,v.2.2.1+min (eF h id) amt,h.aC),amt-min (eF h id) amt,true):=by unfold eM;rw[if_pos ha,←hD,if_neg hn]
  rw[hp]at hd;dsimp only at hd;by_cases hb:h.aG+amt-(amt-min (eF h id) amt)≤99999
  ·rw[if_pos ⟨rfl,hb⟩]at hd;injection hd with hd;simp only[aKx]at hd;obtain⟨rfl,rfl⟩:=hd;refine⟨v,hv,ha.1,ha.2,by omega,rfl,by omega,?_⟩;rw[show h.aG+amt-(amt-min (eF h id) amt)=h.aG+min (eF h id) amt by omega]
  rw[if_neg (fun hh=>hb hh.2)]at hd;cases hd
 have hp:(eM h.free h.step h.aE h.aF v.2.1 v.2.2.1 v.2.2.2 h.aC amt).2.2=false:=by unfold eM;rw[if_neg ha]
 rw[if_neg (by rw[hp];simp)]at hd;cases hd
theorem tQ {h:aO}{k a b:Int}{g:aO}{n:Int}(hd:bU h k a b=some (g,n)):
  (k=0∧0≤(bV h.aA h.aB h.cells a).2∧g={h with cells:=(bV h.aA h.aB h.cells a).1,vs:=jL (a,h.aC,0,h.aC) h.vs})∨
  (k=1∧mL h a b=some (g,n))∨
  (k=2∧dB h a=true∧0≤(bR h.aA h.aB h.cells a).2∧g={h with cells:=(bR h.aA h.aB h.cells a).1,vs:=h.vs.eraseIdx (vix a h.vs).toNat})∨
  (k=3∧1≤a∧a≤9999-h.aC∧g={h with aC:=h.aC+a})∨
  (k=4∧aX h.aA h.aB h.cells a b=true∧g={h with cells:=bD h.aA h.aB h.cells a b}):=by
 unfold bU at hd;split at hd
 ·rename_i k0;split at hd
  ·rename_i h0;injection hd with hd;simp only[aKx]at hd;exact .inl ⟨k0,h0,hd.1.symm⟩
  cases hd
 split at hd
 ·rename_i k1;exact .inr (.inl ⟨k1,hd⟩)
 split at hd
 ·rename_i k2;split at hd
  ·rename_i hm;injection hd with hd;simp only[aKx]at hd;exact .inr (.inr (.inl ⟨k2,hm.1,hm.2,hd.1.symm⟩))
  cases hd
 split at hd
 ·rename_i k3;split at hd
  ·rename_i hm;injection hd with hd;simp only[aKx]at hd;exact .inr (.inr (.inr (.inl ⟨k3,hm.1,hm.2,hd.1.symm⟩)))
  cases hd
 split at hd
 ·rename_i k4;split at hd
  ·rename_i hm;injection hd with hd;simp only[aKx]at hd;exact .inr (.inr (.inr (.inr ⟨k4,hm,hd.1.symm⟩)))
  cases hd
 cases hd
theorem aE1 {h:aO}{id:Int}(hm:dB h id=true): ∃v,dI id h.vs=some v:=by
 unfold dB cX at hm;split at hm
 ·cases hv:dI id h.vs with
  |none=>rename_i s hs;split at hs
         ·rw[hv]at hs;cases hs
         cases hs
  |some v=>exact⟨v,rfl⟩
 cases hm
theorem aG5 (h:aO)(a b:List Dd3):gE h (a++b)=gE (gE h a) b:=by unfold gE;rw[List.foldl_append]
structure PdTo (g:aO) (id D x:Int) (g':aO):Prop where
 ok:bB g'=true
 aG:g'.aG=g.aG+x
 aA:g'.aA=g.aA
 aB:g'.aB=g.aB
 cells:g'.cells=g.cells
 aC:g'.aC=g.aC
 free:g'.free=g.free
 step:g'.step=g.step
 aE:g'.aE=g.aE
 aF:g'.aF=g.aF
 due:eF g' id=D-x
 here: ∃v,dI id g'.vs=some v
 rest: ∀j,j≠id→dI j g'.vs=dI j g.vs
theorem PdTo.trans {g g1 g2:aO}{id D x y:Int}(a:PdTo g id D x g1)(b:PdTo g1 id (D-x) y g2):PdTo g id D (x+y) g2 where
 ok:=b.ok
 aG:=by rw[b.aG,a.aG];omega
 aA:=b.aA.trans a.aA
 aB:=b.aB.trans a.aB
 cells:=b.cells.trans a.cells
 aC:=b.aC.trans a.aC
 free:=b.free.trans a.free
 step:=b.step.trans a.step
 aE:=b.aE.trans a.aE
 aF:=b.aF.trans a.aF
 due:=by rw[b.due];omega
 here:=b.here
 rest:=fun j hj=>(b.rest j hj).trans (a.rest j hj)
def fU (h:aO)(d:Dd3):Int:=if(doR h d.1 d.2.1 d.2.2).2.2=true∧d.1=1 then d.2.2-(doR h d.1 d.2.1 d.2.2).2.1 else 0
def jE:aO→List Dd3→Int
 |_,[]=>0
 |h,d::ds=>fU h d+jE (jY h d) ds
theorem aBh: ∀(l:List Dd3) (h:aO) (d:Dd3),jE h (l++ [d])=jE h l+fU (gE h l) d:=by
 intro l;induction l with
 |nil=>intro h d;simp[jE,gE]
 |cons x l ih=>intro h d;show fU h x+jE (jY h x) (l++ [d])=_;rw[ih];show _=fU h x+jE (jY h x) l+_;rw[show gE h (x::l)=gE (jY h x) l from rfl];omega
theorem aEw {h:aO}(c:bB h=true)(d:Dd3):(jY h d).aG=h.aG+fU h d:=by
 obtain⟨k,a,b⟩:=d;unfold jY fU doR;dsimp only;rw[if_pos c];cases hd:bU h k a b with
 |none=>simp
 |some r=>
  obtain⟨g,n⟩:=r;dsimp only;rcases tQ hd with⟨rfl,_,rfl⟩|⟨rfl,hp⟩|⟨rfl,_,_,rfl⟩|⟨rfl,_,_,rfl⟩|⟨rfl,_,rfl⟩
  ·simp
  ·obtain⟨v,hv,a1,a2,a3,rfl,a5,rfl⟩:=aCn c hp;rw[if_pos ⟨rfl,rfl⟩];dsimp only;omega
  ·simp
  ·simp
  simp
theorem aHs: ∀(l:List Dd3) {h:aO},bB h=true→(gE h l).aG=h.aG+jE h l:=by
 intro l;induction l with
 |nil=>intro h _;simp[gE,jE]
 |cons x l ih=>
  intro h a;show(gE (jY h x) l).aG=h.aG+(fU h x+jE (jY h x) l)
  rw[ih (yS a x),aEw a x];omega
theorem wL {h:aO}(a:bB h=true)(l:List Dd3):oA h l=(gE h l,eI h l):=by unfold oA;rw[if_pos a]
theorem aIa {h:aO}(c:bB h=true){a b:Int}{g:aO}{n:Int}(hd:bU h 2 a b=some (g,n)):
  ∃i pd t,cX h a=some (i,pd,t)∧(iH h.free h.step h.aE h.aF (h.aC-i)≤pd∨(iH h.free h.step h.aE h.aF (t-i)≤pd∧h.aC-t≤15))∧0≤i∧i≤t∧t≤h.aC∧0≤pd∧pd≤9999∧h.aC≤9999:=by
 rcases tQ hd with⟨hk,_⟩|⟨hk,_⟩|⟨_,hm,_⟩|⟨hk,_⟩|⟨hk,_⟩
 ·omega
 ·omega
 ·obtain⟨v,hv⟩:=aE1 hm;obtain⟨q1,q2,q3,q4,q5⟩:=(dK h).1 c;obtain⟨s1,s2⟩:=(fR _ _).1 (q5 v (aLe hv));obtain⟨t1,t2,t3,t4,t5,t6⟩:=eQ s1;have hs:cX h a=some (v.2.1,v.2.2.1,v.2.2.2):=by unfold cX;rw[if_pos c,hv];rfl
  refine⟨_,_,_,hs,?_,t1,t5,s2,t3,t4,q3.2.1⟩;unfold dB at hm;rw[hs]at hm;dsimp only at hm;have e1:bS h.free h.step h.aE h.aF v.2.1 v.2.2.1 v.2.2.2 h.aC=max (iH h.free h.step h.aE h.aF (h.aC-v.2.1)-v.2.2.1) 0:=by unfold bS;rw[if_pos (by simp[q2,s1,s2,q3.2.1])]
  have e2:bS h.free h.step h.aE h.aF v.2.1 v.2.2.1 v.2.2.2 v.2.2.2=max (iH h.free h.step h.aE h.aF (v.2.2.2-v.2.1)-v.2.2.1) 0:=by unfold bS;rw[if_pos (by simp[q2,s1,t6])]
  unfold jD at hm;rw[e1,e2]at hm;simp only[Bool.or_eq_true,aKg,decide_eq_true_eq]at hm;omega
 ·omega
 omega
end Go.Proofs.YtbgkcehffiogcaaGreatDoor
