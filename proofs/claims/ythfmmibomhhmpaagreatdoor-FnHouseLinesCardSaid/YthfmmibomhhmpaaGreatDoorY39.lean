/-
  Texts of this proof, packed (@packed).
-/
import Derived.Test.YthfmmibomhhmpaaGreatDoorY38
namespace Go.Proofs.YthfmmibomhhmpaaGreatDoor
open Go.RowKit
set_option linter.unusedSimpArgs false
set_option linter.unusedVariables false
set_option maxHeartbeats 8000000
set_option maxRecDepth 100000
section
open Go.Proofs.Tryz
def hAt (h:aL)(ls:List (List UInt8)):aL:=ls.foldl (fun g l=>(iF g l).1) h
def iJ:aL→List (List UInt8)→List (List UInt8)
 |_,[]=> []
 |g,l::ls=>(iF g l).2::iJ (iF g l).1 ls
def jD (h:aL)(ls:List (List UInt8)):aL×List (List UInt8):=if aP h=true∧ls.length≤40 then(hAt h ls,iJ h ls)else(hZ,[])
theorem aG6 (h:aL)(ls:List (List UInt8))(l:List UInt8):hAt h (ls++ [l])=(iF (hAt h ls) l).1:=by simp[hAt,List.foldl_append]
theorem aC3 (h:aL)(ls:List (List UInt8))(l:List UInt8):iJ h (ls++ [l])=iJ h ls++ [(iF (hAt h ls) l).2]:=by
 induction ls generalizing h with
 |nil=>rfl
 |cons x xs ih=>simp only[aUu,iJ,ih];rfl
theorem oK (h:aL)(ls:List (List UInt8)):(iJ h ls).length=ls.length:=by
 induction ls generalizing h with
 |nil=>rfl
 |cons x xs ih=>simp[iJ,ih]
theorem yA (ls:List (List UInt8)):(cM ls).length=ls.length:=by simp[cM]
theorem aB0 (ls:List (List UInt8))(l:List UInt8):cM (ls++ [l])=cM ls++ [str l]:=by simp[cM]
theorem tT {w:World}{q:OA}{m c2:Nat}{ls:List (List UInt8)}(h:Sl w q m c2 1 (cM ls)){k:Nat}(hk:k<m):
  ∃b off l,q=some ⟨b,off,none⟩∧ls[k]? =some l∧b<w.heap.size∧w.cell? ⟨b,off+k,none⟩=some (str l):=by
 rw[←uS]at h;obtain⟨b,off,x,hp,hx,hb,hc⟩:=Sl.at_ (sz:=1) (f:=fun s=> [str s]) (fun _=>rfl) h hk (by omega);have:=hc 0 (by omega);simp only[Nat.mul_one,Nat.add_zero]at this;exact⟨b,off,x,hp,hx,hb,this⟩
theorem aPu {l:List Value}{k n:Nat}{z:Value}(hl:l.length=k)(hk:k<n):(l++List.replicate (n-k) z)[k]? =some z:=by rw[aTy (by omega),hl,aV0];simp[aV1];omega
theorem aMj {l:List Value}{k n:Nat}{b z:Value}(hl:l.length=k)(hk:k<n):(l++List.replicate (n-k) z).set k b=(l++ [b])++List.replicate (n-(k+1)) z:=by
 obtain⟨j,rfl⟩: ∃j,n=k+1+j:=⟨n-(k+1),by omega⟩
 rw[show k+1+j-k=j+1 by omega,show k+1+j-(k+1)=j by omega,List.set_append,if_neg (by omega),hl,aV0,aV9];simp
def eR (B:Nat)(r:aL×List (List UInt8))(w':World)(e:Ending)(w'':World):Prop:=
 ∃pa ca qa da ps cs,e= .returned (.tuple #[bG r.1 pa r.1.cells.length ca qa r.1.vs.length da,.slice ps r.2.length cs])∧w''.ownsRow B TI 1 (.slice pa r.1.cells.length ca) r.1.cells.length (ivs r.1.cells)∧w''.ownsRow B TV 4 (.slice qa r.1.vs.length da) r.1.vs.length (r.1.vs.flatMap aE)∧w''.ownsRow B kC 1 (.slice ps r.2.length cs) r.2.length (cM r.2)∧Ext w' w''
theorem aBa {B:Nat}{h g:aL}{ls:List (List UInt8)}{lm:Nat}{pa qa ps:OA}{ca da cs:Nat}{w' a:World}(hg:g=hAt h ls)(hl:ls.length=lm)(o1:a.ownsRow B TI 1 (.slice pa g.cells ca) g.cells.length (ivs g.cells))(o2:a.ownsRow B TV 4 (.slice qa g.vs da) g.vs.length (g.vs.flatMap aE))(o3:a.ownsRow B kC 1 (.slice ps lm cs) lm (cM (iJ h ls)))(hx:Ext w' a):
  eR B (hAt h ls,iJ h ls) w' (.returned (.tuple #[bG g pa g.cells.length ca qa g.vs.length da,.slice ps lm cs])) a:=by
 subst hg;have hd:(iJ h ls).length=lm:=by rw[oK,hl]
 subst hd;exact⟨pa,ca,qa,da,ps,cs,rfl,o1,o2,o3,hx⟩
theorem aQl (h:aL)(p:OA)(a:Nat)(q:OA)(c2:Nat)(lq:OA)(lm lc:Nat)(ls:List (List UInt8))(w:World)
  (d:xC 9 #[.agg (aVs h p a q c2)] w fun w' e w''=>e= .returned (Value.bool false)∧Ext w' w''):
  U 6 #[.agg #[h.aA,h.aB,.slice p h.cells a,h.free,h.step,h.aD,h.aF,h.aC,h.aG,.slice q h.vs c2],.slice lq lm lc] w (eR w (hZ,[]) w):=by
 go_enter func6,ntmps6;go_wp2_with fail;refine Z (d _ ((((Mem.start w).c0 aK (aVs h p a q c2)).c1 aK zT).made0 kC 1 (w.heap.size+1+1) (by simp)).ext) fun w1 g=>?_
 have M1:=(((((Mem.start w).c0 aK (aVs h p a q c2)).c1 aK zT).made0 kC 1 (w.heap.size+1+1) (by simp)).adv g)
 have b:=M1.hi 1;have c:=M1.hi 2;clear g d;have f_:=(M1.bk 1).tenf;go_wp2;clear f_ b c;have M2:=(M1.put10 (i:=1) rfl (I 0) (I 0) (.slice none 0 0) (I 0) (I 0) (I 0) (I 0) (I 0) (I 0) (.slice none 0 0))
 generalize f:World.setCell _ _ _=wz;rw[f]at M2;clear f M1;have y_:=(M2.bk 1).ten;exact bodyPost_ret (v:= .tuple #[.agg #[(),(),((),()),(),(),(),(),(),(),((),())],.slice (some ⟨w.heap.size+1+1,0,none⟩) 0 0]) (by simp[results,results6,go_sem, *]) rfl (show eR w (hZ,[]) w _ _ from⟨none,0,none,0,_,0,rfl,aTe _ _ _ _,aTe _ _ _ _,(M2.ow 0),M2.ext⟩)
theorem aNz (h:aL)(p:OA)(a:Nat)(q:OA)(c2:Nat)(lq:OA)(lm lc:Nat)(ls:List (List UInt8))(w:World)(j:40<lm)
  (d:xC 9 #[.agg (aVs h p a q c2)] w fun w' e w''=>e= .returned (Value.bool true)∧Ext w' w''):
  U 6 #[.agg #[h.aA,h.aB,.slice p h.cells a,h.free,h.step,h.aD,h.aF,h.aC,h.aG,.slice q h.vs c2],.slice lq lm lc] w (eR w (hZ,[]) w):=by
 have t0:decide ((40:Int)<(lm:Int))=true:=by simp;omega
 have t1:decide (40<lm)=true:=by simp;omega
 go_enter func6,ntmps6;go_wp2_with fail;refine Z (d _ ((((Mem.start w).c0 aK (aVs h p a q c2)).c1 aK zT).made0 kC 1 (w.heap.size+1+1) (by simp)).ext) fun w1 g=>?_
 have M1:=(((((Mem.start w).c0 aK (aVs h p a q c2)).c1 aK zT).made0 kC 1 (w.heap.size+1+1) (by simp)).adv g)
 have b:=M1.hi 1;have c:=M1.hi 2;clear g d;have f_:=(M1.bk 1).tenf;go_wp2;clear f_ b c;have M2:=(M1.put10 (i:=1) rfl (I 0) (I 0) (.slice none 0 0) (I 0) (I 0) (I 0) (I 0) (I 0) (I 0) (.slice none 0 0))
 generalize f:World.setCell _ _ _=wz;rw[f]at M2;clear f M1;have y_:=(M2.bk 1).ten;exact bodyPost_ret (v:= .tuple #[.agg #[(),(),((),()),(),(),(),(),(),(),((),())],.slice (some ⟨w.heap.size+1+1,0,none⟩) 0 0]) (by simp[results,results6,go_sem, *]) rfl (show eR w (hZ,[]) w _ _ from⟨none,0,none,0,_,0,rfl,aTe _ _ _ _,aTe _ _ _ _,(M2.ow 0),M2.ext⟩)
theorem aSn (h:aL)(p:OA)(f:Nat)(q:OA)(c2:Nat)(lq:OA)(lm lc:Nat)(ls:List (List UInt8))(w:World)(hb:lm≤40)(bi:Hid (∀li∈ls,li.length≤1048576))(a1:Hid (ls.length=lm))(HS:Hid (Sl w lq lm lc 1 (cM ls)))
  (a9:xC 9 #[.agg (aVs h p f q c2)] w fun w' e w''=>e= .returned (Value.bool true)∧Ext w' w'')
  (HL:xC 21 #[.agg (aVs h p f q c2)] w fun w' e w''=> ∃p' cap' q' c2',e= .returned (.agg #[h.aA,h.aB,.slice p' h.cells cap',h.free,h.step,h.aD,h.aF,h.aC,h.aG,.slice q' h.vs c2'])∧w''.ownsRow w' TI 1 (.slice p' h.cells cap') h.cells.length (ivs h.cells)∧w''.ownsRow w' TV 4 (.slice q' h.vs c2') h.vs.length (h.vs.flatMap aE)∧Ext w' w'')
  (bj:Hid (∀g li p c q d w',li.length≤1048576→Ext w w'→IsHouse w' g p g.cells.length c q g.vs.length d→U 22 #[.agg (aVs g p c q d),str li] w' (eM (iF g li).1 (iF g li).2 w'))):
  U 6 #[.agg #[h.aA,h.aB,.slice p h.cells f,h.free,h.step,h.aD,h.aF,h.aC,h.aG,.slice q h.vs c2],.slice lq lm lc] w (eR w (hAt h ls,iJ h ls) w):=by
 have t0:decide ((40:Int)<(lm:Int))=false:=by simp;omega
 have t1:decide (40<lm)=false:=by simp;omega
 go_enter func6,ntmps6;go_wp2_with fail;refine Z (a9 _ ((((Mem.start w).c0 aK (aVs h p f q c2)).c1 aK zT).made0 kC 1 (w.heap.size+1+1) (by simp)).ext) fun w1 bh=>?_
 have M1:=(((((Mem.start w).c0 aK (aVs h p f q c2)).c1 aK zT).made0 kC 1 (w.heap.size+1+1) (by simp)).adv bh)
 have a4:=M1.hi 1;have a5:=M1.hi 2;clear bh a9;have bl:=(M1.bk 2).ten;go_wp2_with fail;clear bl;refine(HL _ M1.ext).mono ?_;rintro e w2 ⟨p1,ah,q1,ai,rfl,ho,hq,hx⟩;have M2:=(M1.own2 hx ho hq (aT5 _) (by decide))
 clear M1 a4 a5 hx ho hq HL;have a6:=M2.hi 3;have a7:=M2.hi 4;go_upto_region 5 with fail;obtain⟨gV,a0⟩: ∃gV,gV=w2.heap.size:=⟨_,rfl⟩
 rw[←a0];have M3:=(M2.blkNew aK (aVs h p1 ah q1 ai) gV a0.symm)
 generalize World.alloc _ _=w3 at M3⊢;clear M2 a6 a7 a0;have br:=M3.hi 0;have bs:=M3.hi 4;have bt:=M3.hi 5;go_wp2;go_loopw [6,8] (fun dn i wr=> ∃(k:Nat) (g:aL) (p3:OA) (c3:Nat) (q3:OA) (d3:Nat) (ps:OA) (cs:Nat),k≤lm∧i=I k∧dn= .slice ps k cs∧g=hAt h (ls.take k)∧Mem w wr [aJ w kC 1 (ps) (k) (cs) (cM (iJ h (ls.take k))),aVq w p3 g.cells c3,aVr w q3 g.vs d3,aI w (gV) aK (aVs g p3 c3 q3 d3),aI w (w.heap.size+1) aK #[(),(),((),()),(),(),(),(),(),(),((),())],aI w w aK (aVs h p f q c2)]) (fun _ i _=>lm-(intOf i).toNat)
 case atStart=>exact⟨0,h,p1,ah,q1,ai,_,_,aTd _,rfl,rfl,rfl,(show Mem w w3 [aJ w kC 1 (some ⟨w.heap.size+1+1,0,none⟩) (0) (0) ([]),aVq w p1 h.cells ah,aVr w q1 h.vs ai,aI w (gV) aK (aVs h p1 ah q1 ai),aI w (w.heap.size+1) aK #[(),(),((),()),(),(),(),(),(),(),((),())],aI w w aK (aVs h p f q c2)]from M3.pick [3,1,2,0,4,5] (by decide) rfl)⟩
 case round=>
  clear M3;obtain⟨k,g,p3,c3,q3,d3,ps,cs,hk,rfl,rfl,hg,hM⟩:=hrel;have HM:=hM;have HG:=xQ hg;clear hM hg;by_cases hlt:k<lm
  ·obtain⟨b,a8,li,bo,hx,bb,e0⟩:=tT (HS.out.ext HM.ext) hlt;subst bo;have HX:=xQ hx;clear hx;have i1:=aVt k;have i2:=aVu k lm;obtain⟨r,an,hr⟩: ∃r an,(r,an)=iF g li:=⟨_,_,rfl⟩
   have HR:=xQ hr;clear hr;have be:Hid (hAt h (ls.take (k+1))=r∧iJ h (ls.take (k+1))=iJ h (ls.take k)++ [an]):=by show _∧_;rw[bA HX.out,aG6,aC3,←HG.out,←HR.out];exact⟨rfl,rfl⟩
   have HD:Hid (∀B p c q d w',B≤w'.heap.size→Ext wr w'→IsHouse w' g p g.cells.length c q g.vs.length d→U 22 #[.agg (aVs g p c q d),str li] w' fun e w''=> ∃pa ca qa da,e= .returned (.tuple #[.agg #[r.aA,r.aB,.slice pa r.cells ca,r.free,r.step,r.aD,r.aF,r.aC,r.aG,.slice qa r.vs da],str an])∧w''.ownsRow B TI 1 (.slice pa r.cells ca) r.cells.length (ivs r.cells)∧w''.ownsRow B TV 4 (.slice qa r.vs da) r.vs.length (r.vs.flatMap aE)∧Ext w' w''):=fun B p c q d w' hB hx hi=>by have:=bj g li p c q d w' (bi li (aT7 HX.out)) (HM.ext.trans hx) hi;unfold eM at this;rw[←HR.out]at this;refine this.mono ?_;rintro e w'' ⟨pa,ca,qa,da,rfl,o1,o2,bp⟩;exact⟨pa,ca,qa,da,rfl,cH o1 hB,cH o2 hB,bp⟩
   have IX:=xQ (show IsHouse wr g p3 g.cells.length c3 q3 g.vs.length d3 from⟨(HM.sq 1),(HM.sq 2)⟩);have y:gV<wr:=(HM.hi 3)
   have aa:w.heap.size+1<wr.heap.size:=(HM.hi 4)
   have ab:(w:Nat)<wr:=(HM.hi 5)
   go_upto_region 8 with fail
   refine qF (gl [gEq (.agg #[(g.aA:Int),(g.aB:Int),.slice p3 g.cells c3,(g.free:Int),(g.step:Int),(g.aD:Int),(g.aF:Int),(g.aC:Int),(g.aG:Int),.slice q3 g.vs d3]),gEq (.slice (some ⟨b,a8,none⟩) lm lc),gEq (k:Int),gEq (.pointer (some ⟨b,a8+k,none⟩)),gEq (str li),(fun v w'=> ∃p c q d,v= .tuple #[.agg #[r.aA,r.aB,.slice p r.cells c,r.free,r.step,r.aD,r.aF,r.aC,r.aG,.slice q r.vs d],str an]∧w'.ownsRow wr TI 1 (.slice p r.cells c) r.cells.length (ivs r.cells)∧w'.ownsRow wr TV 4 (.slice q r.vs d) r.vs.length (r.vs.flatMap aE)),(fun v w'=> ∃p c q d,v= .tuple #[.agg #[r.aA,r.aB,.slice p r.cells c,r.free,r.step,r.aD,r.aF,r.aC,r.aG,.slice q r.vs d],str an]∧w'.ownsRow wr TI 1 (.slice p r.cells c) r.cells.length (ivs r.cells)∧w'.ownsRow wr TV 4 (.slice q r.vs d) r.vs.length (r.vs.flatMap aE)),(fun v w'=> ∃p c q d,v= .agg #[r.aA,r.aB,.slice p r.cells c,r.free,r.step,r.aD,r.aF,r.aC,r.aG,.slice q r.vs d]∧w'.ownsRow wr TI 1 (.slice p r.cells c) r.cells.length (ivs r.cells)∧w'.ownsRow wr TV 4 (.slice q r.vs d) r.vs.length (r.vs.flatMap aE)),gEq (str an),aJ4 wr aK #[(),(),((),()),(),(),(),(),(),(),((),())]]) 10 8 (by kernel_rfl) rfl (by kernel_rfl) (by kernel_rfl) (by kernel_rfl) (by decide) (kK (aX (bB _) (aX (bB _) (aX (bB _) (aX (bB _) (aX (bB _) (aX (fun v w w' ⟨p,c,q,d,e,o1,o2⟩ hx=>⟨p,c,q,d,e,aW o1 hx,aW o2 hx⟩) (aX (fun v w w' ⟨p,c,q,d,e,o1,o2⟩ hx=>⟨p,c,q,d,e,aW o1 hx,aW o2 hx⟩) (aX (fun v w w' ⟨p,c,q,d,e,o1,o2⟩ hx=>⟨p,c,q,d,e,aW o1 hx,aW o2 hx⟩) (aX (bB _) (aX (rR _ _ _) (mU)))))))))))) (k:=12) (by kernel_rfl) (by decide) (by kernel_rfl) (ls:= [(0,some 31),(1,some 32),(2,some 33),(3,some 34),(4,some 35),(5,some 36),(6,some 30),(7,some 37),(8,some 38),(9,some 9)]) (by kernel_rfl) (ir:= [0,1,2,3,4,5,6,7,8,9]) (by kernel_rfl) rfl (fun _ _ _ _ h=>h) (lf:= [(6,some 30)]) (by kernel_rfl) ?flo ?steps (tl:=#[true,true,true,true,true,true,true,true,true,true,false,false]) (by kernel_rfl) ?fin
   case flo=>intro wi hx v6 h6;obtain⟨ax,ag,az,ak,rfl,ad,ae⟩:=h6;exact⟨str an,.inl ⟨by rfl,fun w=>by go_simp⟩,rfl⟩
   case steps=>
    refine sC [] rfl (fun wi hx=> ?_) ?_
    ·intro K hK;have hX:Ext wr wi:=xE;obtain⟨bm,b6,b7,b8,b9,cb,cc,cd,ce,cf⟩:=((HM.bk 3).ext hX).ten;go_simp;exact hK _ _ ⟨.agg #[(g.aA:Int),(g.aB:Int),.slice p3 g.cells c3,(g.free:Int),(g.step:Int),(g.aD:Int),(g.aF:Int),(g.aC:Int),(g.aG:Int),.slice q3 g.vs d3],rfl,rfl,Ext.refl _⟩
    refine sS0 [] (sS0 [] (sS2 [(1,some 32),(2,some 33)] ?_));refine sC [(3,some 34)] rfl (fun wi hx=> ?_) ?_
    ·intro v3 h3 K hK;obtain rfl:=h3;have hX:Ext wr wi:=xE;have bm:wi.cell? ⟨b,a8+k,none⟩=some (str li):=(hX.cells.1 _ _ bb).trans e0;go_simp;exact hK _ _ ⟨str li,rfl,rfl,Ext.refl _⟩
    refine sC [(0,some 31),(4,some 35)] rfl (fun wi hx=> ?_) ?_
    ·intro v0 h0 v4 h4 K hK;subst h0 h4;go_simp;refine(HD wr _ _ _ _ _ hx.sz hx.of_drew (IX.out.ext hx.of_drew)).mono ?_;rintro e w5 ⟨aw,af,ay,aj,rfl,o5,v5,bq⟩;go_simp;exact hK _ _ ⟨_,rfl,⟨aw,af,ay,aj,rfl,o5,v5⟩,bq⟩
    refine sC [(5,some 36)] rfl (fun wi hx=> ?_) ?_
    ·intro v5 h5 K hK;obtain⟨aw,af,ay,aj,rfl,a2,a3⟩:=h5;go_simp;exact hK _ _ ⟨_,rfl,⟨aw,af,ay,aj,rfl,a2,a3⟩,Ext.refl _⟩
    refine sC [(6,some 30)] rfl (fun wi hx=> ?_) ?_
    ·intro v6 h6 K hK;obtain⟨ax,ag,az,ak,rfl,ad,ae⟩:=h6;go_simp;exact hK _ _ ⟨_,rfl,⟨ax,ag,az,ak,rfl,ad,ae⟩,Ext.refl _⟩
    refine sC [(6,some 30)] rfl (fun wi hx=> ?_) ?_
    ·intro v6 h6 K hK;obtain⟨ax,ag,az,ak,rfl,ad,ae⟩:=h6;go_simp;exact hK _ _ ⟨str an,rfl,rfl,Ext.refl _⟩
    refine sC [] rfl (fun wi hx=> ?_) StepsL.nil
    ·intro K hK;go_simp;exact hK _ _ ⟨.pointer (some ⟨wi,0,none⟩),rfl,⟨wi.heap.size,rfl,by have:=hx.sz;simp at this;omega,Blk.new _ _ _⟩,(Ext.refl _).alloc _⟩
   case fin=>
    intro wi hx v0 h0 v1 h1 v2 h2 v3 h3 v4 h4 v5 h5 v6 h6 v7 h7 v8 h8 v9 h9;subst h0 h1 h2 h3 h4;obtain⟨aw,af,ay,aj,rfl,a2,a3⟩:=h5;obtain⟨ax,ag,az,ak,rfl,ad,ae⟩:=h6;obtain⟨s,m,t,n,rfl,bd,bf⟩:=h7;obtain rfl:=h8;obtain⟨g9,rfl,bc,B9⟩:=h9;have bg:=hx.of_drew;obtain⟨v5,rfl⟩: ∃z,z=wi:=⟨_,rfl⟩
    have x:=(Mem.own2blk (HM) bg B9 bc bd bf (by decide) (by decide) (by decide))
    clear hx bg B9 bc a2 a3 ad ae bd bf y aa ab HD IX HM e0 bb;have al:=x.hi 2;have am:=x.hi 6;have ao:=x.hi 7;have ap:=x.hi 8;have b5:=(x.bk 2).tenf;try go_frame
    refine wpAny_ready (rs:= [10]) (by kernel_rfl) (by simp) ?_;refine AllReady.cons rfl (fun K hK=> ?_) AllReady.nil;go_simp;refine hK _ _ ?_;clear hK K b5 al am ao ap;have a:=(x.put10 (i:=2) rfl (I r.aA) (I r.aB) (.slice s r.cells m) (I r.free) (I r.step) (I r.aD) (I r.aF) (I r.aC) (I r.aG) (.slice t r.vs n))
    generalize o:World.setCell _ _ _=cg;rw[o]at a;clear o x;refine wpAny_ready (rs:= [11]) (by kernel_rfl) (by simp) ?_;refine AllReady.cons rfl (fun K hK=> ?_) AllReady.nil;go_simp;refine hK _ _ ?_;clear hK K;refine wpAny_done (by kernel_rfl) ?_ _;try go_frame
    have aq:=a.hi 2;have ar:=a.hi 6;have au:=a.hi 7;have av:=a.hi 8;have x_:=(a.bk 2).ten;obtain⟨v0,bu,v1,bv,v2,bw,v3,bx,v4,bz,v5,b0,v6,b1,v7,b2,v8,b3,v9,b4⟩:=(a.bk 6).tenf;obtain⟨j,l⟩:=a.nq 2 6;go_upto_region 10 with fail;clear x_ v0 bu v1 bv v2 bw v3 bx v4 bz v5 b0 v6 b1 v7 b2 v8 b3 v9 b4 j l;have ba:=(a.put10 (i:=6) rfl (I r.aA) (I r.aB) (.slice s r.cells m) (I r.free) (I r.step) (I r.aD) (I r.aF) (I r.aC) (I r.aG) (.slice t r.vs n))
    generalize o:World.setCell _ _ _=v6;rw[o]at ba;clear o a aq ar au av;go_wp2_with (at_builtin;go_loud (refine cJ aGd rfl _ _ rfl (ba.adv ((Ext.refl _).alloc (.cells #[str an] kC))) 3 rfl rfl [str an] rfl (eD _ _ _ 1 1 _ (by first|rfl|simp) (by first|rfl|simp) (by simp[maxLen])) (fun u hu=>by obtain rfl:=aTp.1 hu;rfl) (by omega) ?_;intro q7 c7 w6 M6));go_roundw
    case rel=>
     have hd:cM (iJ h (ls.take (k+1)))=cM (iJ h (ls.take k))++ [str an]:=by rw[be.out.2,aB0]
     exact⟨k+1,r,s,m,t,n,q7,c7,by omega,by go_num,rfl,be.out.1.symm,by rw[hd];exact(show Mem w w6 [aJ w kC 1 (q7) (k+1) (c7) (cM (iJ h (ls.take k))++ [str an]),aVq w s r.cells m,aVr w t r.vs n,aI w (gV) aK (aVs r s m t n),aI w (w.heap.size+1) aK #[(),(),((),()),(),(),(),(),(),(),((),())],aI w w aK (aVs h p f q c2)]from(show Mem w w6 [aVq w s r.cells m,aVr w t r.vs n,aI w (g9) aK (aVs r s m t n),aJ w kC 1 (q7) (k+1) (c7) (cM (iJ h (ls.take k))++ [str an]),aVq w p3 g.cells c3,aVr w q3 g.vs d3,aI w (gV) aK (aVs r s m t n),aI w (w.heap.size+1) aK #[(),(),((),()),(),(),(),(),(),(),((),())],aI w w aK (aVs h p f q c2)]from M6).pick [3,0,1,6,7,8] (by decide) rfl)⟩
    case measure=>simp[intOf];omega
  obtain rfl:lm=k:=by omega
  have y:gV<wr:=(HM.hi 3)
  have aa:w.heap.size+1<wr.heap.size:=(HM.hi 4)
  have ab:(w:Nat)<wr:=(HM.hi 5)
  obtain⟨v0,v1,v2,v3,v4,v5,v6,v7,v8,v9⟩:=(HM.bk 3).ten;have f_:=(HM.bk 4).tenf;obtain⟨j,l⟩:=HM.nq 3 4;go_wp2;clear v0 v1 v2 v3 v4 v5 v6 v7 v8 v9 f_ j l y aa ab;have M6:=xQ (HM.put10 (i:=4) rfl (I g.aA) (I g.aB) (.slice p3 g.cells c3) (I g.free) (I g.step) (I g.aD) (I g.aF) (I g.aC) (I g.aG) (.slice q3 g.vs d3));generalize o:World.setCell _ _ _=wz;rw[o]at M6;clear o HM;have y_:=(M6.out.bk 4).ten;exact bodyPost_ret (v:= .tuple #[.agg #[g.aA,g.aB,.slice p3 g.cells c3,g.free,g.step,g.aD,g.aF,g.aC,g.aG,.slice q3 g.vs d3],.slice ps lm cs]) (by simp[results,results6,go_sem, *]) rfl (aBa (by have h1:=HG.out;rw[aTa (by rw[a1.out];exact aT5 _)]at h1;exact h1) a1.out (M6.out.ow 1) (M6.out.ow 2) (by have h1:=(M6.out.ow 0);rw[aTa (by rw[a1.out];exact aT5 _)]at h1;exact h1) M6.out.ext)
theorem aKx (h:aL)(p:OA)(n a:Nat)(q:OA)(m c2:Nat)(lq:OA)(lm lc:Nat)(ls:List (List UInt8))(w:World)(hi:IsHouse w h p n a q m c2)(hS:Sl w lq lm lc 1 (cM ls))(e: ∀li∈ls,li.length≤1048576):
  U 6 #[bG h p n a q m c2,.slice lq lm lc] w (eR w (jD h ls) w):=by
 have b:=hi.clen;have i:=hi.vlen;have f:ls.length=lm:=by have:=hS.len;rw[yA]at this;omega
 subst b i;have HV:=xQ fun(w':World) (hx:Ext w w')=>iA h p _ a q _ c2 w' (hi.ext hx)
 unfold jD;by_cases hok:aP h=true
 ·rw[hok]at HV;have hs:=fA hok;by_cases hb:ls.length≤40
  ·rw[if_pos ⟨hok,hb⟩];have HL:=xQ fun(w':World) (hx:Ext w w')=>mQ h p _ a q _ c2 w' (by omega) (by omega) (hi.ext hx)
   unfold RetHouse at HL;exact aSn h p a q c2 lq lm lc ls w (by omega) e f hS HV HL (fun g li p c q d w' hl hx hi'=>aNh g p _ c q _ d li w' hi' hl)
  rw[if_neg (fun hh=>hb hh.2)];exact aNz h p a q c2 lq lm lc ls w (by omega) HV
 rw[if_neg (fun hh=>hok hh.1)];rw[show aP h=false by simpa using hok]at HV;exact aQl h p a q c2 lq lm lc ls w HV
theorem aR5 (h:aL)(p:OA)(a:Nat)(q:OA)(c2:Nat)(lq:OA)(lm lc:Nat)(ls:List (List UInt8))(w:World)
  (d:xC 19 #[.agg (aVs h p a q c2)] w fun w' e w''=>e= .returned (Value.bool false)∧Ext w' w''):
  U 5 #[.agg #[h.aA,h.aB,.slice p h.cells a,h.free,h.step,h.aD,h.aF,h.aC,h.aG,.slice q h.vs c2],.slice lq lm lc] w (eR w (hZ,[]) w):=by
 go_enter func5,ntmps5;go_wp2_with fail;refine Z (d _ (((Mem.start w).c0 aK (aVs h p a q c2)).c1 aK zT).ext) fun w1 g=>?_
 have M1:=((((Mem.start w).c0 aK (aVs h p a q c2)).c1 aK zT).adv g)
 have b:=M1.hi 0;have c:=M1.hi 1;clear g d;have f_:=(M1.bk 0).tenf;go_wp2;clear f_ b c;have M2:=(M1.put10 (i:=0) rfl (I 0) (I 0) (.slice none 0 0) (I 0) (I 0) (I 0) (I 0) (I 0) (I 0) (.slice none 0 0))
 generalize f:World.setCell _ _ _=wz;rw[f]at M2;clear f M1;have y_:=(M2.bk 0).ten;exact bodyPost_ret (v:= .tuple #[.agg #[(),(),((),()),(),(),(),(),(),(),((),())],((),())]) (by simp[results,results5,go_sem, *]) rfl (show eR w (hZ,[]) w _ _ from⟨none,0,none,0,none,0,rfl,aTe _ _ _ _,aTe _ _ _ _,aTe _ _ _ _,M2.ext⟩)
theorem aP8 (h:aL)(p:OA)(a:Nat)(q:OA)(c2:Nat)(lq:OA)(lm lc:Nat)(ls:List (List UInt8))(w:World)(j:40<lm)
  (d:xC 19 #[.agg (aVs h p a q c2)] w fun w' e w''=>e= .returned (Value.bool true)∧Ext w' w''):
  U 5 #[.agg #[h.aA,h.aB,.slice p h.cells a,h.free,h.step,h.aD,h.aF,h.aC,h.aG,.slice q h.vs c2],.slice lq lm lc] w (eR w (hZ,[]) w):=by
 have t0:decide ((40:Int)<(lm:Int))=true:=by simp;omega
 have t1:decide (40<lm)=true:=by simp;omega
 go_enter func5,ntmps5;go_wp2_with fail;refine Z (d _ (((Mem.start w).c0 aK (aVs h p a q c2)).c1 aK zT).ext) fun w1 g=>?_
 have M1:=((((Mem.start w).c0 aK (aVs h p a q c2)).c1 aK zT).adv g)
 have b:=M1.hi 0;have c:=M1.hi 1;clear g d;have f_:=(M1.bk 0).tenf;go_wp2;clear f_ b c;have M2:=(M1.put10 (i:=0) rfl (I 0) (I 0) (.slice none 0 0) (I 0) (I 0) (I 0) (I 0) (I 0) (I 0) (.slice none 0 0))
 generalize f:World.setCell _ _ _=wz;rw[f]at M2;clear f M1;have y_:=(M2.bk 0).ten;exact bodyPost_ret (v:= .tuple #[.agg #[(),(),((),()),(),(),(),(),(),(),((),())],((),())]) (by simp[results,results5,go_sem, *]) rfl (show eR w (hZ,[]) w _ _ from⟨none,0,none,0,none,0,rfl,aTe _ _ _ _,aTe _ _ _ _,aTe _ _ _ _,M2.ext⟩)
theorem aSt (h:aL)(p:OA)(a:Nat)(q:OA)(c2:Nat)(lq:OA)(lm lc:Nat)(ls:List (List UInt8))(w:World)(hb:lm≤40)(ax:Hid (∀li∈ls,li.length≤1048576))(u:Hid (ls.length=lm))(HS:Hid (Sl w lq lm lc 1 (cM ls)))
  (am:xC 19 #[.agg (aVs h p a q c2)] w fun w' e w''=>e= .returned (Value.bool true)∧Ext w' w'')
  (HL:xC 20 #[.agg (aVs h p a q c2)] w fun w' e w''=> ∃p' cap' q' c2',e= .returned (.agg #[h.aA,h.aB,.slice p' h.cells cap',h.free,h.step,h.aD,h.aF,h.aC,h.aG,.slice q' h.vs c2'])∧w''.ownsRow w' TI 1 (.slice p' h.cells cap') h.cells.length (ivs h.cells)∧w''.ownsRow w' TV 4 (.slice q' h.vs c2') h.vs.length (h.vs.flatMap aE)∧Ext w' w'')
  (ay:Hid (∀g li p c q d w',li.length≤1048576→Ext w w'→IsHouse w' g p g.cells.length c q g.vs.length d→U 12 #[.agg (aVs g p c q d),str li] w' (eM (iF g li).1 (iF g li).2 w'))):
  U 5 #[.agg #[h.aA,h.aB,.slice p h.cells a,h.free,h.step,h.aD,h.aF,h.aC,h.aG,.slice q h.vs c2],.slice lq lm lc] w (eR w (hAt h ls,iJ h ls) w):=by
 obtain⟨AB,t⟩: ∃AB:Array Value,AB=madeCells #[.string ⟨#[]⟩] lm:=⟨_,rfl⟩
 have a1: ∀w:World,(Instr.makeSlice 31 (I lm) (I lm)).run prog w= .ok (.slice (some ⟨w,0,none⟩) lm lm) (w.alloc (.cells AB kC)):=fun w=>by rw[t];exact run_make_row' _ _ (Value.string ⟨#[]⟩) 16 underlying31 (by kernel_rfl) rfl .i64 .i64 lm (by omega) (by omega) w
 have ao:Hid (AB.toList=cM []++List.replicate (lm-0) (Value.string ⟨#[]⟩)):=by show _=_;rw[t,(jG _ lm).1];simp[cM]
 have ap:Hid (AB.size=lm):=by show _=_;rw[t];exact(jG _ lm).2
 clear t;have t0:decide ((40:Int)<(lm:Int))=false:=by simp;omega
 have t1:decide (40<lm)=false:=by simp;omega
 go_enter func5,ntmps5;go_wp2_with fail;refine Z (am _ (((Mem.start w).c0 aK (aVs h p a q c2)).c1 aK zT).ext) fun w1 av=>?_
 have M1:=((((Mem.start w).c0 aK (aVs h p a q c2)).c1 aK zT).adv av)
 have ab:=M1.hi 0;have ad:=M1.hi 1;clear av am;have az:=(M1.bk 1).ten;go_wp2_with fail;clear az;refine(HL _ M1.ext).mono ?_;rintro e w2 ⟨p1,n,q1,o,rfl,ho,hq,hx⟩;have M2:=(M1.own2 hx ho hq (aT5 _) (by decide))
 clear M1 ab ad hx ho hq HL;have ae:=M2.hi 2;have af:=M2.hi 3;go_upto_region 4 with fail;obtain⟨gV,aa⟩: ∃gV,gV=w2.heap.size:=⟨_,rfl⟩
 rw[←aa];have M3:=(M2.blkNew aK (aVs h p1 n q1 o) gV aa.symm)
 generalize World.alloc _ _=w3 at M3⊢;clear M2 ae af aa;have ag:=M3.hi 0;have ah:=M3.hi 3;have ai:=M3.hi 4;go_upto_region 5 with fail;obtain⟨gD,z⟩: ∃gD,gD=w3.heap.size:=⟨_,rfl⟩
 rw[←z]
 have MD:=(show Mem w (w3.alloc (.cells AB kC)) [aJ w kC 1 (some ⟨gD,0,none⟩) (lm) (lm) (cM ([])++List.replicate (lm-0) (Value.string ⟨#[]⟩)),aI w (gV) aK (aVs h p1 n q1 o),aVq w p1 h.cells n,aVr w q1 h.vs o,aI w (w.heap.size+1) aK #[(),(),((),()),(),(),(),(),(),(),((),())],aI w w aK (aVs h p a q c2)]from by
  have h1:=M3.lit kC 1 lm gD AB z.symm (by rw[ap.out];omega) (by simp[maxLen];omega);rw[ao.out]at h1
  exact h1)
 generalize au:World.alloc _ _=w4;rw[au]at MD;clear au ao ap a1 z M3 ag ah ai;go_wp2;go_loopw [26] (fun i wr=> ∃(k:Nat) (g:aL) (p3:OA) (c3:Nat) (q3:OA) (d3:Nat),k≤lm∧i=I k∧g=hAt h (ls.take k)∧Mem w wr [aJ w kC 1 (some ⟨gD,0,none⟩) (lm) (lm) (cM (iJ h (ls.take k))++List.replicate (lm-k) (Value.string ⟨#[]⟩)),aVq w p3 g.cells c3,aVr w q3 g.vs d3,aI w (gV) aK (aVs g p3 c3 q3 d3),aI w (w.heap.size+1) aK #[(),(),((),()),(),(),(),(),(),(),((),())],aI w w aK (aVs h p a q c2)]) (fun i _=>lm-(intOf i).toNat)
 case atStart=>exact⟨0,h,p1,n,q1,o,aTd _,rfl,rfl,(show Mem w w4 [aJ w kC 1 (some ⟨gD,0,none⟩) (lm) (lm) (cM ([])++List.replicate (lm-0) (Value.string ⟨#[]⟩)),aVq w p1 h.cells n,aVr w q1 h.vs o,aI w (gV) aK (aVs h p1 n q1 o),aI w (w.heap.size+1) aK #[(),(),((),()),(),(),(),(),(),(),((),())],aI w w aK (aVs h p a q c2)]from MD.pick [0,2,3,1,4,5] (by decide) rfl)⟩
 case round=>
  clear MD;obtain⟨k,g,p3,c3,q3,d3,hk,rfl,hg,hM⟩:=hrel;have HM:=hM;have HG:=xQ hg;clear hM hg;by_cases hlt:k<lm
  ·obtain⟨b,bg,li,a0,hx,bf,e0⟩:=tT (HS.out.ext HM.ext) hlt;subst a0;have HX:=xQ hx;clear hx;have i1:=aVt k;have i2:=aVu k lm;obtain⟨r,an,hr⟩: ∃r an,(r,an)=iF g li:=⟨_,_,rfl⟩
   have HR:=xQ hr;clear hr;have ar:Hid (hAt h (ls.take (k+1))=r∧iJ h (ls.take (k+1))=iJ h (ls.take k)++ [an]):=by show _∧_;rw[bA HX.out,aG6,aC3,←HG.out,←HR.out];exact⟨rfl,rfl⟩
   have HD:Hid (∀B p c q d w',B≤w'.heap.size→Ext wr w'→IsHouse w' g p g.cells.length c q g.vs.length d→U 12 #[.agg (aVs g p c q d),str li] w' fun e w''=> ∃pa ca qa da,e= .returned (.tuple #[.agg #[r.aA,r.aB,.slice pa r.cells ca,r.free,r.step,r.aD,r.aF,r.aC,r.aG,.slice qa r.vs da],str an])∧w''.ownsRow B TI 1 (.slice pa r.cells ca) r.cells.length (ivs r.cells)∧w''.ownsRow B TV 4 (.slice qa r.vs da) r.vs.length (r.vs.flatMap aE)∧Ext w' w''):=fun B p c q d w' hB hx hi=>by have:=ay g li p c q d w' (ax li (aT7 HX.out)) (HM.ext.trans hx) hi;unfold eM at this;rw[←HR.out]at this;refine this.mono ?_;rintro e w'' ⟨pa,ca,qa,da,rfl,o1,o2,a2⟩;exact⟨pa,ca,qa,da,rfl,cH o1 hB,cH o2 hB,a2⟩
   have IX:=xQ (show IsHouse wr g p3 g.cells.length c3 q3 g.vs.length d3 from⟨(HM.sq 1),(HM.sq 2)⟩);have f:gV<wr:=(HM.hi 3)
   have l:w.heap.size+1<wr.heap.size:=(HM.hi 4)
   have m:(w:Nat)<wr:=(HM.hi 5)
   obtain⟨v0,v1,v2,v3,v4,v5,v6,v7,v8,v9⟩:=(HM.bk 3).ten;go_wp2_with fail;clear v0 v1 v2 v3 v4 v5 v6 v7 v8 v9 e0;refine(HD _ _ _ _ _ _ (aT5 _) (Ext.refl _) IX.out).mono ?_;rintro e w6 ⟨p5,c5,q5,d5,rfl,ho,hq,hx⟩;have M6:=(HM.own2 hx ho hq (aT5 _) (by decide))
   clear HM f l m hx ho hq HD IX;have aj:=M6.hi 5;have ak:=M6.hi 6;have al:=M6.hi 7;obtain⟨v0,a5,v1,a6,v2,a7,v3,a8,v4,a9,v5,ba,v6,bb,v7,bc,v8,bd,v9,be⟩:=(M6.bk 5).tenf;have a3:gD<w6:=(M6.hi 2)
   have aw: ¬(gD=gV):=M6.ne (i:=2) (j:=5) (by omega) rfl rfl rfl rfl;have a4: ¬(gV=gD):=fun h=>aw h.symm
   have fD:w6.frozen? ⟨gD,k,none⟩=false:=(M6.ow 2).frozenAt k;have aq:(cM (iJ h (ls.take k))).length=k:=by rw[yA,oK,aTt,u.out];omega
   have cD:w6.cell? ⟨gD,k,none⟩=some (Value.string ⟨#[]⟩):=by have:=(M6.ow 2).cellAt k (by omega);rw[this];exact aPu aq hlt
   go_wp2;clear v0 a5 v1 a6 v2 a7 v3 a8 v4 a9 v5 ba v6 bb v7 bc v8 bd v9 be a3 aw a4 fD cD;have M9:=((M6.put10 (i:=5) rfl (I r.aA) (I r.aB) (.slice p5 r.cells c5) (I r.free) (I r.step) (I r.aD) (I r.aF) (I r.aC) (I r.aG) (.slice q5 r.vs d5)).ostore (i:=2) rfl k (str an))
   generalize s:World.setCell _ _ _=wz;rw[s]at M9;clear s M6 aj ak al;go_roundw
   case rel=>
    have hd:(cM (iJ h (ls.take k))++List.replicate (lm-k) (Value.string ⟨#[]⟩)).set k (str an)=cM (iJ h (ls.take (k+1)))++List.replicate (lm-(k+1)) (Value.string ⟨#[]⟩):=by rw[ar.out.2,aB0];exact aMj aq hlt
    exact⟨k+1,r,p5,c5,q5,d5,by omega,by go_num,ar.out.1.symm,by rw[←hd];exact(show Mem w wz [aJ w kC 1 (some ⟨gD,0,none⟩) (lm) (lm) ((cM (iJ h (ls.take k))++List.replicate (lm-k) (Value.string ⟨#[]⟩)).set k (str an)),aVq w p5 r.cells c5,aVr w q5 r.vs d5,aI w (gV) aK (aVs r p5 c5 q5 d5),aI w (w.heap.size+1) aK #[(),(),((),()),(),(),(),(),(),(),((),())],aI w w aK (aVs h p a q c2)]from(show Mem w wz [aVq w p5 r.cells c5,aVr w q5 r.vs d5,aJ w kC 1 (some ⟨gD,0,none⟩) (lm) (lm) ((cM (iJ h (ls.take k))++List.replicate (lm-k) (Value.string ⟨#[]⟩)).set k (str an)),aVq w p3 g.cells c3,aVr w q3 g.vs d3,aI w (gV) aK (aVs r p5 c5 q5 d5),aI w (w.heap.size+1) aK #[(),(),((),()),(),(),(),(),(),(),((),())],aI w w aK (aVs h p a q c2)]from M9).pick [2,0,1,5,6,7] (by decide) rfl)⟩
   case measure=>simp[intOf];omega
  obtain rfl:lm=k:=by omega
  have f:gV<wr:=(HM.hi 3)
  have l:w.heap.size+1<wr.heap.size:=(HM.hi 4)
  have m:(w:Nat)<wr:=(HM.hi 5)
  obtain⟨v0,v1,v2,v3,v4,v5,v6,v7,v8,v9⟩:=(HM.bk 3).ten;have f_:=(HM.bk 4).tenf;obtain⟨x,y⟩:=HM.nq 3 4;go_wp2;clear v0 v1 v2 v3 v4 v5 v6 v7 v8 v9 f_ x y f l m;have M6:=(HM.put10 (i:=4) rfl (I g.aA) (I g.aB) (.slice p3 g.cells c3) (I g.free) (I g.step) (I g.aD) (I g.aF) (I g.aC) (I g.aG) (.slice q3 g.vs d3))
  generalize s:World.setCell _ _ _=wz;rw[s]at M6;clear s HM;have y_:=(M6.bk 4).ten;exact bodyPost_ret (v:= .tuple #[.agg #[g.aA,g.aB,.slice p3 g.cells c3,g.free,g.step,g.aD,g.aF,g.aC,g.aG,.slice q3 g.vs d3],.slice (some ⟨gD,0,none⟩) lm lm]) (by simp[results,results5,go_sem, *]) rfl (aBa (by have h1:=HG.out;rw[aTa (by rw[u.out];exact aT5 _)]at h1;exact h1) u.out (M6.ow 1) (M6.ow 2) (by have h1:=(M6.ow 0);rw[aTa (by rw[u.out];exact aT5 _),aV0,List.replicate_zero,aTv]at h1;exact h1) M6.ext)
theorem vL (h:aL)(p:OA)(n a:Nat)(q:OA)(m c2:Nat)(lq:OA)(lm lc:Nat)(ls:List (List UInt8))(w:World)(hi:IsHouse w h p n a q m c2)(hS:Sl w lq lm lc 1 (cM ls))(f: ∀li∈ls,li.length≤1048576)(b:Env w)(hE:BitTab w):
  U 5 #[bG h p n a q m c2,.slice lq lm lc] w (eR w (jD h ls) w):=by
 have e:=hi.clen;have j:=hi.vlen;have i:ls.length=lm:=by have:=hS.len;rw[yA]at this;omega
 subst e j;have HV:=xQ fun(w':World) (hx:Ext w w')=>iW h p _ a q _ c2 w' (hi.ext hx)
 unfold jD;by_cases hok:aP h=true
 ·rw[hok]at HV;have hs:=fA hok;by_cases hb:ls.length≤40
  ·rw[if_pos ⟨hok,hb⟩];have HL:=xQ fun(w':World) (hx:Ext w w')=>lG h p _ a q _ c2 w' (by omega) (by omega) (hi.ext hx)
   unfold RetHouse at HL;exact aSt h p a q c2 lq lm lc ls w (by omega) f i hS HV HL (fun g li p c q d w' hl hx hi'=>aFp g p _ c q _ d li w' hi' hl (b.ext hx) (hE.ext hx))
  rw[if_neg (fun hh=>hb hh.2)];exact aP8 h p a q c2 lq lm lc ls w (by omega) HV
 rw[if_neg (fun hh=>hok hh.1)];rw[show aP h=false by simpa using hok]at HV;exact aR5 h p a q c2 lq lm lc ls w HV
end
theorem aE0 (x:Int):dec x≠ []:=by intro h;have:=nV x.toNat;rw[show Lib.decDigits x.toNat= []from h]at this;simp at this
theorem aG3 {aA aB:Int}{xs:List Int}(h:aN aA aB xs=true):eA aA aB xs≠ []:=by
 obtain⟨_,_,_,_,h4,_⟩:=bN h;unfold eA;rw[if_pos h];obtain⟨n,hn⟩: ∃n,xs.length=n+1:=⟨xs.length-1,by omega⟩
 rw[hn];unfold aV;intro hc;have h5:=(List.append_eq_nil_iff.1 hc).2;unfold eY at h5;split at h5
 ·simp at h5
 exact aE0 _ h5
theorem aAp {h:aL}(a:aP h=true):kY h≠ []:=by unfold kY;rw[if_pos a];unfold sR iG sE;intro hc;have:=(List.append_eq_nil_iff.1 hc).2;simp at this
theorem aQw {h:aL}(c:aP h=true)(l:List UInt8):(iF h l).2≠ []:=by
 obtain⟨q1,_⟩:=(dF h).1 c;unfold iF;rw[if_pos c];cases hd:bQ l with
 |some d=>
  obtain⟨k,a,b⟩:=d;dsimp only;split
  ·exact aE0 _
  simp
 |none=>
  dsimp only;split
  ·simp
  show aA0 h l≠ [];unfold aA0
  repeat' split
  all_goals first|exact aG3 q1|exact aE0 _|exact aAp c|simp
theorem aJp {h:aL}(a:aP h=true)(l:List UInt8):aP (iF h l).1=true:=(aOg a l rfl).1
theorem aJ2 {h:aL}(a:aP h=true)(ls:List (List UInt8)):aP (hAt h ls)=true:=by
 induction ls generalizing h with
 |nil=>exact a
 |cons l ls ih=>exact ih (aJp a l)
theorem aR7 (h:aL)(a b:List (List UInt8)):hAt h (a++b)=hAt (hAt h a) b:=by unfold hAt;rw[List.foldl_append]
theorem aQ4 (h:aL)(a b:List (List UInt8)):iJ h (a++b)=iJ h a++iJ (hAt h a) b:=by
 induction a generalizing h with
 |nil=>rfl
 |cons x xs ih=>simp only[aUu,iJ,ih];rfl
theorem aRk {h:aL}(a:aP h=true)(ls:List (List UInt8)): ∀t∈iJ h ls,t≠ []:=by
 induction ls generalizing h with
 |nil=>intro t ht;cases ht
 |cons x xs ih=>
  intro t ht;rcases aTi.1 ht with rfl|ht
  ·exact aQw a x
  exact ih (aJp a x) t ht
theorem aOh {h:aL}(a:aP h=true):iF h [101,110,100]=(uH h,[111,107]):=by unfold iF;rw[if_pos a,show bQ [101,110,100]=none from rfl];rfl
theorem aPr {y:aL}(a:aP y=true)(hb:y.aG+dW y≤99999):(uH y).vs= []∧dW (uH y)=0:=by
 obtain⟨_,h2,h3,h4,h5,h6⟩:=aRd a hb;have e:uH y=iM y (bE (aQ y) (cC y)):=by unfold uH yM;rw[if_pos a]
 rw[e];refine⟨h4,?_⟩;unfold dW;rw[if_pos h2,h4];rfl
section
open Go.Proofs.Tryz
theorem aCr (p q:OA)(n m c1 c2:Nat)(xs ys:List Int)(w:World)(h1:Sl w p n c1 1 (ivs xs))(h2:Sl w q m c2 1 (ivs ys)):
  U 52 #[.slice p n c1,.slice q m c2] w fun e w'=> ∃b:Bool,e= .returned (.bool b)∧(b=true↔xs=ys)∧Ext w w':=by
 have hn:=h1.bd;have hm:=h2.bd;have l1:=xQ h1.ilen;have l2:=xQ h2.ilen;have H1:=xQ h1;have H2:=xQ h2;clear h1 h2;by_cases hnm:n=m
 ·subst hnm;go_enter func52,ntmps52;go_wp2;go_loopw [5] (fun i wr=> ∃k:Nat,k≤n∧i=I k∧xs.take k=ys.take k∧Ext w wr) (fun i _=>n-(intOf i).toNat)
  case atStart=>exact⟨0,aTd _,rfl,rfl,Ext.refl _⟩
  case round=>
   obtain⟨k,hk,rfl,ht,hE⟩:=hrel;have HT:=xQ ht;clear ht;by_cases hlt:k<n
   ·obtain⟨b,j,x,rfl,hx,hb,d⟩:=(H1.out.ext hE).int_at hlt;obtain⟨b2,g,y,rfl,hy,h,c⟩:=(H2.out.ext hE).int_at hlt;have HX:=xQ hx;have HY:=xQ hy;clear hx hy;have i1:=aVt k;have i2:=aVu k n;by_cases hxy:x=y
    ·have f:Hid (xs.take (k+1)=ys.take (k+1)):=by
      show _=_;rw[bA HX.out,bA HY.out,HT.out,hxy]
     subst hxy;go_wp2;go_quiet (fail);go_wp2;go_roundw
     case rel=>exact⟨k+1,by omega,by go_num,f.out,xE⟩
     case measure=>simp[intOf];omega
    have e1:(x==y)=false:=by simpa using hxy
    have a:Hid (xs≠ys):=by rintro rfl;have:=HX.out.symm.trans HY.out;injection this with this;exact hxy this
    clear hxy;go_wp2;go_quiet (fail);go_wp2;go_ret;exact⟨false,rfl,iff_of_false Bool.false_ne_true a.out,xE⟩
   have a:Hid (xs=ys):=by have:=HT.out;rw[aTa (by rw[l1.out];omega),aTa (by rw[l2.out];omega)]at this;exact this
   go_wp2;go_ret;exact⟨true,rfl,iff_of_true rfl a.out,hE⟩
 have e1:((n:Int)==(m:Int))=false:=by simp;omega
 have a:Hid (xs≠ys):=by rintro rfl;exact hnm (l1.out.symm.trans l2.out)
 go_enter func52,ntmps52;go_wp2;go_ret;exact⟨false,rfl,iff_of_false Bool.false_ne_true a.out,xE⟩
theorem aCs (aA aB c a:Int)(p q:OA)(n m c1 c2:Nat)(xs ys:List Int)(w:World)(h1:Sl w p n c1 1 (ivs xs))(h2:Sl w q m c2 1 (ivs ys)):
  U 23 #[aH aA aB p n c1,aH c a q m c2] w fun e w'=> ∃b:Bool,e= .returned (.bool b)∧(b=true↔aA=c∧aB=a∧xs=ys)∧Ext w w':=by
 have H1:=xQ h1;have H2:=xQ h2;clear h1 h2;by_cases hw:aA=c
 ·subst hw;by_cases hd:aB=a
  ·subst hd;go_enter func23,ntmps23;go_wp2_with fail;refine(aCr p q n m c1 c2 xs ys _ (H1.out.ext xE) (H2.out.ext xE)).mono ?_;rintro e w1 ⟨b,rfl,hb,hx⟩;have HB:=xQ hb;clear hb;go_wp2;go_ret;exact⟨b,rfl,by rw[HB.out];simp,xE⟩
  have e1:(aB==a)=false:=by simpa using hd
  have HN:=xQ hd;clear hd;go_enter func23,ntmps23;go_wp2;go_ret;exact⟨false,rfl,iff_of_false Bool.false_ne_true (fun e=>HN e.2.1),xE⟩
 have e1:(aA==c)=false:=by simpa using hw
 have HN:=xQ hw;clear hw;go_enter func23,ntmps23;go_wp2;go_ret;exact⟨false,rfl,iff_of_false Bool.false_ne_true (fun e=>HN e.1),xE⟩
theorem iB (a b:Int):(a==b)=false∧ ¬a=b∨a=b:=by
 by_cases h:a=b
 ·exact .inr h
 exact .inl ⟨by simpa using h,h⟩
theorem aAf (h g:aL)(p1:OA)(n1 c1:Nat)(q1:OA)(m1 d1:Nat)(p2:OA)(n2 c2:Nat)(q2:OA)(m2 d2:Nat)(w:World)(t:IsHouse w h p1 n1 c1 q1 m1 d1)(u:IsHouse w g p2 n2 c2 q2 m2 d2):
  U 7 #[bG h p1 n1 c1 q1 m1 d1,bG g p2 n2 c2 q2 m2 d2] w fun e w'=> ∃b:Bool,e= .returned (.bool b)∧(b=true↔h=g)∧Ext w w':=by
 have hm:=t.vs.bd;have ad:=u.vs.bd;have v:=xQ t.vlen;have x:=xQ u.vlen;have H1:=xQ t.cells;have H2:=xQ u.cells;have V1:=xQ t.vs;have V2:=xQ u.vs;clear t u;obtain⟨aA,aB,s,q,r,aD,aF,aC,aG,vs⟩:=h;obtain⟨f,d,p,m,n,c,l,a,j,o⟩:=g;dsimp only at v x H1 H2 V1 V2;go_enter func7,ntmps7;go_wp2_with fail;refine(aCs aA aB f d p1 p2 n1 n2 c1 c2 s p _ (H1.out.ext (((Mem.start w).c0 aK #[aA,aB,.slice p1 n1 c1,q,r,aD,aF,aC,aG,.slice q1 m1 d1]).c1 aK #[f,d,.slice p2 n2 c2,m,n,c,l,a,j,.slice q2 m2 d2]).ext) (H2.out.ext (((Mem.start w).c0 aK #[aA,aB,.slice p1 n1 c1,q,r,aD,aF,aC,aG,.slice q1 m1 d1]).c1 aK #[f,d,.slice p2 n2 c2,m,n,c,l,a,j,.slice q2 m2 d2]).ext)).mono ?_;rintro e w1 ⟨b,rfl,hb,hx⟩;have HB:=xQ hb;clear hb;have M1:=((((Mem.start w).c0 aK #[aA,aB,.slice p1 n1 c1,q,r,aD,aF,aC,aG,.slice q1 m1 d1]).c1 aK #[f,d,.slice p2 n2 c2,m,n,c,l,a,j,.slice q2 m2 d2]).adv hx)
 clear hx;obtain⟨a0,a1,a2,a3,a4,a5,a6,a7,a8,a9⟩:=(M1.bk 1).ten;obtain⟨b0,b1,b2,b3,b4,b5,b6,b7,b8,b9⟩:=(M1.bk 0).ten;cases b with
 |false=>
  have HN:Hid (¬(aA=f∧aB=d∧s=p)):=fun e=>absurd (HB.out.2 e) Bool.false_ne_true
  go_wp2;go_ret;exact⟨false,rfl,iff_of_false Bool.false_ne_true (fun e=>HN (by injection e;exact⟨‹_›,‹_›,‹_›⟩)),M1.ext⟩
 |true=>
  obtain⟨rfl,rfl,rfl⟩:=HB.out.1 rfl;clear HB;rcases iB q m with⟨x1,hn⟩|rfl
  ·have HN:=xQ hn;clear hn;go_wp2;go_ret;exact⟨false,rfl,iff_of_false Bool.false_ne_true (fun e=>HN (by injection e)),M1.ext⟩
  rcases iB r n with⟨x1,hn⟩|rfl
  ·have HN:=xQ hn;clear hn;go_wp2;go_ret;exact⟨false,rfl,iff_of_false Bool.false_ne_true (fun e=>HN (by injection e)),M1.ext⟩
  rcases iB aD c with⟨x1,hn⟩|rfl
  ·have HN:=xQ hn;clear hn;go_wp2;go_ret;exact⟨false,rfl,iff_of_false Bool.false_ne_true (fun e=>HN (by injection e)),M1.ext⟩
  rcases iB aF l with⟨x1,hn⟩|rfl
  ·have HN:=xQ hn;clear hn;go_wp2;go_ret;exact⟨false,rfl,iff_of_false Bool.false_ne_true (fun e=>HN (by injection e)),M1.ext⟩
  rcases iB aC a with⟨x1,hn⟩|rfl
  ·have HN:=xQ hn;clear hn;go_wp2;go_ret;exact⟨false,rfl,iff_of_false Bool.false_ne_true (fun e=>HN (by injection e)),M1.ext⟩
  rcases iB aG j with⟨x1,hn⟩|rfl
  ·have HN:=xQ hn;clear hn;go_wp2;go_ret;exact⟨false,rfl,iff_of_false Bool.false_ne_true (fun e=>HN (by injection e)),M1.ext⟩
  by_cases hm:m1=m2
  ·subst hm;go_wp2;go_loopw [5] (fun i wr=> ∃k:Nat,k≤m1∧i=I k∧vs.take k=o.take k∧Ext w1 wr) (fun i _=>m1-(intOf i).toNat)
   case atStart=>exact⟨0,aTd _,rfl,rfl,Ext.refl _⟩
   case round=>
    clear a0 a1 a2 a3 a4 a5 a6 a7 a8 a9 b0 b1 b2 b3 b4 b5 b6 b7 b8 b9;obtain⟨k,hk,rfl,ht,hE⟩:=hrel;have HT:=xQ ht;have M2:=(M1.adv hE)
    clear ht;have a9:=(M2.bk 1).cl 9;have b9:=(M2.bk 0).cl 9;by_cases hlt:k<m1
    ·obtain⟨b,ae,x0,x1,x2,x3,rfl,hx,hb,g0,g1,g2,g3⟩:=eN (V1.out.ext M2.ext) hlt;obtain⟨b',aa,y0,y1,y2,y3,rfl,hy,ab,k0,k1,k2,k3⟩:=eN (V2.out.ext M2.ext) hlt;have HX:=xQ hx;have HY:=xQ hy;clear hx hy;have i1:=aVt k;have i2:=aVu k m1;have HV:Hid (vs=o→(x0,x1,x2,x3)=(y0,y1,y2,y3)):=fun e=>by
      have:=HX.out;rw[e,HY.out]at this;injection this with this;exact this.symm
     rcases iB x0 y0 with⟨z1,hn⟩|rfl
     ·have HN:Hid (¬vs=o):=fun e=>hn (by have:=HV e;simp only[aTu]at this;exact this.1)
      clear hn HV;go_wp2;go_quiet (fail);go_wp2;go_ret;exact⟨false,rfl,iff_of_false Bool.false_ne_true (fun e=>HN (by injection e)),Ext.drewN M2.ext _⟩
     rcases iB x1 y1 with⟨z1,hn⟩|rfl
     ·have HN:Hid (¬vs=o):=fun e=>hn (by have:=HV e;simp only[aTu]at this;exact this.2.1)
      clear hn HV;go_wp2;go_quiet (fail);go_wp2;go_ret;exact⟨false,rfl,iff_of_false Bool.false_ne_true (fun e=>HN (by injection e)),Ext.drewN M2.ext _⟩
     rcases iB x2 y2 with⟨z1,hn⟩|rfl
     ·have HN:Hid (¬vs=o):=fun e=>hn (by have:=HV e;simp only[aTu]at this;exact this.2.2.1)
      clear hn HV;go_wp2;go_quiet (fail);go_wp2;go_ret;exact⟨false,rfl,iff_of_false Bool.false_ne_true (fun e=>HN (by injection e)),Ext.drewN M2.ext _⟩
     rcases iB x3 y3 with⟨z1,hn⟩|rfl
     ·have HN:Hid (¬vs=o):=fun e=>hn (by have:=HV e;simp only[aTu]at this;exact this.2.2.2)
      clear hn HV;go_wp2;go_quiet (fail);go_wp2;go_ret;exact⟨false,rfl,iff_of_false Bool.false_ne_true (fun e=>HN (by injection e)),Ext.drewN M2.ext _⟩
     have z:Hid (vs.take (k+1)=o.take (k+1)):=by show _=_;rw[bA HX.out,bA HY.out,HT.out]
     clear HV;go_wp2;go_quiet (fail);go_wp2;go_roundw
     case rel=>exact⟨k+1,by omega,by go_num,z.out,xE⟩
     case measure=>simp[intOf];omega
    have y:Hid (vs=o):=by have:=HT.out;rw[aTa (by rw[v.out];omega),aTa (by rw[x.out];omega)]at this;exact this
    go_wp2;go_ret;exact⟨true,rfl,iff_of_true rfl (by rw[y.out]),M2.ext⟩
  have e1:((m1:Int)==(m2:Int))=false:=by simp;omega
  have HN:Hid (¬vs=o):=fun e=>hm (by rw[←v.out,←x.out,e])
  go_wp2;go_ret;exact⟨false,rfl,iff_of_false Bool.false_ne_true (fun e=>HN (by injection e)),M1.ext⟩
theorem oU (h:aL)(p1:OA)(n1 c1:Nat)(q1:OA)(m1 d1:Nat)(p2:OA)(n2 c2:Nat)(q2:OA)(m2 d2:Nat)(w:World)(a:IsHouse w h p1 n1 c1 q1 m1 d1)(c:IsHouse w h p2 n2 c2 q2 m2 d2):
  U 7 #[bG h p1 n1 c1 q1 m1 d1,bG h p2 n2 c2 q2 m2 d2] w (O (.bool true) w):=by
 refine(aAf h h p1 n1 c1 q1 m1 d1 p2 n2 c2 q2 m2 d2 w a c).mono ?_;rintro e w' ⟨b,rfl,hb,hx⟩;rw[hb.2 rfl];exact⟨rfl,hx⟩
theorem aI6 (p:OA)(c:Nat)(q:OA)(d:Nat)(w:World)(hi:IsHouse w hZ p 0 c q 0 d):
  U 10 #[bG hZ p 0 c q 0 d] w (O (.bool true) w):=by
 have H:=xQ (fun w' (hx:Ext w w')=>oU hZ p 0 c q 0 d none 0 0 none 0 0 w' (hi.ext hx) ⟨Sl.nil w' 1,Sl.nil w' 4⟩);clear hi;unfold hZ at*;go_enter func10,ntmps10;go_wp2_with fail;refine Z (H _ xE) fun w1 a=>?_
 go_wp2;go_ret;exact⟨rfl,xE⟩
end
end Go.Proofs.YthfmmibomhhmpaaGreatDoor
