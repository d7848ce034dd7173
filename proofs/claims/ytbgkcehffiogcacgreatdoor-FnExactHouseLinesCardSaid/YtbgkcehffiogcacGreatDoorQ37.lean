/-
  Texts of this proof, packed (@packed).
-/
import Derived.Test.YtbgkcehffiogcacGreatDoorQ36
namespace Go.Proofs.YtbgkcehffiogcacGreatDoor
open Go.RowKit Go.Proofs.Tryz
set_option linter.unusedSimpArgs false
set_option linter.unusedVariables false
set_option maxHeartbeats 8000000
set_option maxRecDepth 100000
def hAt (h:aL)(ls:List (List UInt8)):aL:=ls.foldl (fun g l=>(jF g l).1) h
def kM:aL→List (List UInt8)→List (List UInt8)
 |_,[]=> []
 |g,l::ls=>(jF g l).2::kM (jF g l).1 ls
def lY (h:aL)(ls:List (List UInt8)):aL×List (List UInt8):=if aR h=true∧ls.length≤40 then(hAt h ls,kM h ls)else(hZ,[])
theorem yC (h:aL)(ls:List (List UInt8))(l:List UInt8):hAt h (ls++ [l])=(jF (hAt h ls) l).1:=by simp[hAt,List.foldl_append]
theorem aAw (h:aL)(ls:List (List UInt8))(l:List UInt8):kM h (ls++ [l])=kM h ls++ [(jF (hAt h ls) l).2]:=by
 induction ls generalizing h with
 |nil=>rfl
 |cons x xs ih=>simp only[aTd,kM,ih];rfl
theorem yO (h:aL)(ls:List (List UInt8)):(kM h ls).length=ls.length:=by
 induction ls generalizing h with
 |nil=>rfl
 |cons x xs ih=>simp[kM,ih]
theorem lS (ls:List (List UInt8)):(bX ls).length=ls.length:=by simp[bX]
theorem qA (ls:List (List UInt8))(l:List UInt8):bX (ls++ [l])=bX ls++ [str l]:=by simp[bX]
theorem oC {w:World}{q:OA}{m c2:Nat}{ls:List (List UInt8)}(h:Sl w q m c2 1 (bX ls)){k:Nat}(hk:k<m):
  ∃b off l,q=some ⟨b,off,none⟩∧ls[k]? =some l∧b<w.heap.size∧w.cell? ⟨b,off+k,none⟩=some (str l):=by
 rw[←qC]at h;obtain⟨b,off,x,hp,hx,hb,hc⟩:=Sl.at_ (sz:=1) (f:=fun s=> [str s]) (fun _=>rfl) h hk (by omega);have:=hc 0 (by omega);simp only[Nat.mul_one,Nat.add_zero]at this;exact⟨b,off,x,hp,hx,hb,this⟩
theorem aF4 {l:List Value}{k n:Nat}{z:Value}(hl:l.length=k)(hk:k<n):(l++List.replicate (n-k) z)[k]? =some z:=by rw[aS3 (by omega),hl,aT0];simp[aTe];omega
theorem aAp {l:List Value}{k n:Nat}{b z:Value}(hl:l.length=k)(hk:k<n):(l++List.replicate (n-k) z).set k b=(l++ [b])++List.replicate (n-(k+1)) z:=by
 obtain⟨j,rfl⟩: ∃j,n=k+1+j:=⟨n-(k+1),by omega⟩
 rw[show k+1+j-k=j+1 by omega,show k+1+j-(k+1)=j by omega,List.set_append,if_neg (by omega),hl,aT0,aT9];simp
def fR (B:Nat)(r:aL×List (List UInt8))(w':World)(e:Ending)(w'':World):Prop:=
 ∃pa ca qa da ps cs,e= .returned (.tuple #[bM r.1 pa r.1.cells.length ca qa r.1.vs.length da,.slice ps r.2.length cs])∧w''.ownsRow B TI 1 (.slice pa r.1.cells.length ca) r.1.cells.length (ivs r.1.cells)∧w''.ownsRow B TV 4 (.slice qa r.1.vs.length da) r.1.vs.length (r.1.vs.flatMap aE)∧w''.ownsRow B cY 1 (.slice ps r.2.length cs) r.2.length (bX r.2)∧Ext w' w''
theorem aA2 {B:Nat}{h g:aL}{ls:List (List UInt8)}{lm:Nat}{pa qa ps:OA}{ca da cs:Nat}{w' a:World}(hg:g=hAt h ls)(hl:ls.length=lm)(o1:a.ownsRow B TI 1 (.slice pa g.cells ca) g.cells.length (ivs g.cells))(o2:a.ownsRow B TV 4 (.slice qa g.vs da) g.vs.length (g.vs.flatMap aE))(o3:a.ownsRow B cY 1 (.slice ps lm cs) lm (bX (kM h ls)))(hx:Ext w' a):
  fR B (hAt h ls,kM h ls) w' (.returned (.tuple #[bM g pa g.cells.length ca qa g.vs.length da,.slice ps lm cs])) a:=by
 subst hg;have hd:(kM h ls).length=lm:=by rw[yO,hl]
 subst hd;exact⟨pa,ca,qa,da,ps,cs,rfl,o1,o2,o3,hx⟩
theorem aP5 (h:aL)(p:OA)(cap:Nat)(q:OA)(c2:Nat)(lq:OA)(lm lc:Nat)(ls:List (List UInt8))(w:World)
  (c:xC 21 #[.agg #[h.aA,h.aB,.slice p h.cells cap,h.free,h.step,h.aD,h.aF,h.aC,h.aG,.slice q h.vs c2]] w fun w' e w''=>e= .returned (Value.bool false)∧Ext w' w''):
  U 13 #[.agg #[h.aA,h.aB,.slice p h.cells cap,h.free,h.step,h.aD,h.aF,h.aC,h.aG,.slice q h.vs c2],.slice lq lm lc] w (fR w (hZ,[]) w):=by
 go_enter func13,ntmps13;go_wp2_with fail;refine Z (c _ ((((Mem.start w).c0 aK #[h.aA,h.aB,.slice p h.cells cap,h.free,h.step,h.aD,h.aF,h.aC,h.aG,.slice q h.vs c2]).c1 aK zT).made0 cY 1 (w.heap.size+1+1) (by simp)).ext) fun w1 f=>?_
 have M1:=(((((Mem.start w).c0 aK #[h.aA,h.aB,.slice p h.cells cap,h.free,h.step,h.aD,h.aF,h.aC,h.aG,.slice q h.vs c2]).c1 aK zT).made0 cY 1 (w.heap.size+1+1) (by simp)).adv f)
 have a:=M1.hi 1;have b:=M1.hi 2;clear f c;obtain⟨f0,g,f1,j,f2,k,f3,l,f4,m,f5,n,f6,o,f7,r,f8,s,f9,t⟩:=(M1.bk 1).tenf;go_wp2;clear f0 g f1 j f2 k f3 l f4 m f5 n f6 o f7 r f8 s f9 t a b;have M2:=(M1.put10 (i:=1) rfl (I 0) (I 0) (.slice none 0 0) (I 0) (I 0) (I 0) (I 0) (I 0) (I 0) (.slice none 0 0))
 generalize d:World.setCell _ _ _=wz;rw[d]at M2;clear d M1;obtain⟨y0,y1,y2,y3,y4,y5,y6,y7,y8,y9⟩:=(M2.bk 1).ten;exact bodyPost_ret (v:= .tuple #[.agg #[(),(),((),()),(),(),(),(),(),(),((),())],.slice (some ⟨w.heap.size+1+1,0,none⟩) 0 0]) (by simp[results,results13,go_sem, *]) rfl (show fR w (hZ,[]) w _ _ from⟨none,0,none,0,_,0,rfl,aS4 _ _ _ _,aS4 _ _ _ _,(M2.ow 0),M2.ext⟩)
theorem aMk (h:aL)(p:OA)(cap:Nat)(q:OA)(c2:Nat)(lq:OA)(lm lc:Nat)(ls:List (List UInt8))(w:World)(u:40<lm)
  (c:xC 21 #[.agg #[h.aA,h.aB,.slice p h.cells cap,h.free,h.step,h.aD,h.aF,h.aC,h.aG,.slice q h.vs c2]] w fun w' e w''=>e= .returned (Value.bool true)∧Ext w' w''):
  U 13 #[.agg #[h.aA,h.aB,.slice p h.cells cap,h.free,h.step,h.aD,h.aF,h.aC,h.aG,.slice q h.vs c2],.slice lq lm lc] w (fR w (hZ,[]) w):=by
 have t0:decide ((40:Int)<(lm:Int))=true:=by simp;omega
 have t1:decide (40<lm)=true:=by simp;omega
 go_enter func13,ntmps13;go_wp2_with fail;refine Z (c _ ((((Mem.start w).c0 aK #[h.aA,h.aB,.slice p h.cells cap,h.free,h.step,h.aD,h.aF,h.aC,h.aG,.slice q h.vs c2]).c1 aK zT).made0 cY 1 (w.heap.size+1+1) (by simp)).ext) fun w1 f=>?_
 have M1:=(((((Mem.start w).c0 aK #[h.aA,h.aB,.slice p h.cells cap,h.free,h.step,h.aD,h.aF,h.aC,h.aG,.slice q h.vs c2]).c1 aK zT).made0 cY 1 (w.heap.size+1+1) (by simp)).adv f)
 have a:=M1.hi 1;have b:=M1.hi 2;clear f c;obtain⟨f0,g,f1,j,f2,k,f3,l,f4,m,f5,n,f6,o,f7,r,f8,s,f9,t⟩:=(M1.bk 1).tenf;go_wp2;clear f0 g f1 j f2 k f3 l f4 m f5 n f6 o f7 r f8 s f9 t a b;have M2:=(M1.put10 (i:=1) rfl (I 0) (I 0) (.slice none 0 0) (I 0) (I 0) (I 0) (I 0) (I 0) (I 0) (.slice none 0 0))
 generalize d:World.setCell _ _ _=wz;rw[d]at M2;clear d M1;obtain⟨y0,y1,y2,y3,y4,y5,y6,y7,y8,y9⟩:=(M2.bk 1).ten;exact bodyPost_ret (v:= .tuple #[.agg #[(),(),((),()),(),(),(),(),(),(),((),())],.slice (some ⟨w.heap.size+1+1,0,none⟩) 0 0]) (by simp[results,results13,go_sem, *]) rfl (show fR w (hZ,[]) w _ _ from⟨none,0,none,0,_,0,rfl,aS4 _ _ _ _,aS4 _ _ _ _,(M2.ow 0),M2.ext⟩)
theorem aR8 (h:aL)(p:OA)(cap:Nat)(q:OA)(c2:Nat)(lq:OA)(lm lc:Nat)(ls:List (List UInt8))(w:World)(hb:lm≤40)(bt:Hid (∀li∈ls,li.length≤1048576))(a0:Hid (ls.length=lm))(HS:Hid (Sl w lq lm lc 1 (bX ls)))
  (a8:xC 21 #[.agg #[h.aA,h.aB,.slice p h.cells cap,h.free,h.step,h.aD,h.aF,h.aC,h.aG,.slice q h.vs c2]] w fun w' e w''=>e= .returned (Value.bool true)∧Ext w' w'')
  (HL:xC 26 #[.agg #[h.aA,h.aB,.slice p h.cells cap,h.free,h.step,h.aD,h.aF,h.aC,h.aG,.slice q h.vs c2]] w fun w' e w''=> ∃p' cap' q' c2',e= .returned (.agg #[h.aA,h.aB,.slice p' h.cells cap',h.free,h.step,h.aD,h.aF,h.aC,h.aG,.slice q' h.vs c2'])∧w''.ownsRow w' TI 1 (.slice p' h.cells cap') h.cells.length (ivs h.cells)∧w''.ownsRow w' TV 4 (.slice q' h.vs c2') h.vs.length (h.vs.flatMap aE)∧Ext w' w'')
  (bu:Hid (∀g li p c q d w',li.length≤1048576→Ext w w'→IsHouse w' g p g.cells.length c q g.vs.length d→U 6 #[.agg #[g.aA,g.aB,.slice p g.cells c,g.free,g.step,g.aD,g.aF,g.aC,g.aG,.slice q g.vs d],str li] w' (dO (jF g li).1 (jF g li).2 w'))):
  U 13 #[.agg #[h.aA,h.aB,.slice p h.cells cap,h.free,h.step,h.aD,h.aF,h.aC,h.aG,.slice q h.vs c2],.slice lq lm lc] w (fR w (hAt h ls,kM h ls) w):=by
 have t0:decide ((40:Int)<(lm:Int))=false:=by simp;omega
 have t1:decide (40<lm)=false:=by simp;omega
 go_enter func13,ntmps13;go_wp2_with fail;refine Z (a8 _ ((((Mem.start w).c0 aK #[h.aA,h.aB,.slice p h.cells cap,h.free,h.step,h.aD,h.aF,h.aC,h.aG,.slice q h.vs c2]).c1 aK zT).made0 cY 1 (w.heap.size+1+1) (by simp)).ext) fun w1 bg=>?_
 have M1:=(((((Mem.start w).c0 aK #[h.aA,h.aB,.slice p h.cells cap,h.free,h.step,h.aD,h.aF,h.aC,h.aG,.slice q h.vs c2]).c1 aK zT).made0 cY 1 (w.heap.size+1+1) (by simp)).adv bg)
 have a3:=M1.hi 1;have a4:=M1.hi 2;clear bg a8;obtain⟨bv,bw,bx,bz,b0,b1,b2,b3,b4,b5⟩:=(M1.bk 2).ten;go_wp2_with fail;clear bv bw bx bz b0 b1 b2 b3 b4 b5;refine(HL _ M1.ext).mono ?_;rintro e w2 ⟨p1,ag,q1,ah,rfl,ho,hq,hx⟩;have M2:=(M1.own2 hx ho hq (aRp _) (by decide))
 clear M1 a3 a4 hx ho hq HL;have a5:=M2.hi 3;have a6:=M2.hi 4;go_upto_region 5 with fail;obtain⟨gV,az⟩: ∃gV,gV=w2.heap.size:=⟨_,rfl⟩
 rw[←az];have M3:=(M2.blkNew aK #[h.aA,h.aB,.slice p1 h.cells ag,h.free,h.step,h.aD,h.aF,h.aC,h.aG,.slice q1 h.vs ah] gV az.symm)
 generalize World.alloc _ _=w3 at M3⊢;clear M2 a5 a6 az;have cl:=M3.hi 0;have cm:=M3.hi 4;have cn:=M3.hi 5;go_wp2;go_loopw [6,8] (fun dn i wr=> ∃(k:Nat) (g:aL) (p3:OA) (c3:Nat) (q3:OA) (d3:Nat) (ps:OA) (cs:Nat),k≤lm∧i=I k∧dn= .slice ps k cs∧g=hAt h (ls.take k)∧Mem w wr [aI w cY 1 (ps) (k) (cs) (bX (kM h (ls.take k))),aUc w p3 g.cells c3,aUd w q3 g.vs d3,aJ w (gV) aK (aUe g p3 c3 q3 d3),aJ w (w.heap.size+1) aK #[(),(),((),()),(),(),(),(),(),(),((),())],aJ w w aK (aUe h p cap q c2)]) (fun _ i _=>lm-(intOf i).toNat)
 case atStart=>exact⟨0,h,p1,ag,q1,ah,_,_,aRv _,rfl,rfl,rfl,(show Mem w w3 [aI w cY 1 (some ⟨w.heap.size+1+1,0,none⟩) (0) (0) ([]),aUc w p1 h.cells ag,aUd w q1 h.vs ah,aJ w (gV) aK (aUe h p1 ag q1 ah),aJ w (w.heap.size+1) aK #[(),(),((),()),(),(),(),(),(),(),((),())],aJ w w aK (aUe h p cap q c2)]from M3.pick [3,1,2,0,4,5] (by decide) rfl)⟩
 case round=>
  clear M3;obtain⟨k,g,p3,c3,q3,d3,ps,cs,hk,rfl,rfl,hg,hM⟩:=hrel;have HM:=hM;have HG:=xQ hg;clear hM hg;by_cases hlt:k<lm
  ·obtain⟨b,a7,li,ci,hx,ba,e0⟩:=oC (HS.out.ext HM.ext) hlt;subst ci;have HX:=xQ hx;clear hx;have i1:(0:Int)≤(k:Int):=by omega
   have i2:(k:Int)<(lm:Int):=by omega
   obtain⟨r,an,hr⟩: ∃r an,(r,an)=jF g li:=⟨_,_,rfl⟩
   have HR:=xQ hr;clear hr;have bd:Hid (hAt h (ls.take (k+1))=r∧kM h (ls.take (k+1))=kM h (ls.take k)++ [an]):=by show _∧_;rw[aY HX.out,yC,aAw,←HG.out,←HR.out];exact⟨rfl,rfl⟩
   have HD:Hid (∀B p c q d w',B≤w'.heap.size→Ext wr w'→IsHouse w' g p g.cells.length c q g.vs.length d→U 6 #[.agg #[g.aA,g.aB,.slice p g.cells c,g.free,g.step,g.aD,g.aF,g.aC,g.aG,.slice q g.vs d],str li] w' fun e w''=> ∃pa ca qa da,e= .returned (.tuple #[.agg #[r.aA,r.aB,.slice pa r.cells ca,r.free,r.step,r.aD,r.aF,r.aC,r.aG,.slice qa r.vs da],str an])∧w''.ownsRow B TI 1 (.slice pa r.cells ca) r.cells.length (ivs r.cells)∧w''.ownsRow B TV 4 (.slice qa r.vs da) r.vs.length (r.vs.flatMap aE)∧Ext w' w''):=fun B p c q d w' hB hx hi=>by have:=bu g li p c q d w' (bt li (aRs HX.out)) (HM.ext.trans hx) hi;unfold dO at this;rw[←HR.out]at this;refine this.mono ?_;rintro e w'' ⟨pa,ca,qa,da,rfl,o1,o2,cj⟩;exact⟨pa,ca,qa,da,rfl,dW o1 hB,dW o2 hB,cj⟩
   have IX:=xQ (show IsHouse wr g p3 g.cells.length c3 q3 g.vs.length d3 from⟨(HM.sq 1),(HM.sq 2)⟩);have x:gV<wr:=(HM.hi 3)
   have y:w.heap.size+1<wr.heap.size:=(HM.hi 4)
   have aa:(w:Nat)<wr:=(HM.hi 5)
   go_upto_region 8 with fail
   refine aDt (gl [gEq (.agg #[(g.aA:Int),(g.aB:Int),.slice p3 g.cells c3,(g.free:Int),(g.step:Int),(g.aD:Int),(g.aF:Int),(g.aC:Int),(g.aG:Int),.slice q3 g.vs d3]),gEq (.slice (some ⟨b,a7,none⟩) lm lc),gEq (k:Int),gEq (.pointer (some ⟨b,a7+k,none⟩)),gEq (str li),(fun v w'=> ∃p c q d,v= .tuple #[.agg #[r.aA,r.aB,.slice p r.cells c,r.free,r.step,r.aD,r.aF,r.aC,r.aG,.slice q r.vs d],str an]∧w'.ownsRow wr TI 1 (.slice p r.cells c) r.cells.length (ivs r.cells)∧w'.ownsRow wr TV 4 (.slice q r.vs d) r.vs.length (r.vs.flatMap aE)),(fun v w'=> ∃p c q d,v= .tuple #[.agg #[r.aA,r.aB,.slice p r.cells c,r.free,r.step,r.aD,r.aF,r.aC,r.aG,.slice q r.vs d],str an]∧w'.ownsRow wr TI 1 (.slice p r.cells c) r.cells.length (ivs r.cells)∧w'.ownsRow wr TV 4 (.slice q r.vs d) r.vs.length (r.vs.flatMap aE)),(fun v w'=> ∃p c q d,v= .agg #[r.aA,r.aB,.slice p r.cells c,r.free,r.step,r.aD,r.aF,r.aC,r.aG,.slice q r.vs d]∧w'.ownsRow wr TI 1 (.slice p r.cells c) r.cells.length (ivs r.cells)∧w'.ownsRow wr TV 4 (.slice q r.vs d) r.vs.length (r.vs.flatMap aE)),gEq (str an),aQz wr aK #[(),(),((),()),(),(),(),(),(),(),((),())]]) 10 8 (by kernel_rfl) rfl (by kernel_rfl) (by kernel_rfl) (by kernel_rfl) (by decide) (lH (bC (bH _) (bC (bH _) (bC (bH _) (bC (bH _) (bC (bH _) (bC (fun v w w' ⟨p,c,q,d,e,o1,o2⟩ hx=>⟨p,c,q,d,e,aZ o1 hx,aZ o2 hx⟩) (bC (fun v w w' ⟨p,c,q,d,e,o1,o2⟩ hx=>⟨p,c,q,d,e,aZ o1 hx,aZ o2 hx⟩) (bC (fun v w w' ⟨p,c,q,d,e,o1,o2⟩ hx=>⟨p,c,q,d,e,aZ o1 hx,aZ o2 hx⟩) (bC (bH _) (bC (aAj _ _ _) (oG)))))))))))) (k:=12) (by kernel_rfl) (by decide) (by kernel_rfl) (ls:= [(0,some 31),(1,some 32),(2,some 33),(3,some 34),(4,some 35),(5,some 36),(6,some 30),(7,some 37),(8,some 38),(9,some 9)]) (by kernel_rfl) (ir:= [0,1,2,3,4,5,6,7,8,9]) (by kernel_rfl) rfl (fun _ _ _ _ h=>h) (lf:= [(6,some 30)]) (by kernel_rfl) ?flo ?steps (tl:=#[true,true,true,true,true,true,true,true,true,true,false,false]) (by kernel_rfl) ?fin
   case flo=>intro wi hx v6 h6;obtain⟨aw,af,ay,aj,rfl,ab,ad⟩:=h6;exact⟨str an,.inl ⟨by rfl,fun w=>by go_simp⟩,rfl⟩
   case steps=>
    refine sC [] rfl (fun wi hx=> ?_) ?_
    ·intro K hK;have hX:Ext wr wi:=xE;obtain⟨b6,dd,de,df,dg,dh,di,dj,dk,dl⟩:=((HM.bk 3).ext hX).ten;go_simp;exact hK _ _ ⟨.agg #[(g.aA:Int),(g.aB:Int),.slice p3 g.cells c3,(g.free:Int),(g.step:Int),(g.aD:Int),(g.aF:Int),(g.aC:Int),(g.aG:Int),.slice q3 g.vs d3],rfl,rfl,Ext.refl _⟩
    refine sS0 [] (sS0 [] (sS2 [(1,some 32),(2,some 33)] ?_));refine sC [(3,some 34)] rfl (fun wi hx=> ?_) ?_
    ·intro v3 h3 K hK;obtain rfl:=h3;have hX:Ext wr wi:=xE;have b6:wi.cell? ⟨b,a7+k,none⟩=some (str li):=(hX.cells.1 _ _ ba).trans e0;go_simp;exact hK _ _ ⟨str li,rfl,rfl,Ext.refl _⟩
    refine sC [(0,some 31),(4,some 35)] rfl (fun wi hx=> ?_) ?_
    ·intro v0 h0 v4 h4 K hK;subst h0 h4;go_simp;refine(HD wr _ _ _ _ _ hx.sz hx.of_drew (IX.out.ext hx.of_drew)).mono ?_;rintro e w5 ⟨av,ae,ax,ai,rfl,o5,v5,ck⟩;go_simp;exact hK _ _ ⟨_,rfl,⟨av,ae,ax,ai,rfl,o5,v5⟩,ck⟩
    refine sC [(5,some 36)] rfl (fun wi hx=> ?_) ?_
    ·intro v5 h5 K hK;obtain⟨av,ae,ax,ai,rfl,a1,a2⟩:=h5;go_simp;exact hK _ _ ⟨_,rfl,⟨av,ae,ax,ai,rfl,a1,a2⟩,Ext.refl _⟩
    refine sC [(6,some 30)] rfl (fun wi hx=> ?_) ?_
    ·intro v6 h6 K hK;obtain⟨aw,af,ay,aj,rfl,ab,ad⟩:=h6;go_simp;exact hK _ _ ⟨_,rfl,⟨aw,af,ay,aj,rfl,ab,ad⟩,Ext.refl _⟩
    refine sC [(6,some 30)] rfl (fun wi hx=> ?_) ?_
    ·intro v6 h6 K hK;obtain⟨aw,af,ay,aj,rfl,ab,ad⟩:=h6;go_simp;exact hK _ _ ⟨str an,rfl,rfl,Ext.refl _⟩
    refine sC [] rfl (fun wi hx=> ?_) StepsL.nil
    ·intro K hK;go_simp;exact hK _ _ ⟨.pointer (some ⟨wi,0,none⟩),rfl,⟨wi.heap.size,rfl,by have:=hx.sz;simp at this;omega,Blk.new _ _ _⟩,(Ext.refl _).alloc _⟩
   case fin=>
    intro wi hx v0 h0 v1 h1 v2 h2 v3 h3 v4 h4 v5 h5 v6 h6 v7 h7 v8 h8 v9 h9;subst h0 h1 h2 h3 h4;obtain⟨av,ae,ax,ai,rfl,a1,a2⟩:=h5;obtain⟨aw,af,ay,aj,rfl,ab,ad⟩:=h6;obtain⟨o,l,s,m,rfl,bc,be⟩:=h7;obtain rfl:=h8;obtain⟨g9,rfl,bb,B9⟩:=h9;have bf:=hx.of_drew;obtain⟨v5,rfl⟩: ∃z,z=wi:=⟨_,rfl⟩
    have t:=(Mem.own2blk (HM) bf B9 bb bc be (by decide) (by decide) (by decide))
    clear hx bf B9 bb a1 a2 ab ad bc be x y aa HD IX HM e0 ba;have ak:=t.hi 2;have al:=t.hi 6;have am:=t.hi 7;have ao:=t.hi 8;obtain⟨cz,bh,c0,bi,c1,bj,c4,bl,c5,bm,c6,bo,c8,bp,c9,bq,db,br,dc,bs⟩:=(t.bk 2).tenf;try go_frame
    refine wpAny_ready (rs:= [10]) (by kernel_rfl) (by simp) ?_;refine AllReady.cons rfl (fun K hK=> ?_) AllReady.nil;go_simp;refine hK _ _ ?_;clear hK K cz bh c0 bi c1 bj c4 bl c5 bm c6 bo c8 bp c9 bq db br dc bs ak al am ao;have a:=(t.put10 (i:=2) rfl (I r.aA) (I r.aB) (.slice o r.cells l) (I r.free) (I r.step) (I r.aD) (I r.aF) (I r.aC) (I r.aG) (.slice s r.vs m))
    generalize n:World.setCell _ _ _=dm;rw[n]at a;clear n t;refine wpAny_ready (rs:= [11]) (by kernel_rfl) (by simp) ?_;refine AllReady.cons rfl (fun K hK=> ?_) AllReady.nil;go_simp;refine hK _ _ ?_;clear hK K;refine wpAny_done (by kernel_rfl) ?_ _;try go_frame
    have ap:=a.hi 2;have aq:=a.hi 6;have ar:=a.hi 7;have au:=a.hi 8;obtain⟨x0,x1,x2,x3,x4,x5,x6,x7,x8,x9⟩:=(a.bk 2).ten;obtain⟨v0,co,v1,cp,v2,cq,v3,cr,v4,ct,v5,cu,v6,cv,v7,cw,v8,cx,v9,cy⟩:=(a.bk 6).tenf;obtain⟨f,j⟩:=a.nq 2 6;go_upto_region 10 with fail;clear x0 x1 x2 x3 x4 x5 x6 x7 x8 x9 v0 co v1 cp v2 cq v3 cr v4 ct v5 cu v6 cv v7 cw v8 cx v9 cy f j;have a9:=(a.put10 (i:=6) rfl (I r.aA) (I r.aB) (.slice o r.cells l) (I r.free) (I r.step) (I r.aD) (I r.aF) (I r.aC) (I r.aG) (.slice s r.vs m))
    generalize n:World.setCell _ _ _=v6;rw[n]at a9;clear n a ap aq ar au;go_wp2_with (at_builtin;go_loud (refine cG aQ9 rfl _ _ rfl (a9.adv ((Ext.refl _).alloc (.cells #[str an] cY))) 3 rfl rfl [str an] rfl (eJ _ _ _ 1 1 _ (by first|rfl|simp) (by first|rfl|simp) (by simp[maxLen])) (fun u hu=>by obtain rfl:=aSc.1 hu;rfl) (by omega) ?_;intro q7 c7 w6 M6));go_roundw
    case rel=>
     have hd:bX (kM h (ls.take (k+1)))=bX (kM h (ls.take k))++ [str an]:=by rw[bd.out.2,qA]
     exact⟨k+1,r,o,l,s,m,q7,c7,by omega,by go_num,rfl,bd.out.1.symm,by rw[hd];exact(show Mem w w6 [aI w cY 1 (q7) (k+1) (c7) (bX (kM h (ls.take k))++ [str an]),aUc w o r.cells l,aUd w s r.vs m,aJ w (gV) aK (aUe r o l s m),aJ w (w.heap.size+1) aK #[(),(),((),()),(),(),(),(),(),(),((),())],aJ w w aK (aUe h p cap q c2)]from(show Mem w w6 [aUc w o r.cells l,aUd w s r.vs m,aJ w (g9) aK (aUe r o l s m),aI w cY 1 (q7) (k+1) (c7) (bX (kM h (ls.take k))++ [str an]),aUc w p3 g.cells c3,aUd w q3 g.vs d3,aJ w (gV) aK (aUe r o l s m),aJ w (w.heap.size+1) aK #[(),(),((),()),(),(),(),(),(),(),((),())],aJ w w aK (aUe h p cap q c2)]from M6).pick [3,0,1,6,7,8] (by decide) rfl)⟩
    case measure=>simp[intOf];omega
  obtain rfl:lm=k:=by omega
  have x:gV<wr:=(HM.hi 3)
  have y:w.heap.size+1<wr.heap.size:=(HM.hi 4)
  have aa:(w:Nat)<wr:=(HM.hi 5)
  obtain⟨v0,v1,v2,v3,v4,v5,v6,v7,v8,v9⟩:=(HM.bk 3).ten;obtain⟨f0,b7,f1,b8,f2,b9,f3,cb,f4,cc,f5,cd,f6,ce,f7,cf,f8,cg,f9,ch⟩:=(HM.bk 4).tenf;obtain⟨f,j⟩:=HM.nq 3 4;go_wp2;clear v0 v1 v2 v3 v4 v5 v6 v7 v8 v9 f0 b7 f1 b8 f2 b9 f3 cb f4 cc f5 cd f6 ce f7 cf f8 cg f9 ch f j x y aa;have M6:=xQ (HM.put10 (i:=4) rfl (I g.aA) (I g.aB) (.slice p3 g.cells c3) (I g.free) (I g.step) (I g.aD) (I g.aF) (I g.aC) (I g.aG) (.slice q3 g.vs d3));generalize n:World.setCell _ _ _=wz;rw[n]at M6;clear n HM;obtain⟨y0,y1,y2,y3,y4,y5,y6,y7,y8,y9⟩:=(M6.out.bk 4).ten;exact bodyPost_ret (v:= .tuple #[.agg #[g.aA,g.aB,.slice p3 g.cells c3,g.free,g.step,g.aD,g.aF,g.aC,g.aG,.slice q3 g.vs d3],.slice ps lm cs]) (by simp[results,results13,go_sem, *]) rfl (aA2 (by have h1:=HG.out;rw[aRu (by rw[a0.out];exact aRp _)]at h1;exact h1) a0.out (M6.out.ow 1) (M6.out.ow 2) (by have h1:=(M6.out.ow 0);rw[aRu (by rw[a0.out];exact aRp _)]at h1;exact h1) M6.out.ext)
theorem aJi (h:aL)(p:OA)(n cap:Nat)(q:OA)(m c2:Nat)(lq:OA)(lm lc:Nat)(ls:List (List UInt8))(w:World)(hi:IsHouse w h p n cap q m c2)(hS:Sl w lq lm lc 1 (bX ls))(b: ∀li∈ls,li.length≤1048576):
  U 13 #[bM h p n cap q m c2,.slice lq lm lc] w (fR w (lY h ls) w):=by
 have a:=hi.clen;have f:=hi.vlen;have e:ls.length=lm:=by have:=hS.len;rw[lS]at this;omega
 subst a f;have HV:=xQ fun(w':World) (hx:Ext w w')=>iE h p _ cap q _ c2 w' (hi.ext hx)
 unfold lY;by_cases hok:aR h=true
 ·rw[hok]at HV;have hs:=dE hok;by_cases hb:ls.length≤40
  ·rw[if_pos ⟨hok,hb⟩];have HL:=xQ fun(w':World) (hx:Ext w w')=>lZ h p _ cap q _ c2 w' (by omega) (by omega) (hi.ext hx)
   unfold RetHouse at HL;exact aR8 h p cap q c2 lq lm lc ls w (by omega) b e hS HV HL (fun g li p c q d w' hl hx hi'=>aM1 g p _ c q _ d li w' hi' hl)
  rw[if_neg (fun hh=>hb hh.2)];exact aMk h p cap q c2 lq lm lc ls w (by omega) HV
 rw[if_neg (fun hh=>hok hh.1)];rw[show aR h=false by simpa using hok]at HV;exact aP5 h p cap q c2 lq lm lc ls w HV
theorem aPs (h:aL)(p:OA)(cap:Nat)(q:OA)(c2:Nat)(lq:OA)(lm lc:Nat)(ls:List (List UInt8))(w:World)
  (c:xC 31 #[.agg #[h.aA,h.aB,.slice p h.cells cap,h.free,h.step,h.aD,h.aF,h.aC,h.aG,.slice q h.vs c2]] w fun w' e w''=>e= .returned (Value.bool false)∧Ext w' w''):
  U 15 #[.agg #[h.aA,h.aB,.slice p h.cells cap,h.free,h.step,h.aD,h.aF,h.aC,h.aG,.slice q h.vs c2],.slice lq lm lc] w (fR w (hZ,[]) w):=by
 go_enter func15,ntmps15;go_wp2_with fail;refine Z (c _ (((Mem.start w).c0 aK #[h.aA,h.aB,.slice p h.cells cap,h.free,h.step,h.aD,h.aF,h.aC,h.aG,.slice q h.vs c2]).c1 aK zT).ext) fun w1 f=>?_
 have M1:=((((Mem.start w).c0 aK #[h.aA,h.aB,.slice p h.cells cap,h.free,h.step,h.aD,h.aF,h.aC,h.aG,.slice q h.vs c2]).c1 aK zT).adv f)
 have a:=M1.hi 0;have b:=M1.hi 1;clear f c;obtain⟨f0,g,f1,j,f2,k,f3,l,f4,m,f5,n,f6,o,f7,r,f8,s,f9,t⟩:=(M1.bk 0).tenf;go_wp2;clear f0 g f1 j f2 k f3 l f4 m f5 n f6 o f7 r f8 s f9 t a b;have M2:=(M1.put10 (i:=0) rfl (I 0) (I 0) (.slice none 0 0) (I 0) (I 0) (I 0) (I 0) (I 0) (I 0) (.slice none 0 0))
 generalize d:World.setCell _ _ _=wz;rw[d]at M2;clear d M1;obtain⟨y0,y1,y2,y3,y4,y5,y6,y7,y8,y9⟩:=(M2.bk 0).ten;exact bodyPost_ret (v:= .tuple #[.agg #[(),(),((),()),(),(),(),(),(),(),((),())],((),())]) (by simp[results,results15,go_sem, *]) rfl (show fR w (hZ,[]) w _ _ from⟨none,0,none,0,none,0,rfl,aS4 _ _ _ _,aS4 _ _ _ _,aS4 _ _ _ _,M2.ext⟩)
theorem aNo (h:aL)(p:OA)(cap:Nat)(q:OA)(c2:Nat)(lq:OA)(lm lc:Nat)(ls:List (List UInt8))(w:World)(u:40<lm)
  (c:xC 31 #[.agg #[h.aA,h.aB,.slice p h.cells cap,h.free,h.step,h.aD,h.aF,h.aC,h.aG,.slice q h.vs c2]] w fun w' e w''=>e= .returned (Value.bool true)∧Ext w' w''):
  U 15 #[.agg #[h.aA,h.aB,.slice p h.cells cap,h.free,h.step,h.aD,h.aF,h.aC,h.aG,.slice q h.vs c2],.slice lq lm lc] w (fR w (hZ,[]) w):=by
 have t0:decide ((40:Int)<(lm:Int))=true:=by simp;omega
 have t1:decide (40<lm)=true:=by simp;omega
 go_enter func15,ntmps15;go_wp2_with fail;refine Z (c _ (((Mem.start w).c0 aK #[h.aA,h.aB,.slice p h.cells cap,h.free,h.step,h.aD,h.aF,h.aC,h.aG,.slice q h.vs c2]).c1 aK zT).ext) fun w1 f=>?_
 have M1:=((((Mem.start w).c0 aK #[h.aA,h.aB,.slice p h.cells cap,h.free,h.step,h.aD,h.aF,h.aC,h.aG,.slice q h.vs c2]).c1 aK zT).adv f)
 have a:=M1.hi 0;have b:=M1.hi 1;clear f c;obtain⟨f0,g,f1,j,f2,k,f3,l,f4,m,f5,n,f6,o,f7,r,f8,s,f9,t⟩:=(M1.bk 0).tenf;go_wp2;clear f0 g f1 j f2 k f3 l f4 m f5 n f6 o f7 r f8 s f9 t a b;have M2:=(M1.put10 (i:=0) rfl (I 0) (I 0) (.slice none 0 0) (I 0) (I 0) (I 0) (I 0) (I 0) (I 0) (.slice none 0 0))
 generalize d:World.setCell _ _ _=wz;rw[d]at M2;clear d M1;obtain⟨y0,y1,y2,y3,y4,y5,y6,y7,y8,y9⟩:=(M2.bk 0).ten;exact bodyPost_ret (v:= .tuple #[.agg #[(),(),((),()),(),(),(),(),(),(),((),())],((),())]) (by simp[results,results15,go_sem, *]) rfl (show fR w (hZ,[]) w _ _ from⟨none,0,none,0,none,0,rfl,aS4 _ _ _ _,aS4 _ _ _ _,aS4 _ _ _ _,M2.ext⟩)
theorem aRe (h:aL)(p:OA)(cap:Nat)(q:OA)(c2:Nat)(lq:OA)(lm lc:Nat)(ls:List (List UInt8))(w:World)(hb:lm≤40)(aw:Hid (∀li∈ls,li.length≤1048576))(t:Hid (ls.length=lm))(HS:Hid (Sl w lq lm lc 1 (bX ls)))
  (al:xC 31 #[.agg #[h.aA,h.aB,.slice p h.cells cap,h.free,h.step,h.aD,h.aF,h.aC,h.aG,.slice q h.vs c2]] w fun w' e w''=>e= .returned (Value.bool true)∧Ext w' w'')
  (HL:xC 36 #[.agg #[h.aA,h.aB,.slice p h.cells cap,h.free,h.step,h.aD,h.aF,h.aC,h.aG,.slice q h.vs c2]] w fun w' e w''=> ∃p' cap' q' c2',e= .returned (.agg #[h.aA,h.aB,.slice p' h.cells cap',h.free,h.step,h.aD,h.aF,h.aC,h.aG,.slice q' h.vs c2'])∧w''.ownsRow w' TI 1 (.slice p' h.cells cap') h.cells.length (ivs h.cells)∧w''.ownsRow w' TV 4 (.slice q' h.vs c2') h.vs.length (h.vs.flatMap aE)∧Ext w' w'')
  (ax:Hid (∀g li p c q d w',li.length≤1048576→Ext w w'→IsHouse w' g p g.cells.length c q g.vs.length d→U 8 #[.agg #[g.aA,g.aB,.slice p g.cells c,g.free,g.step,g.aD,g.aF,g.aC,g.aG,.slice q g.vs d],str li] w' (dO (jF g li).1 (jF g li).2 w'))):
  U 15 #[.agg #[h.aA,h.aB,.slice p h.cells cap,h.free,h.step,h.aD,h.aF,h.aC,h.aG,.slice q h.vs c2],.slice lq lm lc] w (fR w (hAt h ls,kM h ls) w):=by
 obtain⟨AB,s⟩: ∃AB:Array Value,AB=madeCells #[.string ⟨#[]⟩] lm:=⟨_,rfl⟩
 have bj: ∀w:World,(Instr.makeSlice 42 (I lm) (I lm)).run prog w= .ok (.slice (some ⟨w,0,none⟩) lm lm) (w.alloc (.cells AB cY)):=fun w=>by rw[s];exact run_make_row' _ _ (Value.string ⟨#[]⟩) 16 underlying42 (by kernel_rfl) rfl .i64 .i64 lm (by omega) (by omega) w
 have am:Hid (AB.toList=bX []++List.replicate (lm-0) (Value.string ⟨#[]⟩)):=by show _=_;rw[s,(iS _ lm).1];simp[bX]
 have ao:Hid (AB.size=lm):=by show _=_;rw[s];exact(iS _ lm).2
 clear s;have t0:decide ((40:Int)<(lm:Int))=false:=by simp;omega
 have t1:decide (40<lm)=false:=by simp;omega
 go_enter func15,ntmps15;go_wp2_with fail;refine Z (al _ (((Mem.start w).c0 aK #[h.aA,h.aB,.slice p h.cells cap,h.free,h.step,h.aD,h.aF,h.aC,h.aG,.slice q h.vs c2]).c1 aK zT).ext) fun w1 au=>?_
 have M1:=((((Mem.start w).c0 aK #[h.aA,h.aB,.slice p h.cells cap,h.free,h.step,h.aD,h.aF,h.aC,h.aG,.slice q h.vs c2]).c1 aK zT).adv au)
 have aa:=M1.hi 0;have ab:=M1.hi 1;clear au al;obtain⟨ay,az,a0,a1,a2,a3,a4,a5,a6,a7⟩:=(M1.bk 1).ten;go_wp2_with fail;clear ay az a0 a1 a2 a3 a4 a5 a6 a7;refine(HL _ M1.ext).mono ?_;rintro e w2 ⟨p1,m,q1,n,rfl,ho,hq,hx⟩;have M2:=(M1.own2 hx ho hq (aRp _) (by decide))
 clear M1 aa ab hx ho hq HL;have ad:=M2.hi 2;have ae:=M2.hi 3;go_upto_region 4 with fail;obtain⟨gV,z⟩: ∃gV,gV=w2.heap.size:=⟨_,rfl⟩
 rw[←z];have M3:=(M2.blkNew aK #[h.aA,h.aB,.slice p1 h.cells m,h.free,h.step,h.aD,h.aF,h.aC,h.aG,.slice q1 h.vs n] gV z.symm)
 generalize World.alloc _ _=w3 at M3⊢;clear M2 ad ae z;have af:=M3.hi 0;have ag:=M3.hi 3;have ah:=M3.hi 4;go_upto_region 5 with fail;obtain⟨gD,y⟩: ∃gD,gD=w3.heap.size:=⟨_,rfl⟩
 rw[←y]
 have MD:=(show Mem w (w3.alloc (.cells AB cY)) [aI w cY 1 (some ⟨gD,0,none⟩) (lm) (lm) (bX ([])++List.replicate (lm-0) (Value.string ⟨#[]⟩)),aJ w (gV) aK (aUe h p1 m q1 n),aUc w p1 h.cells m,aUd w q1 h.vs n,aJ w (w.heap.size+1) aK #[(),(),((),()),(),(),(),(),(),(),((),())],aJ w w aK (aUe h p cap q c2)]from by
  have h1:=M3.lit cY 1 lm gD AB y.symm (by rw[ao.out];omega) (by simp[maxLen];omega);rw[am.out]at h1
  exact h1)
 generalize ar:World.alloc _ _=w4;rw[ar]at MD;clear ar am ao bj y M3 af ag ah;go_wp2;go_loopw [26] (fun i wr=> ∃(k:Nat) (g:aL) (p3:OA) (c3:Nat) (q3:OA) (d3:Nat),k≤lm∧i=I k∧g=hAt h (ls.take k)∧Mem w wr [aI w cY 1 (some ⟨gD,0,none⟩) (lm) (lm) (bX (kM h (ls.take k))++List.replicate (lm-k) (Value.string ⟨#[]⟩)),aUc w p3 g.cells c3,aUd w q3 g.vs d3,aJ w (gV) aK (aUe g p3 c3 q3 d3),aJ w (w.heap.size+1) aK #[(),(),((),()),(),(),(),(),(),(),((),())],aJ w w aK (aUe h p cap q c2)]) (fun i _=>lm-(intOf i).toNat)
 case atStart=>exact⟨0,h,p1,m,q1,n,aRv _,rfl,rfl,(show Mem w w4 [aI w cY 1 (some ⟨gD,0,none⟩) (lm) (lm) (bX ([])++List.replicate (lm-0) (Value.string ⟨#[]⟩)),aUc w p1 h.cells m,aUd w q1 h.vs n,aJ w (gV) aK (aUe h p1 m q1 n),aJ w (w.heap.size+1) aK #[(),(),((),()),(),(),(),(),(),(),((),())],aJ w w aK (aUe h p cap q c2)]from MD.pick [0,2,3,1,4,5] (by decide) rfl)⟩
 case round=>
  clear MD;obtain⟨k,g,p3,c3,q3,d3,hk,rfl,hg,hM⟩:=hrel;have HM:=hM;have HG:=xQ hg;clear hM hg;by_cases hlt:k<lm
  ·obtain⟨b,b1,li,bi,hx,b0,e0⟩:=oC (HS.out.ext HM.ext) hlt;subst bi;have HX:=xQ hx;clear hx;have i1:(0:Int)≤(k:Int):=by omega
   have i2:(k:Int)<(lm:Int):=by omega
   obtain⟨r,an,hr⟩: ∃r an,(r,an)=jF g li:=⟨_,_,rfl⟩
   have HR:=xQ hr;clear hr;have aq:Hid (hAt h (ls.take (k+1))=r∧kM h (ls.take (k+1))=kM h (ls.take k)++ [an]):=by show _∧_;rw[aY HX.out,yC,aAw,←HG.out,←HR.out];exact⟨rfl,rfl⟩
   have HD:Hid (∀B p c q d w',B≤w'.heap.size→Ext wr w'→IsHouse w' g p g.cells.length c q g.vs.length d→U 8 #[.agg #[g.aA,g.aB,.slice p g.cells c,g.free,g.step,g.aD,g.aF,g.aC,g.aG,.slice q g.vs d],str li] w' fun e w''=> ∃pa ca qa da,e= .returned (.tuple #[.agg #[r.aA,r.aB,.slice pa r.cells ca,r.free,r.step,r.aD,r.aF,r.aC,r.aG,.slice qa r.vs da],str an])∧w''.ownsRow B TI 1 (.slice pa r.cells ca) r.cells.length (ivs r.cells)∧w''.ownsRow B TV 4 (.slice qa r.vs da) r.vs.length (r.vs.flatMap aE)∧Ext w' w''):=fun B p c q d w' hB hx hi=>by have:=ax g li p c q d w' (aw li (aRs HX.out)) (HM.ext.trans hx) hi;unfold dO at this;rw[←HR.out]at this;refine this.mono ?_;rintro e w'' ⟨pa,ca,qa,da,rfl,o1,o2,bl⟩;exact⟨pa,ca,qa,da,rfl,dW o1 hB,dW o2 hB,bl⟩
   have IX:=xQ (show IsHouse wr g p3 g.cells.length c3 q3 g.vs.length d3 from⟨(HM.sq 1),(HM.sq 2)⟩);have a:gV<wr:=(HM.hi 3)
   have f:w.heap.size+1<wr.heap.size:=(HM.hi 4)
   have l:(w:Nat)<wr:=(HM.hi 5)
   obtain⟨v0,v1,v2,v3,v4,v5,v6,v7,v8,v9⟩:=(HM.bk 3).ten;go_wp2_with fail;clear v0 v1 v2 v3 v4 v5 v6 v7 v8 v9 e0;refine(HD _ _ _ _ _ _ (aRp _) (Ext.refl _) IX.out).mono ?_;rintro e w6 ⟨p5,c5,q5,d5,rfl,ho,hq,hx⟩;have M6:=(HM.own2 hx ho hq (aRp _) (by decide))
   clear HM a f l hx ho hq HD IX;have ai:=M6.hi 5;have aj:=M6.hi 6;have ak:=M6.hi 7;obtain⟨v0,bp,v1,bq,v2,br,v3,bs,v4,bt,v5,bu,v6,bv,v7,bw,v8,bx,v9,bz⟩:=(M6.bk 5).tenf;have bm:gD<w6:=(M6.hi 2)
   have av: ¬(gD=gV):=M6.ne (i:=2) (j:=5) (by omega) rfl rfl rfl rfl;have bo: ¬(gV=gD):=fun h=>av h.symm
   have fD:w6.frozen? ⟨gD,k,none⟩=false:=(M6.ow 2).frozenAt k;have ap:(bX (kM h (ls.take k))).length=k:=by rw[lS,yO,aSd,t.out];omega
   have cD:w6.cell? ⟨gD,k,none⟩=some (Value.string ⟨#[]⟩):=by have:=(M6.ow 2).cellAt k (by omega);rw[this];exact aF4 ap hlt
   go_wp2;clear v0 bp v1 bq v2 br v3 bs v4 bt v5 bu v6 bv v7 bw v8 bx v9 bz bm av bo fD cD;have M9:=((M6.put10 (i:=5) rfl (I r.aA) (I r.aB) (.slice p5 r.cells c5) (I r.free) (I r.step) (I r.aD) (I r.aF) (I r.aC) (I r.aG) (.slice q5 r.vs d5)).ostore (i:=2) rfl k (str an))
   generalize o:World.setCell _ _ _=wz;rw[o]at M9;clear o M6 ai aj ak;go_roundw
   case rel=>
    have hd:(bX (kM h (ls.take k))++List.replicate (lm-k) (Value.string ⟨#[]⟩)).set k (str an)=bX (kM h (ls.take (k+1)))++List.replicate (lm-(k+1)) (Value.string ⟨#[]⟩):=by rw[aq.out.2,qA];exact aAp ap hlt
    exact⟨k+1,r,p5,c5,q5,d5,by omega,by go_num,aq.out.1.symm,by rw[←hd];exact(show Mem w wz [aI w cY 1 (some ⟨gD,0,none⟩) (lm) (lm) ((bX (kM h (ls.take k))++List.replicate (lm-k) (Value.string ⟨#[]⟩)).set k (str an)),aUc w p5 r.cells c5,aUd w q5 r.vs d5,aJ w (gV) aK (aUe r p5 c5 q5 d5),aJ w (w.heap.size+1) aK #[(),(),((),()),(),(),(),(),(),(),((),())],aJ w w aK (aUe h p cap q c2)]from(show Mem w wz [aUc w p5 r.cells c5,aUd w q5 r.vs d5,aI w cY 1 (some ⟨gD,0,none⟩) (lm) (lm) ((bX (kM h (ls.take k))++List.replicate (lm-k) (Value.string ⟨#[]⟩)).set k (str an)),aUc w p3 g.cells c3,aUd w q3 g.vs d3,aJ w (gV) aK (aUe r p5 c5 q5 d5),aJ w (w.heap.size+1) aK #[(),(),((),()),(),(),(),(),(),(),((),())],aJ w w aK (aUe h p cap q c2)]from M9).pick [2,0,1,5,6,7] (by decide) rfl)⟩
   case measure=>simp[intOf];omega
  obtain rfl:lm=k:=by omega
  have a:gV<wr:=(HM.hi 3)
  have f:w.heap.size+1<wr.heap.size:=(HM.hi 4)
  have l:(w:Nat)<wr:=(HM.hi 5)
  obtain⟨v0,v1,v2,v3,v4,v5,v6,v7,v8,v9⟩:=(HM.bk 3).ten;obtain⟨f0,a8,f1,a9,f2,ba,f3,bb,f4,bc,f5,bd,f6,be,f7,bf,f8,bg,f9,bh⟩:=(HM.bk 4).tenf;obtain⟨u,x⟩:=HM.nq 3 4;go_wp2;clear v0 v1 v2 v3 v4 v5 v6 v7 v8 v9 f0 a8 f1 a9 f2 ba f3 bb f4 bc f5 bd f6 be f7 bf f8 bg f9 bh u x a f l;have M6:=(HM.put10 (i:=4) rfl (I g.aA) (I g.aB) (.slice p3 g.cells c3) (I g.free) (I g.step) (I g.aD) (I g.aF) (I g.aC) (I g.aG) (.slice q3 g.vs d3))
  generalize o:World.setCell _ _ _=wz;rw[o]at M6;clear o HM;obtain⟨y0,y1,y2,y3,y4,y5,y6,y7,y8,y9⟩:=(M6.bk 4).ten;exact bodyPost_ret (v:= .tuple #[.agg #[g.aA,g.aB,.slice p3 g.cells c3,g.free,g.step,g.aD,g.aF,g.aC,g.aG,.slice q3 g.vs d3],.slice (some ⟨gD,0,none⟩) lm lm]) (by simp[results,results15,go_sem, *]) rfl (aA2 (by have h1:=HG.out;rw[aRu (by rw[t.out];exact aRp _)]at h1;exact h1) t.out (M6.ow 1) (M6.ow 2) (by have h1:=(M6.ow 0);rw[aRu (by rw[t.out];exact aRp _),aT0,List.replicate_zero,aSe]at h1;exact h1) M6.ext)
theorem aKl (h:aL)(p:OA)(n cap:Nat)(q:OA)(m c2:Nat)(lq:OA)(lm lc:Nat)(ls:List (List UInt8))(w:World)(hi:IsHouse w h p n cap q m c2)(hS:Sl w lq lm lc 1 (bX ls))(e: ∀li∈ls,li.length≤1048576)(a:Env w)(hE:BitTab w):
  U 15 #[bM h p n cap q m c2,.slice lq lm lc] w (fR w (lY h ls) w):=by
 have b:=hi.clen;have i:=hi.vlen;have f:ls.length=lm:=by have:=hS.len;rw[lS]at this;omega
 subst b i;have HV:=xQ fun(w':World) (hx:Ext w w')=>iF h p _ cap q _ c2 w' (hi.ext hx)
 unfold lY;by_cases hok:aR h=true
 ·rw[hok]at HV;have hs:=dE hok;by_cases hb:ls.length≤40
  ·rw[if_pos ⟨hok,hb⟩];have HL:=xQ fun(w':World) (hx:Ext w w')=>kP h p _ cap q _ c2 w' (by omega) (by omega) (hi.ext hx)
   unfold RetHouse at HL;exact aRe h p cap q c2 lq lm lc ls w (by omega) e f hS HV HL (fun g li p c q d w' hl hx hi'=>aNd g p _ c q _ d li w' hi' hl (a.ext hx) (hE.ext hx))
  rw[if_neg (fun hh=>hb hh.2)];exact aNo h p cap q c2 lq lm lc ls w (by omega) HV
 rw[if_neg (fun hh=>hok hh.1)];rw[show aR h=false by simpa using hok]at HV;exact aPs h p cap q c2 lq lm lc ls w HV
section
open Go.ChangeShapes Go.WideShapes Go.ChangeAt Go.Deep
def dD (n:Nat):List UInt8:=if n=0 then []else Lib.decDigits n
theorem aQ4 {m:Nat}(h:0<m):dD m=dD (m/10)++ [UInt8.ofNat (48+m%10)]:=by
 unfold dD;rw[if_neg (by omega)];by_cases h10:m<10
 ·rw[fJ m h10,if_pos (by omega),show m%10=m by omega];rfl
 rw[jV m h10,if_neg (by omega)]
def mT (n:Nat):List UInt8:=109::Lib.decDigits n
theorem aD3 (a:UInt8)(x:List UInt8):Value.string (⟨#[a]⟩++⟨x.toArray⟩)=str (a::x):=by show Value.string _=Value.string _;congr 1
theorem sJ (n:Nat)(w:World)(h1:1≤n)(h2:n≤9223372036854775807):
  U 45 #[n] w (O (str (mT n)) w):=by
 have t0:decide ((n:Int)≤0)=false:=by simp;omega
 have t1:decide (n≤0)=false:=by simp;omega
 have hl:=cS n h2;go_enter func45,ntmps45;go_wp2;go_loopw [0,3] (fun kk o wr=> ∃(m:Nat) (x:List UInt8),kk=I m∧o=str x∧dD m++x=Lib.decDigits n∧m≤n∧Ext w wr) (fun kk _ _=>(intOf kk).toNat)
 case atStart=>exact⟨n,[],rfl,rfl,by rw[aSe];unfold dD;rw[if_neg (by omega)],aRp _,Ext.refl _⟩
 case round=>
  obtain⟨m,x,rfl,rfl,hx,hm,hw⟩:=hrel;have HX:=xQ hx;have HW:=xQ hw;have d:x.length≤21:=by have:=congrArg List.length hx;rw[aRx]at this;omega
  clear hx hw;by_cases h0:0<m
  ·have t2:decide ((0:Int)<(m:Int))=true:=by simp;omega
   have t3:decide (0<m)=true:=by simp;omega
   have b:=aOg (48+(m:Int)%10);have hq:=aU2 (m:Int) 10 ⟨by omega,by omega,by omega⟩;have hr:=IntWalk.rem_in (m:Int) 10 (by omega);have c:IntKind.i64.wrap ((m:Int)%10)=(m:Int)%10:=aRr _ (by omega);have hs:IntKind.i64.wrap (48+(m:Int)%10)=48+(m:Int)%10:=aRr _ (by omega);have hc:IntKind.u8.wrap (48+(m:Int)%10)=48+(m:Int)%10:=IntWalk.u8_in _ (by omega);go_wp2;go_roundw
   case rel=>
    refine⟨m/10,UInt8.ofNat (48+m%10)::x,by go_num,?_,?_,by omega,?_⟩
    ·have e:UInt8.ofNat (48+m%10)=48+UInt8.ofNat (m%10):=by simp[UInt8.ofNat_add]
     rw[e];exact aD3 _ _
    ·rw[←HX.out,aQ4 h0];simp
    exact HW.out.trans ((Ext.refl _).alloc _)
   case measure=>simp[intOf];omega
  obtain rfl:m=0:=by omega
  have a:x=Lib.decDigits n:=by have:=HX.out;simpa[dD]using this
  subst a;go_wp2;go_ret;exact⟨congrArg Ending.returned (aD3 109 (Lib.decDigits n)),HW.out⟩
theorem aOt (p:OA)(n c:Nat)(ls:List (List UInt8))(left:Int)(w:World)(hS:Sl w p n c 1 (bX ls))(o:0≤left)(q:left≤1048576)(hb: ∀l∈ls,l.length≤maxLen):
  U 12 #[.slice p n c,left] w fun e w'=> ∃r:Int,e= .returned (I r)∧ -1≤r∧r≤left∧(0≤r→n≤1048576∧ ∀l∈ls,l.length≤1048576)∧Ext w w':=by
 have hn:=hS.bd;have a:ls.length=n:=by have:=hS.len;rw[lS]at this;omega
 have HS:=xQ hS;have HB:=xQ hb;have d:=xQ a;clear hS hb a;have q0:IntKind.i64.wrap (left-(n:Int))=left-(n:Int):=aRr _ (by omega);go_enter func12,ntmps12;by_cases h0:left<(n:Int)
 ·have t0:decide (left-(n:Int)<0)=true:=by simp;omega
  go_wp2;go_ret;exact⟨-1,rfl,by omega,by omega,fun h=>by omega,Ext.refl _⟩
 have t0:decide (left-(n:Int)<0)=false:=by simp;omega
 go_wp2;go_loopw [1,5] (fun lf i wr=> ∃(k:Nat) (L:Int),k≤n∧i=I k∧lf=I L∧0≤L∧L≤left∧(∀l∈ls.take k,l.length≤1048576)∧wr=w) (fun _ i _=>n-(intOf i).toNat)
 case atStart=>exact⟨0,_,aRv _,rfl,rfl,by omega,by omega,by simp,rfl⟩
 case round=>
  obtain⟨k,L,hk,rfl,rfl,j,f,ha,rfl⟩:=hrel;have HA:=xQ ha;clear ha;by_cases hlt:k<n
  ·obtain⟨b,s,l,hp,hx,m,e0⟩:=oC HS hlt;subst hp;have HX:=xQ hx;have g:l.length≤maxLen:=HB l (aRs hx);clear hx;have i1:(0:Int)≤(k:Int):=by omega
   have i2:(k:Int)<(n:Int):=by omega
   have q1:IntKind.i64.wrap (L-(l.length:Int))=L-(l.length:Int):=aRr _ (by unfold maxLen at g;omega);by_cases h1:L<(l.length:Int)
   ·have t1:decide (L-(l.length:Int)<0)=true:=by simp;omega
    go_wp2;go_ret;exact⟨-1,rfl,by omega,by omega,fun h=>by omega,Ext.refl _⟩
   have t1:decide (L-(l.length:Int)<0)=false:=by simp;omega
   go_wp2;go_roundw
   case rel=>
    refine⟨k+1,L-(l.length:Int),by omega,by go_num,by first|rfl|go_num,by omega,by omega,?_,by first|rfl|trivial⟩;rw[aY HX.out];intro y hy;rcases aSa.1 hy with hy|hy
    ·exact HA y hy
    obtain rfl:=aSc.1 hy;omega
   case measure=>simp[intOf];omega
  obtain rfl:k=n:=by omega
  go_wp2;go_ret;refine⟨L,rfl,by omega,f,fun _=>⟨by omega,?_⟩,Ext.refl _⟩;have:=HA.out;rwa[aRu (by rw[d.out];exact aRp _)]at this
theorem wD (p q:OA)(n c1 c2:Nat)(ls:List (List UInt8))(w:World)(h1:Sl w p n c1 1 (bX ls))(h2:Sl w q n c2 1 (bX ls)):
  U 16 #[.slice p n c1,.slice q n c2] w (O (.bool true) w):=by
 have hn:=h1.bd;have c:=xQ h1;have d:=xQ h2;clear h1 h2;go_enter func16,ntmps16;go_wp2;go_loopw [5] (fun i wr=> ∃(k:Nat),k≤n∧i=I k∧Ext w wr) (fun i _=>n-(intOf i).toNat)
 case atStart=>exact⟨0,aRv _,rfl,Ext.refl _⟩
 case round=>
  obtain⟨k,hk,rfl,hw⟩:=hrel;have HW:=xQ hw;clear hw;by_cases hlt:k<n
  ·obtain⟨b,o,l,hp,hx,m,e0⟩:=oC (c.out.ext HW.out) hlt;obtain⟨b',h,l',f,a,g,j⟩:=oC (d.out.ext HW.out) hlt;obtain rfl:l=l':=by rw[hx]at a;injection a
   subst hp f;clear hx a;have i1:(0:Int)≤(k:Int):=by omega
   have i2:(k:Int)<(n:Int):=by omega
   go_wp2;go_quiet (fail);go_wp2;go_roundw
   case rel=>exact⟨k+1,by omega,by go_num,HW.out.trans xE⟩
   case measure=>simp[intOf];omega
  obtain rfl:k=n:=by omega
  go_wp2;go_ret;exact⟨rfl,HW.out⟩
theorem aOr (p:OA)(n c:Nat)(ls:List (List UInt8))(w:World)(hS:Sl w p n c 1 (bX ls))(hn:n≤1048576):
  U 14 #[.slice p n c] w fun e w'=> ∃p' c',e= .returned (.slice p' n c')∧w'.ownsRow w cY 1 (.slice p' n c') n (bX ls)∧Ext w w':=by
 have j:ls.length=n:=by have:=hS.len;rw[lS]at this;omega
 have HS:=xQ hS;have d:=xQ j;clear hS j;obtain⟨AB,a⟩: ∃AB:Array Value,AB=madeCells #[.string ⟨#[]⟩] n:=⟨_,rfl⟩
 have o: ∀w:World,(Instr.makeSlice 42 (I n) (I n)).run prog w= .ok (.slice (some ⟨w,0,none⟩) n n) (w.alloc (.cells AB cY)):=fun w=>by rw[a];exact run_make_row' _ _ (Value.string ⟨#[]⟩) 16 underlying42 (by kernel_rfl) rfl .i64 .i64 n (by omega) (by omega) w
 have f:Hid (AB.toList=bX []++List.replicate (n-0) (Value.string ⟨#[]⟩)):=by show _=_;rw[a,(iS _ n).1];simp[bX]
 have g:Hid (AB.size=n):=by show _=_;rw[a];exact(iS _ n).2
 clear a;go_enter func14,ntmps14;go_upto_region 2 with fail
 have MD:=(show Mem w (w.alloc (.cells AB cY)) [aI w cY 1 (some ⟨w,0,none⟩) n n (bX []++List.replicate (n-0) (Value.string ⟨#[]⟩))]from by
  have h1:=(Mem.start w).lit cY 1 n w AB rfl (by rw[g.out];omega) (by simp[maxLen];omega);rw[f.out]at h1
  exact h1)
 generalize m:World.alloc _ _=w4;rw[m]at MD;clear m f g o;go_wp2;go_loopw [4] (fun i wr=> ∃(k:Nat),k≤n∧i=I k∧Mem w wr [aI w cY 1 (some ⟨w,0,none⟩) n n (bX (ls.take k)++List.replicate (n-k) (Value.string ⟨#[]⟩))]) (fun i _=>n-(intOf i).toNat)
 case atStart=>exact⟨0,aRv _,rfl,MD⟩
 case round=>
  clear MD;obtain⟨k,hk,rfl,hM⟩:=hrel;have HM:=hM;clear hM;by_cases hlt:k<n
  ·obtain⟨b,s,l,hp,hx,r,e0⟩:=oC (HS.out.ext HM.ext) hlt;subst hp;have HX:=xQ hx;clear hx;have i1:(0:Int)≤(k:Int):=by omega
   have i2:(k:Int)<(n:Int):=by omega
   have q:(w:Nat)<wr:=(HM.hi 0)
   have fD:wr.frozen? ⟨w,k,none⟩=false:=(HM.ow 0).frozenAt k;have h:(bX (ls.take k)).length=k:=by rw[lS,aSd,d.out];omega
   have cD:wr.cell? ⟨w,k,none⟩=some (Value.string ⟨#[]⟩):=by have:=(HM.ow 0).cellAt k (by omega);rw[this];exact aF4 h hlt
   go_wp2;clear q fD cD;have M9:=(HM.ostore (i:=0) rfl k (str l))
   go_roundw
   case rel=>
    have hd:(bX (ls.take k)++List.replicate (n-k) (Value.string ⟨#[]⟩)).set k (str l)=bX (ls.take (k+1))++List.replicate (n-(k+1)) (Value.string ⟨#[]⟩):=by rw[aY HX.out,qA];exact aAp h hlt
    exact⟨k+1,by omega,by go_num,by rw[←hd];exact M9⟩
   case measure=>simp[intOf];omega
  obtain rfl:k=n:=by omega
  go_wp2;go_ret;have h1:=HM.ow 0;rw[aRu (by rw[d.out];exact aRp _),aT0,List.replicate_zero,aSe]at h1;exact⟨_,_,rfl,h1,HM.ext⟩
def mTs:Nat→Nat→List (List UInt8)
 |_,0=> []
 |k,n+1=>mT k::mTs (k+1) n
theorem aPf (k n:Nat):(mTs k n).length=n:=by
 induction n generalizing k with
 |zero=>rfl
 |succ n ih=>simp[mTs,ih]
theorem aMx (k n:Nat):mTs k (n+1)=mTs k n++ [mT (k+n)]:=by
 induction n generalizing k with
 |zero=>simp[mTs]
 |succ n ih=>rw[mTs,ih,mTs,show k+1+n=k+(n+1) by omega];rfl
theorem aQj (k n j:Nat)(h:j<n):(mTs k n)[j]? =some (mT (k+j)):=by
 induction n generalizing k j with
 |zero=>omega
 |succ n ih=>
  cases j with
  |zero=>simp[mTs]
  |succ j=>rw[mTs,aTl,ih (k+1) j (by omega),show k+1+j=k+(j+1) by omega]
theorem aPt (base:Nat)(p:OA)(n c:Nat)(K0:Nat)(w:World)(hK:1≤K0)(h:K0≤4611686018427387904)(hn:n≤1099511627776)
  (HO:Hid (Sl w p n c 1 (bX (mTs K0 n)))):
  U 18 #[.slice p n c,K0] w (O (I ((K0:Int)+(n:Int))) w):=by
 go_enter func18,ntmps18;go_wp2;go_loopw [1,5] (fun kk i wr=> ∃(k:Nat),k≤n∧i=I k∧kk=I ((K0+k:Nat))∧Ext w wr) (fun _ i _=>n-(intOf i).toNat)
 case atStart=>exact⟨0,aRv _,rfl,by simp,Ext.refl _⟩
 case round=>
  obtain⟨k,hk,rfl,rfl,hw⟩:=hrel;have HW:=xQ hw;clear hw;by_cases hlt:k<n
  ·obtain⟨b,d,l,hp,hx,g,e0⟩:=oC (HO.out.ext HW.out) hlt;rw[aQj K0 n k hlt]at hx;obtain rfl:mT (K0+k)=l:=by injection hx
   subst hp;clear hx;have i1:(0:Int)≤(k:Int):=by omega
   have i2:(k:Int)<(n:Int):=by omega
   have q1:IntKind.i64.wrap (((K0+k:Nat):Int)+1)=((K0+k:Nat):Int)+1:=aRr _ (by omega);have HT:=xQ fun(w':World)=>sJ (K0+k) w' (by omega) (by omega)
   generalize a:((K0+k:Nat):Int)=kk at*;have f:=xQ a;clear a;go_upto_region 5 with fail;go_region_held3 (fun w'=>w'.cell? ⟨b,d+k,none⟩=some (str (mT (K0+k)))) (go_keep) ((go_at_call 45;refine Z (HT _) fun ws j=>?_;have e1:ws.cell? ⟨b,d+k,none⟩=some (str (mT (K0+k))):=((Ext.cells (by exact xE:Ext wr ws)).1 _ _ g).trans e0));all_goals go_wp2
   all_goals go_roundw
   all_goals first
    |(case rel=>exact⟨k+1,by omega,by go_num,by rw[←f.out];simp;omega,HW.out.trans xE⟩)
    |(case measure=>simp[intOf];omega)
  obtain rfl:k=n:=by omega
  go_wp2;go_ret;exact⟨by simp,HW.out⟩
end
end Go.Proofs.YtbgkcehffiogcacGreatDoor
