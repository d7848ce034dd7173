/-
  Texts of this proof, packed (@packed).
-/
import Derived.Test.YtbgkcehffiogcacGreatDoorZ16
namespace Go.Proofs.YtbgkcehffiogcacGreatDoor
open Go.RowKit Go.Proofs.Tryz
set_option linter.unusedSimpArgs false
set_option linter.unusedVariables false
set_option maxHeartbeats 8000000
set_option maxRecDepth 100000
theorem cM {w:World}{B n sz:Nat}{e:TypeId}{v:Value}{xs:List Value}(h:w.ownsRow B e sz v n xs){p:Addr}(hp:p.block<B)(u:Value):(w.setCell p u).ownsRow B e sz v n xs:=by refine h.kept (row:=some p.block) ⟨rfl,rfl,rfl,by simp[World.setCell],fun i hi hne=>aT0 w p u i (fun e=>hne (by rw[e]))⟩ (.inr (fun hh=> ?_));have:=h.lt _ hh;omega
theorem aF4 (aA aB:Int)(p:OA)(n cap:Nat)(xs:List Int)(w:World)(hn:n≤1099511627776)(hS:Sl w p n cap 1 (ivs xs)):
  U 28 #[aH aA aB p n cap] w (dW aA aB xs w):=by
 have hl:=hS.ilen;have HS:=xQ hS;subst hl;clear hS;go_enter func28,ntmps28;go_wp2_with fail;refine(aF3 p _ cap xs _ hn (HS.out.ext xE)).mono ?_;rintro e w1 ⟨q,c,rfl,ho,hx⟩;obtain⟨hc,hf⟩:=hx.cells;have hz:w.heap.size+2<w1.heap.size:=aQm (by simp) hx.sz;have d:w.heap.size+1<w1.heap.size:=by omega
 have b:(w:Nat)<w1:=by omega
 have HO:=xQ (show w1.ownsRow (w.heap.size+3) TI 1 (.slice q xs c) xs.length (ivs xs) by simpa using ho);have a:Ext w w1:=((((Ext.refl w).alloc _).alloc _).alloc _).trans hx;clear ho hx;go_wp2;exact bodyPost_ret (v:=aH aA aB q xs.length c) (by simp[results,results28,go_sem, *]) rfl ⟨q,c,rfl,bI (cM (cM (cM (cM HO (by dsimp only;omega) _) (by dsimp only;omega) _) (by dsimp only;omega) _) (by dsimp only;omega) _) (by omega),xE⟩
def RetHouse (h:aM)(w:World)(e:Ending)(w':World):Prop:=
 ∃p cap q c2,e= .returned (bO h p h.cells.length cap q h.vs.length c2)∧w'.ownsRow w.heap.size TI 1 (.slice p h.cells.length cap) h.cells.length (ivs h.cells)∧w'.ownsRow w.heap.size TV 4 (.slice q h.vs.length c2) h.vs.length (h.vs.flatMap aE)∧Ext w w'
theorem aCh (h:aM)(p:OA)(n cap:Nat)(q:OA)(m c2:Nat)(w:World)(hn:n≤1099511627776)(hm:m≤1099511627776)(hi:IsHouse w h p n cap q m c2):
  U 7 #[bO h p n cap q m c2] w (RetHouse h w):=by
 have hl:=hi.clen;have af:=hi.vlen;have HI:=xQ hi;subst hl af;clear hi;obtain⟨aA,aB,a,b,c,aD,aF,aC,aG,vs⟩:=h;obtain⟨HN,HM⟩:Hid (a.length≤1099511627776)∧Hid (vs.length≤1099511627776):=⟨hn,hm⟩
 clear hn hm;go_enter func7,ntmps7;go_wp2_with fail;refine(aF4 aA aB p _ cap a _ HN (HI.out.cells.ext xE)).mono ?_;rintro e w1 ⟨p1,c1,rfl,u,g⟩;have BA:=xQ ((((Blk.new w 29 #[aA,aB,.slice p a cap,b,c,aD,aF,aC,aG,.slice q vs c2]).alloc (.cells #[(),(),((),()),(),(),(),(),(),(),((),())] 35)).alloc (.cells #[(),(),((),()),(),(),(),(),(),(),((),())] 35)).ext g);have BR:=xQ (((Blk.new (w.alloc (.cells #[aA,aB,.slice p a cap,b,c,aD,aF,aC,aG,.slice q vs c2] 29)) 35 #[(),(),((),()),(),(),(),(),(),(),((),())]).alloc (.cells #[(),(),((),()),(),(),(),(),(),(),((),())] 35)).ext g);have BO:=xQ ((Blk.new ((w.alloc (.cells #[aA,aB,.slice p a cap,b,c,aD,aF,aC,aG,.slice q vs c2] 29)).alloc (.cells #[(),(),((),()),(),(),(),(),(),(),((),())] 35)) 35 #[(),(),((),()),(),(),(),(),(),(),((),())]).ext g);simp only[aT7]at BR BO;have ap:w.heap.size+2<w1.heap.size:=aQm (by simp) g.sz;have r:=xQ (show w1.ownsRow (w.heap.size+3) TI 1 (.slice p1 a c1) a.length (ivs a) by simpa using u);have t:=xQ (((((Ext.refl w).alloc _).alloc _).alloc _).trans g);clear u g;have a3:=BA.out.cl 3;have a4:=BA.out.cl 4;have a5:=BA.out.cl 5;have a6:=BA.out.cl 6;have o0:=BO.out.cl 0;have o1:=BO.out.cl 1;have o2:=BO.out.cl 2;have ag:=BO.out.frozen 0;have ah:=BO.out.frozen 1;have ai:=BO.out.frozen 2;go_wp2_with fail;clear a3 a4 a5 a6 o0 o1 o2 ag ah ai;refine Z (aAl b c aD aF _) fun w2 f=>?_
 have d:=xQ (show Blk w2 (w.heap.size+1+1) 35 #[aA,aB,.slice p1 a c1,(),(),(),(),(),(),((),())] by have hb:=(((BO.out.set 0 (I aA)).set 1 (I aB)).set 2 (.slice p1 a c1)).ext f;simpa only[aR1,aQz,aR0]using hb);have j:=xQ ((((BA.out.far (p:=⟨w.heap.size+1+1,0,none⟩) (by dsimp only;omega) (I aA)).far (p:=⟨w.heap.size+1+1,1,none⟩) (by dsimp only;omega) (I aB)).far (p:=⟨w.heap.size+1+1,2,none⟩) (by dsimp only;omega) (.slice p1 a c1)).ext f);have o:=xQ ((((BR.out.far (p:=⟨w.heap.size+1+1,0,none⟩) (by dsimp only;omega) (I aA)).far (p:=⟨w.heap.size+1+1,1,none⟩) (by dsimp only;omega) (I aB)).far (p:=⟨w.heap.size+1+1,2,none⟩) (by dsimp only;omega) (.slice p1 a c1)).ext f);have ad:=f.sz;simp only[World.size_setCell]at ad;have s:=xQ (bB (cM (cM (cM r (by dsimp only;omega) _) (by dsimp only;omega) _) (by dsimp only;omega) _) f);have k:=xQ ((((t.out.setCell (p:=⟨w.heap.size+1+1,0,none⟩) (by dsimp only;omega) (I aA)).setCell (p:=⟨w.heap.size+1+1,1,none⟩) (by dsimp only;omega) (I aB)).setCell (p:=⟨w.heap.size+1+1,2,none⟩) (by dsimp only;omega) (.slice p1 a c1)).trans f);clear f BO BA BR r t;have a7:=j.out.cl 7;have a8:=j.out.cl 8;have a9:=j.out.cl 9;have o3:=d.out.cl 3;have o4:=d.out.cl 4;have o5:=d.out.cl 5;have o6:=d.out.cl 6;have o7:=d.out.cl 7;have o8:=d.out.cl 8;have aj:=d.out.frozen 3;have ak:=d.out.frozen 4;have al:=d.out.frozen 5;have am:=d.out.frozen 6;have an:=d.out.frozen 7;have ao:=d.out.frozen 8;go_wp2_with fail;clear a7 a8 a9 o3 aj o4 ak o5 al o6 am o7 an o8 ao
 refine(aAk q _ c2 vs _ HM (HI.out.vs.ext ((((((k.out.setCell (p:=⟨w.heap.size+1+1,3,none⟩) (by dsimp only;omega) (I b)).setCell (p:=⟨w.heap.size+1+1,4,none⟩) (by dsimp only;omega) (I c)).setCell (p:=⟨w.heap.size+1+1,5,none⟩) (by dsimp only;omega) (I aD)).setCell (p:=⟨w.heap.size+1+1,6,none⟩) (by dsimp only;omega) (I aF)).setCell (p:=⟨w.heap.size+1+1,7,none⟩) (by dsimp only;omega) (I aC)).setCell (p:=⟨w.heap.size+1+1,8,none⟩) (by dsimp only;omega) (I aG)))).mono ?_;rintro e w3 ⟨q3,c3,rfl,x,i⟩;have l:=xQ (show Blk w3 (w.heap.size+1+1) 35 #[aA,aB,.slice p1 a c1,b,c,aD,aF,aC,aG,((),())] by have hb:=((((((d.out.set 3 (I b)).set 4 (I c)).set 5 (I aD)).set 6 (I aF)).set 7 (I aC)).set 8 (I aG)).ext i;simpa only[aR1,aQz,aR0]using hb);have y:=xQ (((((((o.out.far (p:=⟨w.heap.size+1+1,3,none⟩) (by dsimp only;omega) (I b)).far (p:=⟨w.heap.size+1+1,4,none⟩) (by dsimp only;omega) (I c)).far (p:=⟨w.heap.size+1+1,5,none⟩) (by dsimp only;omega) (I aD)).far (p:=⟨w.heap.size+1+1,6,none⟩) (by dsimp only;omega) (I aF)).far (p:=⟨w.heap.size+1+1,7,none⟩) (by dsimp only;omega) (I aC)).far (p:=⟨w.heap.size+1+1,8,none⟩) (by dsimp only;omega) (I aG)).ext i);have ae:=i.sz;simp only[World.size_setCell]at ae;have z:=xQ (bB (cM (cM (cM (cM (cM (cM s (p:=⟨w.heap.size+1+1,3,none⟩) (by dsimp only;omega) (I b)) (p:=⟨w.heap.size+1+1,4,none⟩) (by dsimp only;omega) (I c)) (p:=⟨w.heap.size+1+1,5,none⟩) (by dsimp only;omega) (I aD)) (p:=⟨w.heap.size+1+1,6,none⟩) (by dsimp only;omega) (I aF)) (p:=⟨w.heap.size+1+1,7,none⟩) (by dsimp only;omega) (I aC)) (p:=⟨w.heap.size+1+1,8,none⟩) (by dsimp only;omega) (I aG)) i)
 have ab:=xQ (((((((k.out.setCell (p:=⟨w.heap.size+1+1,3,none⟩) (by dsimp only;omega) (I b)).setCell (p:=⟨w.heap.size+1+1,4,none⟩) (by dsimp only;omega) (I c)).setCell (p:=⟨w.heap.size+1+1,5,none⟩) (by dsimp only;omega) (I aD)).setCell (p:=⟨w.heap.size+1+1,6,none⟩) (by dsimp only;omega) (I aF)).setCell (p:=⟨w.heap.size+1+1,7,none⟩) (by dsimp only;omega) (I aC)).setCell (p:=⟨w.heap.size+1+1,8,none⟩) (by dsimp only;omega) (I aG)).trans i);have aa:=xQ (bI x (B':=w.heap.size+3) (by simp only[World.size_setCell];omega));clear i x d j o s k;obtain⟨o0,o1,o2,o3,o4,o5,o6,o7,o8,o9⟩:=l.out.ten;have aq:=l.out.frozen 9;obtain⟨r0,ar,r1,au,r2,av,r3,aw,r4,ax,r5,ay,r6,az,r7,a0,r8,a1,r9,a2⟩:=y.out.tenf;go_wp2
 exact bodyPost_ret (v:= .agg #[aA,aB,.slice p1 a c1,b,c,aD,aF,aC,aG,.slice q3 vs c3]) (by simp[results,results7,go_sem, *]) rfl ⟨p1,c1,q3,c3,rfl,bI (cM (cM (cM (cM (cM (cM (cM (cM (cM (cM (cM z (p:=⟨w.heap.size+1+1,9,none⟩) (by dsimp only;omega) (.slice q3 vs c3)) (p:=⟨w.heap.size+1,0,none⟩) (by dsimp only;omega) (I aA)) (p:=⟨w.heap.size+1,1,none⟩) (by dsimp only;omega) (I aB)) (p:=⟨w.heap.size+1,2,none⟩) (by dsimp only;omega) (.slice p1 a c1)) (p:=⟨w.heap.size+1,3,none⟩) (by dsimp only;omega) (I b)) (p:=⟨w.heap.size+1,4,none⟩) (by dsimp only;omega) (I c)) (p:=⟨w.heap.size+1,5,none⟩) (by dsimp only;omega) (I aD)) (p:=⟨w.heap.size+1,6,none⟩) (by dsimp only;omega) (I aF)) (p:=⟨w.heap.size+1,7,none⟩) (by dsimp only;omega) (I aC)) (p:=⟨w.heap.size+1,8,none⟩) (by dsimp only;omega) (I aG)) (p:=⟨w.heap.size+1,9,none⟩) (by dsimp only;omega) (.slice q3 vs c3)) (by omega),bI (cM (cM (cM (cM (cM (cM (cM (cM (cM (cM (cM aa (p:=⟨w.heap.size+1+1,9,none⟩) (by dsimp only;omega) (.slice q3 vs c3)) (p:=⟨w.heap.size+1,0,none⟩) (by dsimp only;omega) (I aA)) (p:=⟨w.heap.size+1,1,none⟩) (by dsimp only;omega) (I aB)) (p:=⟨w.heap.size+1,2,none⟩) (by dsimp only;omega) (.slice p1 a c1)) (p:=⟨w.heap.size+1,3,none⟩) (by dsimp only;omega) (I b)) (p:=⟨w.heap.size+1,4,none⟩) (by dsimp only;omega) (I c)) (p:=⟨w.heap.size+1,5,none⟩) (by dsimp only;omega) (I aD)) (p:=⟨w.heap.size+1,6,none⟩) (by dsimp only;omega) (I aF)) (p:=⟨w.heap.size+1,7,none⟩) (by dsimp only;omega) (I aC)) (p:=⟨w.heap.size+1,8,none⟩) (by dsimp only;omega) (I aG)) (p:=⟨w.heap.size+1,9,none⟩) (by dsimp only;omega) (.slice q3 vs c3)) (by omega),(((((((((((ab.out.setCell (p:=⟨w.heap.size+1+1,9,none⟩) (by dsimp only;omega) (.slice q3 vs c3)).setCell (p:=⟨w.heap.size+1,0,none⟩) (by dsimp only;omega) (I aA)).setCell (p:=⟨w.heap.size+1,1,none⟩) (by dsimp only;omega) (I aB)).setCell (p:=⟨w.heap.size+1,2,none⟩) (by dsimp only;omega) (.slice p1 a c1)).setCell (p:=⟨w.heap.size+1,3,none⟩) (by dsimp only;omega) (I b)).setCell (p:=⟨w.heap.size+1,4,none⟩) (by dsimp only;omega) (I c)).setCell (p:=⟨w.heap.size+1,5,none⟩) (by dsimp only;omega) (I aD)).setCell (p:=⟨w.heap.size+1,6,none⟩) (by dsimp only;omega) (I aF)).setCell (p:=⟨w.heap.size+1,7,none⟩) (by dsimp only;omega) (I aC)).setCell (p:=⟨w.heap.size+1,8,none⟩) (by dsimp only;omega) (I aG)).setCell (p:=⟨w.heap.size+1,9,none⟩) (by dsimp only;omega) (.slice q3 vs c3))⟩
abbrev aK:TypeId:=35
theorem vK:ElT prog 33 TV 4:=
 ⟨underlying33,by
  obtain⟨i,hi,h0,h1,h2⟩:=info_parts (show(prog.info? TV).map (fun i=>(i.zero,i.size,i.bytes))=some (some (.agg #[(),(),(),()]),4,32) by kernel_rfl)
  exact⟨i,_,hi,h0,h1,by omega,rfl⟩,by omega⟩
theorem eT (vs:List aP): ∀u∈vs.flatMap aE,u.oneCell'=true:=by intro u hu;obtain⟨v,_,hv⟩:=List.mem_flatMap.1 hu;simp only[aE,aR5,List.not_mem_nil,or_false]at hv;rcases hv with rfl|rfl|rfl|rfl<;>rfl
theorem sX (v:aP): ∀u∈aE v,u.oneCell'=true:=by intro u hu;simp only[aE,aR5,List.not_mem_nil,or_false]at hu;rcases hu with rfl|rfl|rfl|rfl<;>rfl
theorem aLk (aA aB a b aD aF aC aG:Int)(p:OA)(n cap:Nat)(q:OA)(m c2:Nat)(xs:List Int)(vs:List aP)(w:World)(hm:m≤1000)(hS:Hid (Sl w q m c2 4 (vs.flatMap aE)))
  (HL:xC 65 #[aH aA aB p n cap] w fun w' e w''=> ∃q c,e= .returned (aH aA aB q n c)∧w''.ownsRow w' TI 1 (.slice q n c) n (ivs xs)∧Ext w' w''):
  U 26 #[.agg #[aA,aB,.slice p n cap,a,b,aD,aF,aC,aG,.slice q m c2]] w fun e w'=> ∃p' cap' q' c2',e= .returned (.agg #[aA,aB,.slice p' n cap',a,b,aD,aF,aC,aG,.slice q' m c2'])∧w'.ownsRow w TI 1 (.slice p' n cap') n (ivs xs)∧w'.ownsRow w TV 4 (.slice q' m c2') m (vs.flatMap aE)∧Ext w w':=by
 go_enter func26,ntmps26;go_wp2_with fail;refine(HL _ ((((Mem.start w).c0 aK #[aA,aB,.slice p n cap,a,b,aD,aF,aC,aG,.slice q m c2]).c1 aK zT).c2 aK #[aA,aB,.slice p n cap,a,b,aD,aF,aC,aG,.slice q m c2]).ext).mono ?_;rintro e w1 ⟨q0,c0,rfl,y,aa⟩;have M1:=(((((Mem.start w).c0 aK #[aA,aB,.slice p n cap,a,b,aD,aF,aC,aG,.slice q m c2]).c1 aK zT).c2 aK #[aA,aB,.slice p n cap,a,b,aD,aF,aC,aG,.slice q m c2]).call aa y)
 have j:=M1.hi 1;have k:=M1.hi 2;have l:=M1.hi 3;clear aa y;have c9:=(M1.bk 3).cl 9;have d0:=(M1.bk 1).cl 0;have ad:=(M1.bk 1).frozen 0;have d1:=(M1.bk 1).cl 1;have ae:=(M1.bk 1).frozen 1;have d2:=(M1.bk 1).cl 2;have af:=(M1.bk 1).frozen 2;go_wp2_with (at_builtin;refine cH vK rfl _ _ rfl ((((M1.store (i:=1) rfl 0 (I aA)).store (i:=1) rfl 1 (I aB)).store (i:=1) rfl 2 (.slice q0 n c0)).made0 TV 4 w1 (by simp)) 0 rfl rfl (vs.flatMap aE) rfl (hS.out.ext ((((M1.store (i:=1) rfl 0 (I aA)).store (i:=1) rfl 1 (I aB)).store (i:=1) rfl 2 (.slice q0 n c0)).made0 TV 4 w1 (by simp)).ext) (eT vs) (by omega) ?_;intro q7 c7 w6 x;have M6:=xQ (show Mem w w6 [aI w TV 4 (q7) (m) (c7) (vs.flatMap aE),aI w TI 1 (q0) (n) (c0) (ivs xs),aJ w (w.heap.size+1+1) aK #[aA,aB,.slice q0 n c0,a,b,aD,aF,aC,aG,.slice q m c2],aJ w (w.heap.size+1) aK #[(),(),((),()),(),(),(),(),(),(),((),())],aJ w w aK #[aA,aB,.slice p n cap,a,b,aD,aF,aC,aG,.slice q m c2]]from by have:=(show Mem w w6 [aI w TV 4 (q7) (0+m) (c7) ([]++vs.flatMap aE),aI w TI 1 (q0) (n) (c0) (ivs xs),aJ w (w.heap.size+1+1) aK #[aA,aB,.slice q0 n c0,a,b,aD,aF,aC,aG,.slice q m c2],aJ w (w.heap.size+1) aK #[(),(),((),()),(),(),(),(),(),(),((),())],aJ w w aK #[aA,aB,.slice p n cap,a,b,aD,aF,aC,aG,.slice q m c2]]from x);simpa only[aRq,aS6]using this);clear x c9 d0 ad d1 ae d2 af M1 j k l;(have f:w.heap.size+1+1<w6.heap.size:=(M6.out.hi 2));(have g:w.heap.size+1<w6.heap.size:=(M6.out.hi 3));(have h:(w:Nat)<w6:=(M6.out.hi 4));(obtain⟨x0,x1,x2,x3,x4,x5,x6,x7,x8,x9⟩:=(M6.out.bk 2).ten);(have ag:w6.cell? ⟨w.heap.size+1+1,9,none⟩=some (.slice q m c2):=(M6.out.bk 2).cell 9);(have ab:w6.frozen? ⟨w.heap.size+1+1,9,none⟩=false:=(M6.out.bk 2).frozen 9);(obtain⟨y0,yf0,y1,yf1,y2,yf2,y3,yf3,y4,yf4,y5,yf5,y6,yf6,y7,yf7,y8,yf8,y9,yf9⟩:=(M6.out.bk 3).tenf))
 have o:=(((M6.out.st 2 9 (.slice q7 m c7)).st 3 0 (I aA)).st 3 1 (I aB))
 have r:=((o.st 3 2 (.slice q0 n c0)).st 3 3 (I a))
 have s:=((r.st 3 4 (I b)).st 3 5 (I aD))
 have t:=((s.st 3 6 (I aF)).st 3 7 (I aC))
 have u:=((t.st 3 8 (I aG)).st 3 9 (.slice q7 m c7))
 clear x0 x1 x2 x3 x4 x5 x6 x7 x8 x9 ag ab y0 yf0 y1 yf1 y2 yf2 y3 yf3 y4 yf4 y5 yf5 y6 yf6 y7 yf7 y8 yf8 y9 yf9 f g h;have d:=(show Mem w (((((((((((w6.setCell ⟨w.heap.size+1+1,9,none⟩ (.slice q7 m c7)).setCell ⟨w.heap.size+1,0,none⟩ (I aA)).setCell ⟨w.heap.size+1,1,none⟩ (I aB)).setCell ⟨w.heap.size+1,2,none⟩ (.slice q0 n c0)).setCell ⟨w.heap.size+1,3,none⟩ (I a)).setCell ⟨w.heap.size+1,4,none⟩ (I b)).setCell ⟨w.heap.size+1,5,none⟩ (I aD)).setCell ⟨w.heap.size+1,6,none⟩ (I aF)).setCell ⟨w.heap.size+1,7,none⟩ (I aC)).setCell ⟨w.heap.size+1,8,none⟩ (I aG)).setCell ⟨w.heap.size+1,9,none⟩ (.slice q7 m c7)) [aI w TV 4 (q7) (m) (c7) (vs.flatMap aE),aI w TI 1 (q0) (n) (c0) (ivs xs),aJ w (w.heap.size+1+1) aK #[aA,aB,.slice q0 n c0,a,b,aD,aF,aC,aG,.slice q7 m c7],aJ w (w.heap.size+1) aK #[aA,aB,.slice q0 n c0,a,b,aD,aF,aC,aG,.slice q7 m c7],aJ w w aK #[aA,aB,.slice p n cap,a,b,aD,aF,aC,aG,.slice q m c2]]from u)
 generalize z:World.setCell _ _ _=wz;rw[z]at d;clear z M6 o r s t u;obtain⟨y0,y1,y2,y3,y4,y5,y6,y7,y8,y9⟩:=(d.bk 3).ten;exact bodyPost_ret (v:= .agg #[aA,aB,.slice q0 n c0,a,b,aD,aF,aC,aG,.slice q7 m c7]) (by simp[results,results26,go_sem, *]) rfl ⟨q0,c0,q7,c7,rfl,(d.ow 1),by have:=(d.ow 0);simpa using this,d.ext⟩
theorem nT (h:aM)(p:OA)(n cap:Nat)(q:OA)(m c2:Nat)(w:World)(hn:n≤1000)(hm:m≤1000)(hi:IsHouse w h p n cap q m c2):
  U 26 #[bO h p n cap q m c2] w (RetHouse h w):=by
 have hl:=hi.clen;have d:=hi.vlen;refine(aLk h.aA h.aB h.free h.step h.aD h.aF h.aC h.aG p n cap q m c2 h.cells h.vs w hm (xQ hi.vs) (xQ fun w' hx=> ?_)).mono ?_
 ·refine(fR h.aA h.aB p n cap h.cells w' (by omega) (hi.cells.ext hx)).mono ?_;rintro e g ⟨q,c,rfl,ho,f⟩;rw[hl]at ho⊢;exact⟨q,c,rfl,ho,f⟩
 rintro e w' ⟨p',a,q',b,rfl,h1,h2,h3⟩;subst hl d;exact⟨p',a,q',b,rfl,h1,h2,h3⟩
def kW (v:aP)(vs:List aP):List aP:=vs.takeWhile (fun u=>decide (u.1<v.1))++v::vs.dropWhile (fun u=>decide (u.1<v.1))
theorem rQ (v:aP): ∀(vs:List aP) (k:Nat),(∀u∈vs.take k,u.1<v.1)→(∀u,vs[k]? =some u→ ¬u.1<v.1)→kW v vs=vs.take k++v::vs.drop k
 | [],k,_,_=>by simp[kW]
 |u::vs,0,_,h2=>by simp[kW,h2 u (by simp)]
 |u::vs,k+1,h1,h2=>by have h:=rQ v vs k (fun z hz=>h1 z (by simp[hz])) (fun z hz=>h2 z (by simpa using hz));have hu:u.1<v.1:=h1 u (by simp);simp only[kW]at h⊢;simp[hu,h]
theorem kN: ∀(k:Nat) (vs:List aP),(vs.flatMap aE).drop (k*4)=(vs.drop k).flatMap aE
 |0,vs=>by simp
 |k+1,[]=>by simp
 |k+1,v::vs=>by rw[aRl,show(k+1)*4=(aE v).length+k*4 by simp[aE];omega,List.drop_length_add_append,kN k vs];rfl
theorem aD3 {w:World}{b a n cap sz k:Nat}{xs:List Value}(h:Sl w (some ⟨b,a,none⟩) n cap sz xs)(hk:k≤n):Sl w (some ⟨b,a+k*sz,none⟩) (n-k) (cap-k) sz (xs.drop (k*sz)):=by have hl:=h.len;have d:=h.le;have f:=h.mx;refine⟨by rw[aSa,hl,Nat.sub_mul],by omega,by omega,fun h0=> ?_⟩;obtain⟨b',c,e,hb,hc⟩:=h.rd (by omega);injection e with e;injection e with e1 e2;subst e1 e2;refine⟨_,_,rfl,hb,fun j hj=> ?_⟩;rw[Nat.add_assoc,hc (k*sz+j) (by rw[Nat.sub_mul]at hj;omega)];simp
theorem aJk (id a1 a2 a3:Int)(q:OA)(m c2:Nat)(vs:List aP)(w:World)(hm:m≤1000)(hS:Sl w q m c2 4 (vs.flatMap aE)):
  U 57 #[.slice q m c2,.agg #[id,a1,a2,a3]] w fun e w'=> ∃q' c',e= .returned (.slice q' (m+1) c')∧w'.ownsRow w TV 4 (.slice q' (m+1) c') (m+1) ((kW (id,a1,a2,a3) vs).flatMap aE)∧Ext w w':=by
 have hl:Hid (vs.length=m):=by have:=hS.len;rw[cQ aE 4 (fun _=>rfl)]at this;exact(by omega:vs.length=m)
 have n:=hS.le;have HS:=xQ hS;clear hS;have j:=xQ (((Mem.start w).c0 TV #[id,a1,a2,a3]).made0 TV 4 (w.heap.size+1) (by simp));go_enter func57,ntmps57;go_wp2;go_loopw [5,6] (fun v i wr=> ∃(k:Nat) (q5:OA) (c5:Nat),k≤m∧i=I k∧v= .slice q5 k c5∧(∀u∈vs.take k,u.1<id)∧Mem w wr [aI w TV 4 (q5) (k) (c5) ((vs.take k).flatMap aE),aJ w w TV #[id,a1,a2,a3]]) (fun _ i _=>m-(intOf i).toNat)
 case atStart=>exact⟨0,some ⟨w.heap.size+1,0,none⟩,0,aQt _,rfl,rfl,by simp,j.out⟩
 case round=>
  clear j;obtain⟨k,q5,c5,hk,rfl,rfl,f,hM⟩:=hrel;have HM:=hM;have HL:=xQ f;clear hM f;by_cases hlt:k<m
  ·obtain⟨b,p,c0,c1,c4,c3,rfl,hx,hb,g0,g1,g2,g3⟩:=eC (HS.out.ext HM.ext) hlt;have b0:=(HM.bk 1).cl 0;have b1:=(HM.bk 1).cl 1;have b2:=(HM.bk 1).cl 2;have b3:=(HM.bk 1).cl 3;have HX:=xQ hx;clear hx;have i1:(0:Int)≤(k:Int):=by omega
   have i2:(k:Int)<(m:Int):=by omega
   have i3:(k:Int)≤(m:Int):=by omega
   by_cases hy:c0<id
   ·have c:Hid (∀z∈vs.take (k+1),z.1<id):=by
     show∀z∈vs.take (k+1),z.1<id;rw[bC HX.out];intro z hz;rcases aR7.1 hz with h|h
     ·exact HL z h
     simp at h;subst h;exact hy
    have hd:decide (c0<id)=true:=by simp[hy]
    go_wp2;go_quiet (fail);generalize d:World.drewN wr _=wi;have hX:Ext wr wi:=by rw[←d];exact Ext.drewN (Ext.refl _) _
    clear d b0 b1 b2 b3 hd;have a:=(HM.adv hX)
    clear HM;have d0:=(a.bk 1).cl 0;have d1:=(a.bk 1).cl 1;have d2:=(a.bk 1).cl 2;have d3:=(a.bk 1).cl 3;have e0:=(hX.cells.1 _ _ hb).trans g0;have e1:=(hX.cells.1 _ _ hb).trans g1;have e2:=(hX.cells.1 _ _ hb).trans g2;have e3:=(hX.cells.1 _ _ hb).trans g3;clear hX g0 g1 g2 g3 hb;go_wp2_with (at_builtin;go_loud (refine cH vK rfl _ _ rfl (a.adv ((Ext.refl _).alloc (.cells #[c0,c1,c4,c3] TV))) 0 rfl rfl (aE (c0,c1,c4,c3)) rfl (eH _ _ _ 1 4 _ (by simp) (by simp) (by simp[maxLen])) (sX _) (by omega) ?_;intro q7 c7 w6 M6));have M7:=(show Mem w w6 [aI w TV 4 (q7) (k+1) (c7) ((vs.take k).flatMap aE++aE (c0,c1,c4,c3)),aJ w w TV #[id,a1,a2,a3]]from M6)
    have g:Hid ((vs.take k).flatMap aE++aE (c0,c1,c4,c3)=(vs.take (k+1)).flatMap aE):=by show _=_;rw[bC HX.out,aRh];simp
    rw[g.out]at M7;clear g M6;go_roundw
    case rel=>exact⟨k+1,q7,c7,by omega,by go_num,rfl,c.out,M7⟩
    case measure=>simp[intOf];omega
   have c:Hid (kW (id,a1,a2,a3) vs=vs.take k++(id,a1,a2,a3)::vs.drop k):=rQ _ vs k HL (fun z hz=>by rw[HX.out]at hz;injection hz with hz;subst hz;exact hy);have o: ¬c2=k:=by omega
   have hd:decide (c0<id)=false:=by simp[hy]
   clear HX HL;go_wp2;go_quiet (fail);generalize d:World.drewN wr _=wi;have hX:Ext wr wi:=by rw[←d];exact Ext.drewN (Ext.refl _) _
   clear d b0 b1 b2 b3 hd;have a:=(HM.adv hX)
   clear HM;have d0:=(a.bk 1).cl 0;have d1:=(a.bk 1).cl 1;have d2:=(a.bk 1).cl 2;have d3:=(a.bk 1).cl 3;clear hX g0 g1 g2 g3 hb hy;go_wp2
   go_region_law ((first
    |(refine fZ vK (by rfl) _ _ (by rfl) (a.adv (by exact .drew (.alloc (.refl _) _))) 0 (by rfl) (by rfl) (aE (id,a1,a2,a3)) (by rfl) (by first|exact eH wi #[id,a1,a2,a3] _ 1 4 _ rfl (by simp) (by simp[maxLen])|exact(eH wi #[id,a1,a2,a3] _ 1 4 _ rfl (by simp) (by simp[maxLen])).ext (Ext.drew (Ext.refl _))|exact eH wi.drew #[id,a1,a2,a3] _ 1 4 _ rfl (by simp) (by simp[maxLen])) (sX _) (by omega) ?_
      intro q7 c7 w6 M6;have M7:=(show Mem w w6 [aI w TV 4 (q7) (k+1) (c7) ((vs.take k).flatMap aE++aE (id,a1,a2,a3)),aJ w w TV #[id,a1,a2,a3]]from M6)
      clear M6)
    |(refine fZ vK (by rfl) _ _ (by rfl) (M7.adv (by exact .refl _)) 0 (by rfl) (by rfl) ((vs.drop k).flatMap aE) (by rfl) (kN k vs▸aD3 (HS.out.ext (M7.ext.trans (by exact .refl _))) (by omega)) (eT _) (by omega) ?_
      intro q9 c9 w9 M9
      have M9:=xQ (show Mem w w9 [aI w TV 4 (q9) (k+1+(m-k)) (c9) (((vs.take k).flatMap aE++aE (id,a1,a2,a3))++(vs.drop k).flatMap aE),aJ w w TV #[id,a1,a2,a3]]from M9))))
   all_goals (
    have e1:k+1+(m-k)=m+1:=by omega
    have e2:((vs.take k).flatMap aE++aE (id,a1,a2,a3))++(vs.drop k).flatMap aE=(vs.take k++(id,a1,a2,a3)::vs.drop k).flatMap aE:=by simp
    have MZ:=(show Mem w w9 [aI w TV 4 (q9) (m+1) (c9) ((vs.take k++(id,a1,a2,a3)::vs.drop k).flatMap aE),aJ w w TV #[id,a1,a2,a3]]from by have:=M9.out;rw[e2]at this;simpa only[e1]using this)
    clear e2 M9 M7)
   all_goals go_wp2
   all_goals exact bodyPost_ret (v:= .slice q9 (m+1) c9) (by simp[results,results57,go_sem, *]) rfl ⟨q9,c9,rfl,by rw[c.out];exact MZ.ow 0,MZ.ext⟩
  obtain rfl:k=m:=by omega
  have b0:=(HM.bk 1).cl 0;have b1:=(HM.bk 1).cl 1;have b2:=(HM.bk 1).cl 2;have b3:=(HM.bk 1).cl 3;have c:Hid (kW (id,a1,a2,a3) vs=vs.take k++(id,a1,a2,a3)::vs.drop k):=rQ _ vs k HL (fun z hz=>by rw[aRs (by rw[hl.out];exact aQn _)]at hz;cases hz);have l:Hid (vs.drop k= []):=aS4 (by rw[hl.out];exact aQn _);have i1:(0:Int)≤(k:Int):=by omega
  clear HL;go_wp2;go_quiet (fail);generalize d:World.drewN wr _=wi;have hX:Ext wr wi:=by rw[←d];exact Ext.drewN (Ext.refl _) _
  clear d b0 b1 b2 b3;have a:=(HM.adv hX)
  clear HM;have d0:=(a.bk 1).cl 0;have d1:=(a.bk 1).cl 1;have d2:=(a.bk 1).cl 2;have d3:=(a.bk 1).cl 3;clear hX;go_wp2
  go_region_law ((first
   |(refine fZ vK (by rfl) _ _ (by rfl) (a.adv (by exact .drew (.alloc (.refl _) _))) 0 (by rfl) (by rfl) (aE (id,a1,a2,a3)) (by rfl) (by first|exact eH wi #[id,a1,a2,a3] _ 1 4 _ rfl (by simp) (by simp[maxLen])|exact(eH wi #[id,a1,a2,a3] _ 1 4 _ rfl (by simp) (by simp[maxLen])).ext (Ext.drew (Ext.refl _))|exact eH wi.drew #[id,a1,a2,a3] _ 1 4 _ rfl (by simp) (by simp[maxLen])) (sX _) (by omega) ?_
     intro q7 c7 w6 M6;have M7:=(show Mem w w6 [aI w TV 4 (q7) (k+1) (c7) ((vs.take k).flatMap aE++aE (id,a1,a2,a3)),aJ w w TV #[id,a1,a2,a3]]from M6)
     clear M6)
   |(refine fZ vK (by rfl) _ _ (by rfl) (M7.adv (by exact .refl _)) 0 (by rfl) (by rfl) (([]:List aP).flatMap aE) (by rfl) (⟨by simp,aQt _,by have:=HS.out.mx;omega,fun h=>absurd h (by omega)⟩) (eT _) (by omega) ?_
     intro q9 c9 w9 M9
     have M9:=xQ (show Mem w w9 [aI w TV 4 (q9) (k+1+0) (c9) (((vs.take k).flatMap aE++aE (id,a1,a2,a3))++([]:List aP).flatMap aE),aJ w w TV #[id,a1,a2,a3]]from M9))))
  all_goals (
   have e1:k+1+0=k+1:=by omega
   have e2:((vs.take k).flatMap aE++aE (id,a1,a2,a3))++([]:List aP).flatMap aE=(vs.take k++(id,a1,a2,a3)::vs.drop k).flatMap aE:=by simp[l.out]
   have MZ:=(show Mem w w9 [aI w TV 4 (q9) (k+1) (c9) ((vs.take k++(id,a1,a2,a3)::vs.drop k).flatMap aE),aJ w w TV #[id,a1,a2,a3]]from by have:=M9.out;rw[e2]at this;simpa only[e1]using this)
   clear e2 M9 M7)
  all_goals go_wp2
  all_goals exact bodyPost_ret (v:= .slice q9 (k+1) c9) (by simp[results,results57,go_sem, *]) rfl ⟨q9,c9,rfl,by rw[c.out];exact MZ.ow 0,MZ.ext⟩
def vix (id:Int)(vs:List aP):Int:=if vs.any (fun v=>v.1==id)then(vs.findIdx (fun v=>v.1==id):Int)else -1
theorem aHi {id:Int}{vs:List aP}{k:Nat}{v:aP}(hv:vs[k]? =some v) (h:v.1=id) (hp:(vs.take k).any (fun v=>v.1==id)=false):vix id vs=k:=by
 have a:k<vs.length:=(aQr.1 hv).1;have e:vs[k]=v:=by have:=(aQr.1 hv).2;exact this
 have ha:vs.any (fun v=>v.1==id)=true:=List.any_eq_true.2 ⟨v,aQq hv,by simp[h]⟩;have hi:vs.findIdx (fun v=>v.1==id)=k:=by rw[List.findIdx_eq a];refine⟨by simp[e,h],fun j hj=> ?_⟩;have:=List.any_eq_false.1 hp vs[j] (by rw[List.mem_take_iff_getElem];exact⟨j,by omega,rfl⟩);simpa using this
 unfold vix;rw[if_pos ha,hi]
theorem vU {id:Int}{vs:List aP}(hp:vs.any (fun v=>v.1==id)=false):vix id vs= -1:=by unfold vix;simp[hp]
theorem aEw {id:Int}{vs:List aP}{k:Nat}{v:aP}(hv:vs[k]? =some v) (h: ¬v.1=id) (hp:(vs.take k).any (fun v=>v.1==id)=false):(vs.take (k+1)).any (fun v=>v.1==id)=false:=by rw[bC hv,List.any_append,hp];simp[h]
theorem mU (id:Int)(vs:List aP):(vix id vs= -1∧dS id vs=none)∨ ∃(k:Nat) (a1 a2 a3:Int),k<vs.length∧vix id vs=k∧vs[k]? =some (id,a1,a2,a3)∧dS id vs=some (id,a1,a2,a3):=by
 cases h:vs.any (fun v=>v.1==id)with
 |false=>exact .inl ⟨vU h,by unfold dS;rw[List.find?_eq_none];simpa using h⟩
 |true=>
  right;have a:vs.findIdx (fun v=>v.1==id)<vs.length:=List.findIdx_lt_length.2 (by simpa using h);have hg:=List.findIdx_getElem (w:=a);have hf:dS id vs=some (vs[vs.findIdx (fun v=>v.1==id)]):=by unfold dS;rw[List.find?_eq_some_iff_getElem];exact⟨hg,_,a,rfl,fun j hj=>by simpa using List.not_of_lt_findIdx hj⟩
  have h0:vs[vs.findIdx (fun v=>v.1==id)].1=id:=by simpa using hg
  generalize hb:vs[vs.findIdx (fun v=>v.1==id)]=v at*;obtain⟨b0,b1,b2,b3⟩:=v;dsimp only at h0;subst h0;exact⟨_,b1,b2,b3,a,by unfold vix;rw[if_pos h],by rw[aQo a,hb],hf⟩
theorem yO (B:Nat)(q:OA)(m c2:Nat)(vs:List aP)(id:Int)(w:World)(hS:Sl w q m c2 4 (vs.flatMap aE))(hB:B<w.heap.size)(hc:w.cell? ⟨B,0,none⟩=some (I id)):
  U 156 #[.slice q m c2,.func (.func 157) #[] #[.pointer (some ⟨B,0,none⟩)]] w (O (I (vix id vs)) w):=by
 have hn:=hS.bd;have HS:=xQ hS;have hl:Hid (vs.length=m):=by have:=hS.len;rw[cQ aE 4 (fun _=>rfl)]at this;exact(by omega:vs.length=m)
 clear hS;go_enter func156,ntmps156;go_wp2;go_loopw [8] (fun i wr=> ∃k:Nat,k≤m∧i=I k∧(vs.take k).any (fun v=>v.1==id)=false∧Ext w wr∧w.heap.size≤wr.heap.size∧wr.cell? ⟨B,0,none⟩=some (I id)) (fun i _=>m-(intOf i).toNat)
 case atStart=>exact⟨0,aQt _,rfl,by simp,by exact .refl _,by simp,by simpa using hc⟩
 case round=>
  obtain⟨k,hk,rfl,hp,hE,f,d⟩:=hrel;have HP:=xQ hp;clear hp;by_cases hlt:k<m
  ·obtain⟨b,g,a0,a1,a2,a3,rfl,hv,hb,g0,g1,g2,g3⟩:=eC (HS.out.ext hE) hlt;have HV:=xQ hv;clear hv;have c:(wr.alloc (.cells #[a0,a1,a2,a3] 77)).cell? ⟨B,0,none⟩=some (I id):=by rw[((Ext.refl wr).alloc _).cells.1 _ _ (by omega)];exact d
   by_cases t:a0=id
   ·have q0:(a0==id)=true:=by simp[t]
    have a:Hid (vix id vs=k):=aHi HV t HP.out;clear t;go_wp2_with go_in;go_ret;exact⟨by rw[a.out];rfl,by exact .alloc hE _⟩
   have q0:(a0==id)=false:=by simp[t]
   have a:Hid ((vs.take (k+1)).any (fun v=>v.1==id)=false):=aEw HV t HP.out;clear t;go_wp2_with go_in;go_roundw
   case rel=>exact⟨k+1,by omega,by go_num,a.out,by exact .alloc hE _,by simp;omega,c⟩
   case measure=>simp[intOf];omega
  have a:Hid (vix id vs= -1):=vU (by have:=HP.out;rwa[aQu (by rw[hl.out];omega)]at this);go_wp2;go_ret;exact⟨by rw[a.out];rfl,by exact hE⟩
theorem jH (aA aB a b aD aF aC aG id:Int)(p:OA)(n cap:Nat)(q:OA)(m c2:Nat)(vs:List aP)(w:World)(hS:Sl w q m c2 4 (vs.flatMap aE)):
  U 119 #[.agg #[aA,aB,.slice p n cap,a,b,aD,aF,aC,aG,.slice q m c2],id] w (O (I (vix id vs)) w):=by
 have HI:Hid (∀w1 B,Ext w w1→B<w1.heap.size→w1.cell? ⟨B,0,none⟩=some (I id)→U 156 #[.slice q m c2,.func (.func 157) #[] #[.pointer (some ⟨B,0,none⟩)]] w1 (O (I (vix id vs)) w1)):=
  fun w1 B hx hB hc=>yO B q m c2 vs id w1 (hS.ext hx) hB hc
 clear hS;go_enter func119,ntmps119;go_wp2_with fail;refine Z (HI _ _ (by exact .alloc (.alloc (.refl _) _) _) (by simp) (by simp)) fun w1 h1=>?_
 go_wp2;go_ret;exact⟨rfl,by exact .trans (.alloc (.alloc (.refl _) _) _) h1⟩
theorem qU (aA aB c d aD aF aC aG id:Int)(p:OA)(n cap:Nat)(q:OA)(m c2:Nat)(vs:List aP)(w:World)(hS:Sl w q m c2 4 (vs.flatMap aE)):
  U 60 #[.agg #[aA,aB,.slice p n cap,c,d,aD,aF,aC,aG,.slice q m c2],id] w (O (I (vix id vs)) w):=by
 have hn:=hS.bd;have HS:=xQ hS;have hl:Hid (vs.length=m):=by have:=hS.len;rw[cQ aE 4 (fun _=>rfl)]at this;exact(by omega:vs.length=m)
 clear hS;go_enter func60,ntmps60;go_wp2;go_loop [5] (fun i=> ∃k:Nat,k≤m∧i=I k∧(vs.take k).any (fun v=>v.1==id)=false) (fun i=>m-(intOf i).toNat)
 case atStart=>exact⟨0,aQt _,rfl,by simp⟩
 case round=>
  obtain⟨k,hk,rfl,hp⟩:=hrel;have HP:=xQ hp;clear hp;by_cases hlt:k<m
  ·obtain⟨b,f,a0,a1,a2,a3,rfl,hv,hb,g0,g1,g2,g3⟩:=eC HS hlt;have HV:=xQ hv;clear hv;by_cases t:a0=id
   ·have q0:(a0==id)=true:=by simp[t]
    have a:Hid (vix id vs=k):=aHi HV t HP.out;clear t;go_wp2;go_ret;exact⟨by rw[a.out];rfl,by exact .alloc (.refl _) _⟩
   have q0:(a0==id)=false:=by simp[t]
   have a:Hid ((vs.take (k+1)).any (fun v=>v.1==id)=false):=aEw HV t HP.out;clear t;go_wp2;go_round
   case rel=>exact⟨k+1,by omega,by go_num,a.out⟩
   case measure=>simp[intOf];omega
  have a:Hid (vix id vs= -1):=vU (by have:=HP.out;rwa[aQu (by rw[hl.out];omega)]at this);go_wp2;go_ret;exact⟨by rw[a.out];rfl,by exact .alloc (.refl _) _⟩
abbrev TT4:TypeId:=32
abbrev TS3:TypeId:=75
def fN (f s p c i pd a now amt:Int):(Int×Int×Int)×Int×Bool:=
 if 1≤amt∧amt≤300 then
  (if cA f s p c i pd a now=0 then((i,pd,a),amt,false)else((i,pd+min (cA f s p c i pd a now) amt,now),amt-min (cA f s p c i pd a now) amt,true))
 else((0,0,0),amt,false)
theorem jV {f s p c i pd a now:Int}(h:bN f s p c=true)(h2:dB i pd a=true)(h3:a≤now)(h4:now≤9999):0≤cA f s p c i pd a now∧cA f s p c i pd a now≤693:=by obtain⟨b1,b2,b3,b4,b5,b6⟩:=fI h2;have hb:=pA (m:=now-i) h (by omega) (by omega);unfold cA;rw[if_pos (by simp[h,h2,h3,h4])];omega
theorem aIr (i pd a now f s p c amt D:Int)(w:World)(hD:0≤D)(j:D≤693)(k:0≤pd)(hp:pd≤9999)
  (HD:Hid (∀w,U 113 #[aS f s p c,bS i pd a,now] w (O (I D) w)))
  (HI:Hid (∀w,U 50 #[amt,I 1,I 300] w fun e w'=>e= .returned (.bool false)∧w=w'))(ha:amt<1∨300<amt):
  U 104 #[aS f s p c,bS i pd a,now,amt] w (O (.tuple #[bS 0 0 0,amt,.bool false]) w):=by
 go_enter func104,ntmps104;go_wp2_with fail;refine Z (HD _) fun w1 b=>?_
 have M1:=(((((Mem.start w).c0 TT4 #[f,s,p,c]).c1 TS3 #[i,pd,a]).c2 TS3 #[(),(),()]).adv b)
 clear b;go_wp2_with fail;refine(HI _).mono ?_;rintro e _ ⟨rfl,rfl⟩;obtain⟨d0,d1,d2⟩:=(M1.bk 0).tri;have d:=(M1.bk 0).frozen 0;have g:=(M1.bk 0).frozen 1;have h:=(M1.bk 0).frozen 2;clear HD HI;go_wp2;clear d0 d1 d2 d g h;have M2:=(((M1.st 0 0 (I 0)).st 0 1 (I 0)).st 0 2 (I 0))
 generalize World.setCell _ _ _=wz at M2⊢;clear M1;obtain⟨y0,y1,y2⟩:=(M2.bk 0).tri;exact bodyPost_ret (v:= .tuple #[.agg #[(),(),()],amt,.bool false]) (by simp[results,results104,go_sem, *]) rfl ⟨rfl,M2.ext⟩
theorem aCq (i pd a now f s p c amt:Int)(w:World)(j:0≤pd)(hp:pd≤9999)
  (HD:Hid (∀w,U 113 #[aS f s p c,bS i pd a,now] w (O (I 0) w)))
  (HI:Hid (∀w,U 50 #[amt,I 1,I 300] w fun e w'=>e= .returned (.bool true)∧w=w'))(ha:1≤amt)(hb:amt≤300):
  U 104 #[aS f s p c,bS i pd a,now,amt] w (O (.tuple #[bS i pd a,amt,.bool false]) w):=by
 go_enter func104,ntmps104;go_wp2_with fail;refine Z (HD _) fun w1 b=>?_
 have M1:=(((((Mem.start w).c0 TT4 #[f,s,p,c]).c1 TS3 #[i,pd,a]).c2 TS3 #[(),(),()]).adv b)
 clear b;go_wp2_with fail;refine(HI _).mono ?_;rintro e _ ⟨rfl,rfl⟩;obtain⟨c0,c1,c2⟩:=(M1.bk 1).tri;obtain⟨d0,d1,d2⟩:=(M1.bk 0).tri;have d:=(M1.bk 0).frozen 0;have g:=(M1.bk 0).frozen 1;have h:=(M1.bk 0).frozen 2;clear HD HI;go_wp2;clear c0 c1 c2 d0 d1 d2 d g h;have M2:=(((M1.st 0 0 (I i)).st 0 1 (I pd)).st 0 2 (I a))
 generalize World.setCell _ _ _=wz at M2⊢;clear M1;obtain⟨y0,y1,y2⟩:=(M2.bk 0).tri;exact bodyPost_ret (v:= .tuple #[.agg #[i,pd,a],amt,.bool false]) (by simp[results,results104,go_sem, *]) rfl ⟨rfl,M2.ext⟩
theorem aF7 (i pd a now f s p c amt D:Int)(w:World)(hD:0≤D)(k:D≤693)(m:0≤pd)(hp:pd≤9999)
  (HD:Hid (∀w,U 113 #[aS f s p c,bS i pd a,now] w (O (I D) w)))
  (HI:Hid (∀w,U 50 #[amt,I 1,I 300] w fun e w'=>e= .returned (.bool true)∧w=w'))(ha:1≤amt)(hb:amt≤300)(j:1≤D):
  U 104 #[aS f s p c,bS i pd a,now,amt] w (O (.tuple #[bS i (pd+min D amt) now,(amt-min D amt:Int),.bool true]) w):=by
 go_enter func104,ntmps104;go_wp2_with fail;refine Z (HD _) fun w1 b=>?_
 have M1:=(((((Mem.start w).c0 TT4 #[f,s,p,c]).c1 TS3 #[i,pd,a]).c2 TS3 #[(),(),()]).adv b)
 clear b;go_wp2_with fail;refine(HI _).mono ?_;rintro e _ ⟨rfl,rfl⟩;obtain⟨c0,c1,c2⟩:=(M1.bk 1).tri;obtain⟨d0,d1,d2⟩:=(M1.bk 0).tri;have d:=(M1.bk 0).frozen 0;have g:=(M1.bk 0).frozen 1;have h:=(M1.bk 0).frozen 2;clear HD HI;have k1:IntKind.i64.wrap (pd+min D amt)=pd+min D amt:=aQp _ (by omega);have k2:IntKind.i64.wrap (amt-min D amt)=amt-min D amt:=aQp _ (by omega);have l:(D==0)=false:=by simp;omega
 go_wp2;clear c0 c1 c2 d0 d1 d2 d g h;have M2:=(((M1.st 0 0 (I i)).st 0 1 (I (pd+min D amt))).st 0 2 (I now))
 generalize World.setCell _ _ _=wz at M2⊢;clear M1;obtain⟨y0,y1,y2⟩:=(M2.bk 0).tri;exact bodyPost_ret (v:= .tuple #[.agg #[i,(pd+min D amt:Int),now],(amt-min D amt:Int),.bool true]) (by simp[results,results104,go_sem, *]) rfl ⟨rfl,M2.ext⟩
theorem aDb (f s p c i pd a now amt:Int)(w:World)(h:bN f s p c=true)(h2:dB i pd a=true)(h3:a≤now)(h4:now≤9999):
  U 104 #[aS f s p c,bS i pd a,now,amt] w (O (.tuple #[bS (fN f s p c i pd a now amt).1.1 (fN f s p c i pd a now amt).1.2.1 (fN f s p c i pd a now amt).1.2.2,I (fN f s p c i pd a now amt).2.1,.bool (fN f s p c i pd a now amt).2.2]) w):=by
 obtain⟨b1,b2,b3,b4,b5,b6⟩:=fI h2;obtain⟨e1,e2⟩:=jV h h2 h3 h4;have HD:=xQ (fun w=>aAp f s p c i pd a now w h h2 h3 h4);unfold fN;generalize cA f s p c i pd a now=D at*;by_cases ha:1≤amt∧amt≤300
 ·have HI:Hid (∀w,U 50 #[amt,I 1,I 300] w fun e w'=>e= .returned (.bool true)∧w=w'):=fun w=>mX amt 1 300 w ha.1 ha.2
  rw[if_pos ha];by_cases hd:D=0
  ·subst hd;rw[if_pos rfl];exact aCq i pd a now f s p c amt w b3 b4 HD HI ha.1 ha.2
  rw[if_neg hd];exact aF7 i pd a now f s p c amt D w e1 e2 b3 b4 HD HI ha.1 ha.2 (by omega)
 have HI:Hid (∀w,U 50 #[amt,I 1,I 300] w fun e w'=>e= .returned (.bool false)∧w=w'):=fun w=>vO amt 1 300 w (by omega)
 rw[if_neg ha];exact aIr i pd a now f s p c amt D w e1 e2 b3 b4 HD HI (by omega)
end Go.Proofs.YtbgkcehffiogcacGreatDoor
