/-
  Texts of this proof, packed (@packed).
-/
import Derived.Test.YtbgkcehffiogcacGreatDoorQ5
namespace Go.Proofs.YtbgkcehffiogcacGreatDoor
set_option linter.unusedSimpArgs false
set_option linter.unusedVariables false
set_option maxHeartbeats 8000000
set_option maxRecDepth 100000
section
open Go.RowKit Go.Proofs.Tryz
theorem cN {w:World}{B n sz:Nat}{e:TypeId}{v:Value}{xs:List Value}(h:w.ownsRow B e sz v n xs){p:Addr}(hp:p.block<B)(u:Value):(w.setCell p u).ownsRow B e sz v n xs:=by refine h.kept (row:=some p.block) ⟨rfl,rfl,rfl,by simp[World.setCell],fun i hi hne=>aU3 w p u i (fun e=>hne (by rw[e]))⟩ (.inr (fun hh=> ?_));have:=h.lt _ hh;omega
theorem aFn (aA aB:Int)(p:OA)(n cap:Nat)(xs:List Int)(w:World)(hn:n≤1099511627776)(hS:Sl w p n cap 1 (ivs xs)):
  U 28 #[aH aA aB p n cap] w (eC aA aB xs w):=by
 have hl:=hS.ilen;have HS:=xQ hS;subst hl;clear hS;go_enter func28,ntmps28;go_wp2_with fail;refine(aFm p _ cap xs _ hn (HS.out.ext xE)).mono ?_;rintro e w1 ⟨q,c,rfl,ho,hx⟩;obtain⟨hc,hf⟩:=hx.cells;have hz:w.heap.size+2<w1.heap.size:=aRo (by simp) hx.sz;have d:w.heap.size+1<w1.heap.size:=by omega
 have b:(w:Nat)<w1:=by omega
 have HO:=xQ (show w1.ownsRow (w.heap.size+3) TI 1 (.slice q xs c) xs.length (ivs xs) by simpa using ho);have a:Ext w w1:=((((Ext.refl w).alloc _).alloc _).alloc _).trans hx;clear ho hx;go_wp2;exact bodyPost_ret (v:=aH aA aB q xs.length c) (by simp[results,results28,go_sem, *]) rfl ⟨q,c,rfl,bJ (cN (cN (cN (cN HO (by dsimp only;omega) _) (by dsimp only;omega) _) (by dsimp only;omega) _) (by dsimp only;omega) _) (by omega),xE⟩
def RetHouse (h:aL)(w:World)(e:Ending)(w':World):Prop:=
 ∃p cap q c2,e= .returned (bM h p h.cells.length cap q h.vs.length c2)∧w'.ownsRow w.heap.size TI 1 (.slice p h.cells.length cap) h.cells.length (ivs h.cells)∧w'.ownsRow w.heap.size TV 4 (.slice q h.vs.length c2) h.vs.length (h.vs.flatMap aE)∧Ext w w'
theorem aCz (h:aL)(p:OA)(n cap:Nat)(q:OA)(m c2:Nat)(w:World)(hn:n≤1099511627776)(hm:m≤1099511627776)(hi:IsHouse w h p n cap q m c2):
  U 7 #[bM h p n cap q m c2] w (RetHouse h w):=by
 have hl:=hi.clen;have af:=hi.vlen;have HI:=xQ hi;subst hl af;clear hi;obtain⟨aA,aB,a,b,c,aD,aF,aC,aG,vs⟩:=h;obtain⟨HN,HM⟩:Hid (a.length≤1099511627776)∧Hid (vs.length≤1099511627776):=⟨hn,hm⟩
 clear hn hm;go_enter func7,ntmps7;go_wp2_with fail;refine(aFn aA aB p _ cap a _ HN (HI.out.cells.ext xE)).mono ?_;rintro e w1 ⟨p1,c1,rfl,u,g⟩;have BA:=xQ ((((Blk.new w 29 #[aA,aB,.slice p a cap,b,c,aD,aF,aC,aG,.slice q vs c2]).alloc (.cells #[(),(),((),()),(),(),(),(),(),(),((),())] 35)).alloc (.cells #[(),(),((),()),(),(),(),(),(),(),((),())] 35)).ext g);have BR:=xQ (((Blk.new (w.alloc (.cells #[aA,aB,.slice p a cap,b,c,aD,aF,aC,aG,.slice q vs c2] 29)) 35 #[(),(),((),()),(),(),(),(),(),(),((),())]).alloc (.cells #[(),(),((),()),(),(),(),(),(),(),((),())] 35)).ext g);have BO:=xQ ((Blk.new ((w.alloc (.cells #[aA,aB,.slice p a cap,b,c,aD,aF,aC,aG,.slice q vs c2] 29)).alloc (.cells #[(),(),((),()),(),(),(),(),(),(),((),())] 35)) 35 #[(),(),((),()),(),(),(),(),(),(),((),())]).ext g);simp only[aU8]at BR BO;have ap:w.heap.size+2<w1.heap.size:=aRo (by simp) g.sz;have r:=xQ (show w1.ownsRow (w.heap.size+3) TI 1 (.slice p1 a c1) a.length (ivs a) by simpa using u);have t:=xQ (((((Ext.refl w).alloc _).alloc _).alloc _).trans g);clear u g;have a3:=BA.out.cl 3;have a4:=BA.out.cl 4;have a5:=BA.out.cl 5;have a6:=BA.out.cl 6;have o0:=BO.out.cl 0;have o1:=BO.out.cl 1;have o2:=BO.out.cl 2;have ag:=BO.out.frozen 0;have ah:=BO.out.frozen 1;have ai:=BO.out.frozen 2;go_wp2_with fail;clear a3 a4 a5 a6 o0 o1 o2 ag ah ai;refine Z (aB3 b c aD aF _) fun w2 f=>?_
 have d:=xQ (show Blk w2 (w.heap.size+1+1) 35 #[aA,aB,.slice p1 a c1,(),(),(),(),(),(),((),())] by have hb:=(((BO.out.set 0 (I aA)).set 1 (I aB)).set 2 (.slice p1 a c1)).ext f;simpa only[aS5,aS1,aS2]using hb);have j:=xQ ((((BA.out.far (p:=⟨w.heap.size+1+1,0,none⟩) (by dsimp only;omega) (I aA)).far (p:=⟨w.heap.size+1+1,1,none⟩) (by dsimp only;omega) (I aB)).far (p:=⟨w.heap.size+1+1,2,none⟩) (by dsimp only;omega) (.slice p1 a c1)).ext f);have o:=xQ ((((BR.out.far (p:=⟨w.heap.size+1+1,0,none⟩) (by dsimp only;omega) (I aA)).far (p:=⟨w.heap.size+1+1,1,none⟩) (by dsimp only;omega) (I aB)).far (p:=⟨w.heap.size+1+1,2,none⟩) (by dsimp only;omega) (.slice p1 a c1)).ext f);have ad:=f.sz;simp only[World.size_setCell]at ad;have s:=xQ (aZ (cN (cN (cN r (by dsimp only;omega) _) (by dsimp only;omega) _) (by dsimp only;omega) _) f);have k:=xQ ((((t.out.setCell (p:=⟨w.heap.size+1+1,0,none⟩) (by dsimp only;omega) (I aA)).setCell (p:=⟨w.heap.size+1+1,1,none⟩) (by dsimp only;omega) (I aB)).setCell (p:=⟨w.heap.size+1+1,2,none⟩) (by dsimp only;omega) (.slice p1 a c1)).trans f);clear f BO BA BR r t;have a7:=j.out.cl 7;have a8:=j.out.cl 8;have a9:=j.out.cl 9;have o3:=d.out.cl 3;have o4:=d.out.cl 4;have o5:=d.out.cl 5;have o6:=d.out.cl 6;have o7:=d.out.cl 7;have o8:=d.out.cl 8;have aj:=d.out.frozen 3;have ak:=d.out.frozen 4;have al:=d.out.frozen 5;have am:=d.out.frozen 6;have an:=d.out.frozen 7;have ao:=d.out.frozen 8;go_wp2_with fail;clear a7 a8 a9 o3 aj o4 ak o5 al o6 am o7 an o8 ao
 refine(aB2 q _ c2 vs _ HM (HI.out.vs.ext ((((((k.out.setCell (p:=⟨w.heap.size+1+1,3,none⟩) (by dsimp only;omega) (I b)).setCell (p:=⟨w.heap.size+1+1,4,none⟩) (by dsimp only;omega) (I c)).setCell (p:=⟨w.heap.size+1+1,5,none⟩) (by dsimp only;omega) (I aD)).setCell (p:=⟨w.heap.size+1+1,6,none⟩) (by dsimp only;omega) (I aF)).setCell (p:=⟨w.heap.size+1+1,7,none⟩) (by dsimp only;omega) (I aC)).setCell (p:=⟨w.heap.size+1+1,8,none⟩) (by dsimp only;omega) (I aG)))).mono ?_;rintro e w3 ⟨q3,c3,rfl,x,i⟩;have l:=xQ (show Blk w3 (w.heap.size+1+1) 35 #[aA,aB,.slice p1 a c1,b,c,aD,aF,aC,aG,((),())] by have hb:=((((((d.out.set 3 (I b)).set 4 (I c)).set 5 (I aD)).set 6 (I aF)).set 7 (I aC)).set 8 (I aG)).ext i;simpa only[aS5,aS1,aS2]using hb);have y:=xQ (((((((o.out.far (p:=⟨w.heap.size+1+1,3,none⟩) (by dsimp only;omega) (I b)).far (p:=⟨w.heap.size+1+1,4,none⟩) (by dsimp only;omega) (I c)).far (p:=⟨w.heap.size+1+1,5,none⟩) (by dsimp only;omega) (I aD)).far (p:=⟨w.heap.size+1+1,6,none⟩) (by dsimp only;omega) (I aF)).far (p:=⟨w.heap.size+1+1,7,none⟩) (by dsimp only;omega) (I aC)).far (p:=⟨w.heap.size+1+1,8,none⟩) (by dsimp only;omega) (I aG)).ext i);have ae:=i.sz;simp only[World.size_setCell]at ae;have z:=xQ (aZ (cN (cN (cN (cN (cN (cN s (p:=⟨w.heap.size+1+1,3,none⟩) (by dsimp only;omega) (I b)) (p:=⟨w.heap.size+1+1,4,none⟩) (by dsimp only;omega) (I c)) (p:=⟨w.heap.size+1+1,5,none⟩) (by dsimp only;omega) (I aD)) (p:=⟨w.heap.size+1+1,6,none⟩) (by dsimp only;omega) (I aF)) (p:=⟨w.heap.size+1+1,7,none⟩) (by dsimp only;omega) (I aC)) (p:=⟨w.heap.size+1+1,8,none⟩) (by dsimp only;omega) (I aG)) i)
 have ab:=xQ (((((((k.out.setCell (p:=⟨w.heap.size+1+1,3,none⟩) (by dsimp only;omega) (I b)).setCell (p:=⟨w.heap.size+1+1,4,none⟩) (by dsimp only;omega) (I c)).setCell (p:=⟨w.heap.size+1+1,5,none⟩) (by dsimp only;omega) (I aD)).setCell (p:=⟨w.heap.size+1+1,6,none⟩) (by dsimp only;omega) (I aF)).setCell (p:=⟨w.heap.size+1+1,7,none⟩) (by dsimp only;omega) (I aC)).setCell (p:=⟨w.heap.size+1+1,8,none⟩) (by dsimp only;omega) (I aG)).trans i);have aa:=xQ (bJ x (B':=w.heap.size+3) (by simp only[World.size_setCell];omega));clear i x d j o s k;obtain⟨o0,o1,o2,o3,o4,o5,o6,o7,o8,o9⟩:=l.out.ten;have aq:=l.out.frozen 9;obtain⟨r0,ar,r1,au,r2,av,r3,aw,r4,ax,r5,ay,r6,az,r7,a0,r8,a1,r9,a2⟩:=y.out.tenf;go_wp2
 exact bodyPost_ret (v:= .agg #[aA,aB,.slice p1 a c1,b,c,aD,aF,aC,aG,.slice q3 vs c3]) (by simp[results,results7,go_sem, *]) rfl ⟨p1,c1,q3,c3,rfl,bJ (cN (cN (cN (cN (cN (cN (cN (cN (cN (cN (cN z (p:=⟨w.heap.size+1+1,9,none⟩) (by dsimp only;omega) (.slice q3 vs c3)) (p:=⟨w.heap.size+1,0,none⟩) (by dsimp only;omega) (I aA)) (p:=⟨w.heap.size+1,1,none⟩) (by dsimp only;omega) (I aB)) (p:=⟨w.heap.size+1,2,none⟩) (by dsimp only;omega) (.slice p1 a c1)) (p:=⟨w.heap.size+1,3,none⟩) (by dsimp only;omega) (I b)) (p:=⟨w.heap.size+1,4,none⟩) (by dsimp only;omega) (I c)) (p:=⟨w.heap.size+1,5,none⟩) (by dsimp only;omega) (I aD)) (p:=⟨w.heap.size+1,6,none⟩) (by dsimp only;omega) (I aF)) (p:=⟨w.heap.size+1,7,none⟩) (by dsimp only;omega) (I aC)) (p:=⟨w.heap.size+1,8,none⟩) (by dsimp only;omega) (I aG)) (p:=⟨w.heap.size+1,9,none⟩) (by dsimp only;omega) (.slice q3 vs c3)) (by omega),bJ (cN (cN (cN (cN (cN (cN (cN (cN (cN (cN (cN aa (p:=⟨w.heap.size+1+1,9,none⟩) (by dsimp only;omega) (.slice q3 vs c3)) (p:=⟨w.heap.size+1,0,none⟩) (by dsimp only;omega) (I aA)) (p:=⟨w.heap.size+1,1,none⟩) (by dsimp only;omega) (I aB)) (p:=⟨w.heap.size+1,2,none⟩) (by dsimp only;omega) (.slice p1 a c1)) (p:=⟨w.heap.size+1,3,none⟩) (by dsimp only;omega) (I b)) (p:=⟨w.heap.size+1,4,none⟩) (by dsimp only;omega) (I c)) (p:=⟨w.heap.size+1,5,none⟩) (by dsimp only;omega) (I aD)) (p:=⟨w.heap.size+1,6,none⟩) (by dsimp only;omega) (I aF)) (p:=⟨w.heap.size+1,7,none⟩) (by dsimp only;omega) (I aC)) (p:=⟨w.heap.size+1,8,none⟩) (by dsimp only;omega) (I aG)) (p:=⟨w.heap.size+1,9,none⟩) (by dsimp only;omega) (.slice q3 vs c3)) (by omega),(((((((((((ab.out.setCell (p:=⟨w.heap.size+1+1,9,none⟩) (by dsimp only;omega) (.slice q3 vs c3)).setCell (p:=⟨w.heap.size+1,0,none⟩) (by dsimp only;omega) (I aA)).setCell (p:=⟨w.heap.size+1,1,none⟩) (by dsimp only;omega) (I aB)).setCell (p:=⟨w.heap.size+1,2,none⟩) (by dsimp only;omega) (.slice p1 a c1)).setCell (p:=⟨w.heap.size+1,3,none⟩) (by dsimp only;omega) (I b)).setCell (p:=⟨w.heap.size+1,4,none⟩) (by dsimp only;omega) (I c)).setCell (p:=⟨w.heap.size+1,5,none⟩) (by dsimp only;omega) (I aD)).setCell (p:=⟨w.heap.size+1,6,none⟩) (by dsimp only;omega) (I aF)).setCell (p:=⟨w.heap.size+1,7,none⟩) (by dsimp only;omega) (I aC)).setCell (p:=⟨w.heap.size+1,8,none⟩) (by dsimp only;omega) (I aG)).setCell (p:=⟨w.heap.size+1,9,none⟩) (by dsimp only;omega) (.slice q3 vs c3))⟩
theorem aHt (aA aB:Int)(p q:OA)(n c1 c2:Nat)(xs:List Int)(w:World)(h1:Sl w p n c1 1 (ivs xs))(h2:Sl w q n c2 1 (ivs xs)):
  U 38 #[aH aA aB p n c1,aH aA aB q n c2] w (O (.bool true) w):=by
 have H1:=xQ h1;have H2:=xQ h2;clear h1 h2;go_enter func38,ntmps38;go_wp2_with fail;refine Z (aHs p q n c1 c2 xs _ (H1.out.ext xE) (H2.out.ext xE)) fun w1 hx=>?_
 go_wp2;go_ret;exact⟨rfl,xE⟩
theorem mV (h:aL)(p1:OA)(n c1:Nat)(q1:OA)(m d1:Nat)(p2:OA)(c2:Nat)(q2:OA)(d2:Nat)(w:World)(k:IsHouse w h p1 n c1 q1 m d1)(l:IsHouse w h p2 n c2 q2 m d2):
  U 9 #[bM h p1 n c1 q1 m d1,bM h p2 n c2 q2 m d2] w (O (.bool true) w):=by
 have H1:=xQ k;have H2:=xQ l;clear k l;obtain⟨aA,aB,j,a,b,aD,aF,aC,aG,vs⟩:=h;go_enter func9,ntmps9;go_wp2_with fail;refine Z (aHt aA aB p1 p2 n c1 c2 j _ (H1.out.cells.ext xE) (H2.out.cells.ext xE)) fun w1 d=>?_
 have BA:=xQ (((Blk.new w 35 #[aA,aB,.slice p1 n c1,a,b,aD,aF,aC,aG,.slice q1 m d1]).alloc (.cells #[aA,aB,.slice p2 n c2,a,b,aD,aF,aC,aG,.slice q2 m d2] 35)).ext d);have c:=xQ ((Blk.new (w.alloc (.cells #[aA,aB,.slice p1 n c1,a,b,aD,aF,aC,aG,.slice q1 m d1] 35)) 35 #[aA,aB,.slice p2 n c2,a,b,aD,aF,aC,aG,.slice q2 m d2]).ext d);simp only[aU8]at c;have o:Ext w w1:=(((Ext.refl w).alloc _).alloc _).trans d;have ha:w.heap.size+1<w1.heap.size:=aRo (by simp) d.sz;clear d;have a3:=BA.out.cl 3;have a4:=BA.out.cl 4;have a5:=BA.out.cl 5;have a6:=BA.out.cl 6;have b3:=c.out.cl 3;have b4:=c.out.cl 4;have b5:=c.out.cl 5;have b6:=c.out.cl 6;go_wp2_with fail;clear a3 a4 a5 a6 b3 b4 b5 b6;refine Z (aCn a b aD aF _) fun w2 f=>?_
 have p:Ext w w2:=o.trans f;have q:w.heap.size+1<w2.heap.size:=aRo ha f.sz;have g:=xQ (BA.out.ext f);have i:=xQ (c.out.ext f);clear f BA c;have a7:=g.out.cl 7;have a8:=g.out.cl 8;have a9:=g.out.cl 9;have b7:=i.out.cl 7;have b8:=i.out.cl 8;have b9:=i.out.cl 9;go_wp2_with fail;clear a7 a8 a9 b7 b8 b9;refine Z (aCm q1 q2 m d1 d2 vs _ (H1.out.vs.ext xE) (H2.out.vs.ext xE)) fun w3 r=>?_
 go_wp2;go_ret;exact⟨rfl,xE⟩
theorem RetHouse.is {h:aL}{w w':World}{p q:OA}{cap c2:Nat}(ho:w'.ownsRow w TI 1 (.slice p h.cells cap) h.cells.length (ivs h.cells))(hv:w'.ownsRow w TV 4 (.slice q h.vs c2) h.vs.length (h.vs.flatMap aE)):
  IsHouse w' h p h.cells.length cap q h.vs.length c2:=⟨Sl.own ho,Sl.own hv⟩
theorem aNt {W0 wr:World}{B:Nat}(hg:W0.grownBy wr (some B))(o:Nat)(v:Value):W0.grownBy (wr.setCell ⟨B,o,none⟩ v) (some B):=
 ⟨hg.os,hg.tape,hg.output,by simpa using hg.size,fun k hk hne=>by rw[aU3 _ _ _ _ (fun e=>hne (by simp[e]))];exact hg.block k hk hne⟩
def ChgE (e:TypeId)(B T:Nat)(w w':World):Prop:= ∃row,w.grownBy w' row∧ ∀g,row=some g→B≤g∧g<T∧ ∃cur,w.heap[g]? =some (.cells cur e (0,0))
theorem ChgE.chg {e:TypeId}{B T:Nat}{w w':World}(h:ChgE e B T w w'):Chg B T w w':=by obtain⟨a,hg,hr⟩:=h;exact Chg.of_grown hg (fun g e=>⟨(hr g e).1,(hr g e).2.1⟩)
theorem ChgE.refl (e:TypeId)(B T:Nat)(w:World):ChgE e B T w w:=⟨none,aSv _ _,fun g h=>by cases h⟩
theorem Blk.chg {w w':World}{g B T:Nat}{t:TypeId}{cs:Array Value}(h:Blk w g t cs)(hc:Chg B T w w')(hd:g<B∨T≤g):Blk w' g t cs:=(hc.block g h.lt hd).trans h
theorem OwnT.held {w:World}{B T n cap:Nat}{e:TypeId}{sz:Nat}{p:OA}{K:Int}(h:OwnT w B T e sz p n cap (bE K (n*sz)))(hn:0<n):
  ∃g,p=some ⟨g,0,none⟩∧ ∀j,j<n*sz→w.cell? ⟨g,0+j,none⟩=some (I (K+j)):=by
 rcases h.2 with⟨rfl,_⟩|⟨h2,_⟩
 ·omega
 rcases h2.2 with⟨_,h3⟩|⟨g,cap',cur,h1,hb,hg,hn,hm,hs,ht⟩
 ·omega
 injection h1 with e1 e2 e3;refine⟨g,e1,fun j hj=> ?_⟩;subst e1;rw[aSs,h2.cellAt j hj];exact mZ _ _ _ hj
theorem aBu (g n cap base:Nat)(xs:List Value)(K0:Int)(w:World)(q:n≤1099511627776)(h0:0≤K0)(h1:K0≤4611686018427387904)
  (HO:Hid (w.ownsRow base TI 1 (.slice (some ⟨g,0,none⟩) n cap) n xs)):
  U 96 #[.slice (some ⟨g,0,none⟩) n cap,K0] w fun e w'=>e= .returned (I (K0+(n*1:Nat)))∧w'.ownsRow base TI 1 (.slice (some ⟨g,0,none⟩) n cap) n (bE K0 (n*1))∧w.grownBy w' (some g):=by
 go_enter func96,ntmps96;go_wp2;go_loopw [1,5] (fun kk i wr=> ∃(k:Nat) (K:Int) (rest:List Value),k≤n∧kk=I K∧i=I k∧K=K0+(k*1:Nat)∧rest.length=(n-k)*1∧wr.ownsRow base TI 1 (.slice (some ⟨g,0,none⟩) n cap) n (bE K0 (k*1)++rest)∧w.grownBy wr (some g)) (fun _ i _=>n-(intOf i).toNat)
 case atStart=>exact⟨0,K0,xs,aRv _,rfl,rfl,by simp,by rw[HO.out.1];simp,by simpa[bE]using HO.out,aSv _ _⟩
 case round=>
  obtain⟨k,K,rest,hk,rfl,rfl,hK,j,d,hg⟩:=hrel;have o:0≤K:=by omega
  have p:K≤4611697013543665664:=by omega
  have HK:=xQ hK;have b:=xQ d;have f:=xQ j;have HG:=xQ hg;clear hK d j hg;by_cases hlt:k<n
  ·obtain⟨r0,rest',a⟩: ∃r0 rest',rest=r0::rest':=by
    have h3:1≤rest.length:=by rw[f.out];have:=aSj 1 (show 1≤n-k by omega);omega
    match rest,h3 with
    |r0::rest',_=>exact⟨r0,rest',rfl⟩
   have h:(bE K0 (k*1)).length=k*1:=iR _ _;have o0:wr.cell? ⟨g,k,none⟩=some r0:=by rw[b.out.cellAt _ (by have:=aSj 1 hlt;rw[aT2]at this;omega),a,aS3 (by omega),h];simp
   have f0:wr.frozen? ⟨g,k,none⟩=false:=b.out.frozenAt _;have m:=xQ h;have c:=xQ a;clear h a;go_wp2;go_roundw
   case rel=>
    refine⟨k+1,K+1,rest',by omega,by go_num,by go_num,by rw[HK.out];omega,?_,?_,?_⟩
    ·have:=f.out;rw[c.out]at this;simp only[aSo]at this;have e2:n-k=(n-(k+1))+1:=by omega
     rw[e2,aT2]at this;omega
    ·have hs:=(b.out.stored (k) (I (K))).1;have e:((bE K0 (k*1)++rest).set (k) (I (K)))=bE K0 ((k+1)*1)++rest':=by
      rw[aE2,c.out,←HK.out];have:=m.out;try simp only[Nat.mul_one]at this
      simp[this]
     rw[e]at hs;exact hs
    exact(aNt HG _ _)
   case measure=>simp[intOf];omega
  obtain rfl:k=n:=by omega
  have e2:rest= []:=aSb (by rw[f.out];simp);have l:=xQ e2;clear e2;go_wp2;go_ret;refine⟨dV (by simpa using HK.out),?_,HG.out⟩;have:=b.out;rw[l.out]at this;simpa using this
theorem aBt (p:OA)(cap:Nat)(K0:Int)(w:World):
  U 96 #[.slice p 0 cap,K0] w fun e w'=>e= .returned (I K0)∧w=w':=by
 go_enter func96,ntmps96;go_wp2;go_rounds 1;go_ret;exact⟨rfl,rfl⟩
theorem aCi (b c n cap:Nat)(K0:Int)(w:World)(g:n≤1099511627776)(h0:0≤K0)(h1:K0≤4611686018427387904)
  (HR:Hid (∀j,j<n*1→w.cell? ⟨b,c+j,none⟩=some (I (K0+j)))):
  U 97 #[.slice (some ⟨b,c,none⟩) n cap,K0] w fun e w'=>e= .returned (I (K0+(n*1:Nat)))∧w=w':=by
 go_enter func97,ntmps97;go_wp2;go_loop [1,5] (fun kk i=> ∃(k:Nat) (K:Int),k≤n∧kk=I K∧i=I k∧K=K0+(k*1:Nat)) (fun _ i=>n-(intOf i).toNat)
 case atStart=>exact⟨0,K0,aRv _,rfl,rfl,by simp⟩
 case round=>
  obtain⟨k,K,hk,rfl,rfl,hK⟩:=hrel;have d:0≤K:=by omega
  have f:K≤4611697013543665664:=by omega
  by_cases hlt:k<n
  ·have a:=aSj 1 hlt;rw[aT2]at a;have v0:w.cell? ⟨b,c+k,none⟩=some (I (K)):=by have:=HR (k) (by omega);rw[show(K:Int)=K0+((k:Nat):Int) by omega];exact this
   have HK:=xQ hK;clear hK a;go_wp2;go_round
   case rel=>exact⟨k+1,K+1,by omega,by go_num,by go_num,by rw[HK.out];omega⟩
   case measure=>simp[intOf];omega
  obtain rfl:k=n:=by omega
  have HK:=xQ hK;clear hK;go_wp2;go_ret;exact⟨dV (by simpa using HK.out),rfl⟩
theorem aCh (p:OA)(cap:Nat)(K0:Int)(w:World):
  U 97 #[.slice p 0 cap,K0] w fun e w'=>e= .returned (I K0)∧w=w':=by
 go_enter func97,ntmps97;go_wp2;go_rounds 1;go_ret;exact⟨rfl,rfl⟩
theorem xI (g n cap base:Nat)(xs:List Value)(K0:Int)(w:World)(q:n≤1099511627776)(h0:0≤K0)(h1:K0≤4611686018427387904)
  (HO:Hid (w.ownsRow base TV 4 (.slice (some ⟨g,0,none⟩) n cap) n xs)):
  U 42 #[.slice (some ⟨g,0,none⟩) n cap,K0] w fun e w'=>e= .returned (I (K0+(n*4:Nat)))∧w'.ownsRow base TV 4 (.slice (some ⟨g,0,none⟩) n cap) n (bE K0 (n*4))∧w.grownBy w' (some g):=by
 go_enter func42,ntmps42;go_wp2;go_loopw [1,5] (fun kk i wr=> ∃(k:Nat) (K:Int) (rest:List Value),k≤n∧kk=I K∧i=I k∧K=K0+(k*4:Nat)∧rest.length=(n-k)*4∧wr.ownsRow base TV 4 (.slice (some ⟨g,0,none⟩) n cap) n (bE K0 (k*4)++rest)∧w.grownBy wr (some g)) (fun _ i _=>n-(intOf i).toNat)
 case atStart=>exact⟨0,K0,xs,aRv _,rfl,rfl,by simp,by rw[HO.out.1];simp,by simpa[bE]using HO.out,aSv _ _⟩
 case round=>
  obtain⟨k,K,rest,hk,rfl,rfl,hK,j,f,hg⟩:=hrel;have o:0≤K:=by omega
  have p:K≤4611697013543665664:=by omega
  have HK:=xQ hK;have a:=xQ f;have h:=xQ j;have HG:=xQ hg;clear hK f j hg;by_cases hlt:k<n
  ·obtain⟨r0,r1,r2,r3,rest',b⟩: ∃r0 r1 r2 r3 rest',rest=r0::r1::r2::r3::rest':=by
    have h3:4≤rest.length:=by rw[h.out];have:=aSj 4 (show 1≤n-k by omega);omega
    match rest,h3 with
    |r0::r1::r2::r3::rest',_=>exact⟨r0,r1,r2,r3,rest',rfl⟩
   have c:(bE K0 (k*4)).length=k*4:=iR _ _;have o0:wr.cell? ⟨g,k*4,none⟩=some r0:=by rw[a.out.cellAt _ (by have:=aSj 4 hlt;rw[aT2]at this;omega),b,aS3 (by omega),c];simp
   have f0:wr.frozen? ⟨g,k*4,none⟩=false:=a.out.frozenAt _;have o1:wr.cell? ⟨g,k*4+1,none⟩=some r1:=by rw[a.out.cellAt _ (by have:=aSj 4 hlt;rw[aT2]at this;omega),b,aS3 (by omega),c];simp
   have f1:wr.frozen? ⟨g,k*4+1,none⟩=false:=a.out.frozenAt _;have o2:wr.cell? ⟨g,k*4+2,none⟩=some r2:=by rw[a.out.cellAt _ (by have:=aSj 4 hlt;rw[aT2]at this;omega),b,aS3 (by omega),c];simp
   have f2:wr.frozen? ⟨g,k*4+2,none⟩=false:=a.out.frozenAt _;have o3:wr.cell? ⟨g,k*4+3,none⟩=some r3:=by rw[a.out.cellAt _ (by have:=aSj 4 hlt;rw[aT2]at this;omega),b,aS3 (by omega),c];simp
   have f3:wr.frozen? ⟨g,k*4+3,none⟩=false:=a.out.frozenAt _;have m:=xQ c;have d:=xQ b;clear c b;go_wp2;go_roundw
   case rel=>
    refine⟨k+1,K+1+1+1+1,rest',by omega,by go_num,by go_num,by rw[HK.out];omega,?_,?_,?_⟩
    ·have:=h.out;rw[d.out]at this;simp only[aSo]at this;have e2:n-k=(n-(k+1))+1:=by omega
     rw[e2,aT2]at this;omega
    ·have hs:=((((a.out.stored (k*4) (I (K))).1.stored (k*4+1) (I (K+1))).1.stored (k*4+2) (I (K+1+1))).1.stored (k*4+3) (I (K+1+1+1))).1;have e:(((((bE K0 (k*4)++rest).set (k*4) (I (K))).set (k*4+1) (I (K+1))).set (k*4+2) (I (K+1+1))).set (k*4+3) (I (K+1+1+1)))=bE K0 ((k+1)*4)++rest':=by
      rw[aE1,d.out,←HK.out];have:=m.out;try simp only[Nat.mul_one]at this
      simp[this]
     rw[e]at hs;exact hs
    exact(aNt (aNt (aNt (aNt HG _ _) _ _) _ _) _ _)
   case measure=>simp[intOf];omega
  obtain rfl:k=n:=by omega
  have e2:rest= []:=aSb (by rw[h.out];simp);have l:=xQ e2;clear e2;go_wp2;go_ret;refine⟨dV (by simpa using HK.out),?_,HG.out⟩;have:=a.out;rw[l.out]at this;simpa using this
theorem xH (p:OA)(cap:Nat)(K0:Int)(w:World):
  U 42 #[.slice p 0 cap,K0] w fun e w'=>e= .returned (I K0)∧w=w':=by
 go_enter func42,ntmps42;go_wp2;go_rounds 1;go_ret;exact⟨rfl,rfl⟩
theorem yB (b a n cap:Nat)(K0:Int)(w:World)(g:n≤1099511627776)(h0:0≤K0)(h1:K0≤4611686018427387904)
  (HR:Hid (∀j,j<n*4→w.cell? ⟨b,a+j,none⟩=some (I (K0+j)))):
  U 44 #[.slice (some ⟨b,a,none⟩) n cap,K0] w fun e w'=>e= .returned (I (K0+(n*4:Nat)))∧w=w':=by
 go_enter func44,ntmps44;go_wp2;go_loop [1,5] (fun kk i=> ∃(k:Nat) (K:Int),k≤n∧kk=I K∧i=I k∧K=K0+(k*4:Nat)) (fun _ i=>n-(intOf i).toNat)
 case atStart=>exact⟨0,K0,aRv _,rfl,rfl,by simp⟩
 case round=>
  obtain⟨k,K,hk,rfl,rfl,hK⟩:=hrel;have d:0≤K:=by omega
  have f:K≤4611697013543665664:=by omega
  by_cases hlt:k<n
  ·have c:=aSj 4 hlt;rw[aT2]at c;have v0:w.cell? ⟨b,a+k*4,none⟩=some (I (K)):=by have:=HR (k*4) (by omega);rw[show(K:Int)=K0+((k*4:Nat):Int) by omega];exact this
   have v1:w.cell? ⟨b,a+k*4+1,none⟩=some (I (K+1)):=by have:=HR (k*4+1) (by omega);rw[show(K+1:Int)=K0+((k*4+1:Nat):Int) by omega];exact this
   have v2:w.cell? ⟨b,a+k*4+2,none⟩=some (I (K+1+1)):=by have:=HR (k*4+2) (by omega);rw[show(K+1+1:Int)=K0+((k*4+2:Nat):Int) by omega];exact this
   have v3:w.cell? ⟨b,a+k*4+3,none⟩=some (I (K+1+1+1)):=by have:=HR (k*4+3) (by omega);rw[show(K+1+1+1:Int)=K0+((k*4+3:Nat):Int) by omega];exact this
   have HK:=xQ hK;clear hK c;go_wp2;go_round
   case rel=>exact⟨k+1,K+1+1+1+1,by omega,by go_num,by go_num,by rw[HK.out];omega⟩
   case measure=>simp[intOf];omega
  obtain rfl:k=n:=by omega
  have HK:=xQ hK;clear hK;go_wp2;go_ret;exact⟨dV (by simpa using HK.out),rfl⟩
theorem yA (p:OA)(cap:Nat)(K0:Int)(w:World):
  U 44 #[.slice p 0 cap,K0] w fun e w'=>e= .returned (I K0)∧w=w':=by
 go_enter func44,ntmps44;go_wp2;go_rounds 1;go_ret;exact⟨rfl,rfl⟩
theorem ChgE.pre {e:TypeId}{B T:Nat}{w a w':World}(h:ChgE e B T a w')(hx:Ext w a)(hT:T≤w.heap.size):ChgE e B T w w':=by obtain⟨c,hg,hr⟩:=h;refine⟨c,⟨hg.os.trans hx.os,hg.tape.trans hx.tape,hg.output.trans hx.output,aRz hx.size hg.size,fun i hi hne=>(hg.block i (aRo hi hx.size) hne).trans (hx.block i hi)⟩,fun g e=> ?_⟩;obtain⟨h1,h2,b,h3⟩:=hr g e;exact⟨h1,h2,b,by rw[←hx.block g (by omega)];exact h3⟩
end
def eS (val:Int)(s:List Int×List Nat)(v:Nat):List Int×List Nat:=
 if s.1.getD v 0<0 then(s.1.set v val,s.2++ [v])else s
def bQ (val:Int)(s:List Int×List Nat)(vs:List Nat):List Int×List Nat:=vs.foldl (eS val) s
theorem eD (a:Int)(s:List Int×List Nat)(vs:List Nat)(v:Nat):bQ a s (vs++ [v])=eS a (bQ a s vs) v:=by simp[bQ]
def oQ (adj:Nat→List Nat)(src:List Nat):Nat→Nat→Prop
 |0,v=>v∈src
 |d+1,v=> ∃u,oQ adj src d u∧v∈adj u
structure Inv (adj:Nat→List Nat) (src:List Nat) (N k:Nat) (s:List Int×List Nat):Prop where
 len:s.1.length=N
 bd: ∀v∈s.2,v<N
 mem: ∀v,v<N→(0≤s.1.getD v 0↔v∈s.2)
 nodup:s.2.Nodup
 mono:s.2.Pairwise (fun a b=>s.1.getD a 0≤s.1.getD b 0)
 near: ∀u,s.2[k]? =some u→ ∀v∈s.2,s.1.getD v 0≤s.1.getD u 0+1
 sound: ∀v∈s.2,oQ adj src (s.1.getD v 0).toNat v
 src: ∀v∈src,v∈s.2∧s.1.getD v 0=0
 done: ∀i u,i<k→s.2[i]? =some u→ ∀v∈adj u,v∈s.2∧s.1.getD v 0≤s.1.getD u 0+1
structure Mid (adj:Nat→List Nat) (src:List Nat) (N k u:Nat) (ws:List Nat) (s0 s:List Int×List Nat):Prop where
 len:s.1.length=N
 bd: ∀v∈s.2,v<N
 mem: ∀v,v<N→(0≤s.1.getD v 0↔v∈s.2)
 nodup:s.2.Nodup
 mono:s.2.Pairwise (fun a b=>s.1.getD a 0≤s.1.getD b 0)
 near: ∀v∈s.2,s.1.getD v 0≤s.1.getD u 0+1
 sound: ∀v∈s.2,oQ adj src (s.1.getD v 0).toNat v
 pre: ∃r,s.2=s0.2++r
 same: ∀v∈s0.2,s.1.getD v 0=s0.1.getD v 0
 seen: ∀v∈ws,v∈s.2
theorem cJ {l:List Int}{v:Nat}{x:Int}(h:v<l.length):(l.set v x).getD v 0=x:=by simp[List.getD,h]
theorem bR {l:List Int}{v w:Nat}{x:Int}(h:v≠w):(l.set v x).getD w 0=l.getD w 0:=by simp[List.getD,aTm h]
theorem Mid.step {adj:Nat→List Nat}{src:List Nat}{N k u w:Nat}{ws:List Nat}{s0 s:List Int×List Nat}(h:Mid adj src N k u ws s0 s)(hu:u∈s0.2)(hw:w∈adj u)(i:w<N)(f:s0.1.getD u 0=s.1.getD u 0):
  Mid adj src N k u (ws++ [w]) s0 (eS (s0.1.getD u 0+1) s w):=by
 have g:u∈s.2:=by obtain⟨r,hr⟩:=h.pre;rw[hr];exact aSr _ hu
 have n:0≤s.1.getD u 0:=(h.mem u (h.bd u g)).2 g;unfold eS;by_cases hc:s.1.getD w 0<0
 ·rw[if_pos hc];have j:w∉s.2:=fun hm=>by have:=(h.mem w i).2 hm;omega
  have d: ∀v∈s.2,w≠v:=fun v hv e=>j (by rw[e];exact hv)
  have m:w<s.1.length:=by rw[h.len];exact i
  have c:=cJ (x:=s0.1.getD u 0+1) m;refine⟨by simp[h.len],?_,?_,?_,?_,?_,?_,?_,?_,?_⟩
  ·intro v hv;rcases aSa.1 hv with hv|hv
   ·exact h.bd v hv
   simp at hv;rw[hv];exact i
  ·intro v hv;by_cases e:w=v
   ·subst e;dsimp only;rw[c];exact⟨fun _=>by simp,fun _=>by omega⟩
   dsimp only;rw[bR e,h.mem v hv];simp;intro e2;exact absurd e2.symm e
  ·dsimp only;rw[List.nodup_append];refine⟨h.nodup,by simp,fun a ha b hb=> ?_⟩;simp at hb;subst hb;exact fun e=>j (by rw[←e];exact ha)
  ·dsimp only;rw[List.pairwise_append];refine⟨?_,by simp,?_⟩
   ·refine h.mono.imp_of_mem ?_;intro a b ha hb l;rw[bR (d a ha),bR (d b hb)];exact l
   intro a ha b hb;simp at hb;subst hb;rw[c,bR (d a ha),f];exact h.near a ha
  ·intro v hv;dsimp only at hv⊢;rw[bR (d u g)];rcases aSa.1 hv with hv|hv
   ·rw[bR (d v hv)];exact h.near v hv
   simp at hv;subst hv;rw[c,f];exact Int.le_refl _
  ·intro v hv;dsimp only at hv⊢;rcases aSa.1 hv with hv|hv
   ·rw[bR (d v hv)];exact h.sound v hv
   simp at hv;subst hv;rw[c,f];have e:(s.1.getD u 0+1).toNat=(s.1.getD u 0).toNat+1:=by omega
   rw[e];exact⟨u,h.sound u g,hw⟩
  ·obtain⟨r,hr⟩:=h.pre;exact⟨r++ [w],by dsimp only;rw[hr,List.append_assoc]⟩
  ·intro v hv;have:v∈s.2:=by obtain⟨r,hr⟩:=h.pre;rw[hr];exact aSr _ hv
   dsimp only;rw[bR (d v this)];exact h.same v hv
  intro v hv;dsimp only;rcases aSa.1 hv with hv|hv
  ·exact aSr _ (h.seen v hv)
  simp at hv;subst hv;simp
 rw[if_neg hc]
 exact⟨h.len,h.bd,h.mem,h.nodup,h.mono,h.near,h.sound,h.pre,h.same,fun v hv=>by
  rcases aSa.1 hv with hv|hv
  ·exact h.seen v hv
  ·simp at hv;subst hv;exact(h.mem v i).1 (by omega)⟩
theorem Inv.mid {adj:Nat→List Nat}{src:List Nat}{N k u:Nat}{s:List Int×List Nat}(h:Inv adj src N k s)(hu:s.2[k]? =some u):Mid adj src N k u [] s s:=
 ⟨h.len,h.bd,h.mem,h.nodup,h.mono,h.near u hu,h.sound,⟨[],by simp⟩,fun _ _=>rfl,fun v hv=>by cases hv⟩
theorem Mid.many {adj:Nat→List Nat}{src:List Nat}{N k u:Nat}{s0:List Int×List Nat}(hu:u∈s0.2): ∀(vs ws:List Nat) (s:List Int×List Nat),Mid adj src N k u ws s0 s→(∀v∈vs,v∈adj u∧v<N)→Mid adj src N k u (ws++vs) s0 (bQ (s0.1.getD u 0+1) s vs):=by
 intro vs;induction vs with
 |nil=>intro ws s h _;simpa[bQ]using h
 |cons v vs ih=>intro ws s h hv;have h1:=h.step hu (hv v (by simp)).1 (hv v (by simp)).2 (h.same u hu).symm;have:=ih (ws++ [v]) _ h1 (fun x hx=>hv x (by simp[hx]));simpa[bQ]using this
theorem Inv.step {adj:Nat→List Nat}{src:List Nat}{N k u:Nat}{s:List Int×List Nat}(h:Inv adj src N k s)(hu:s.2[k]? =some u) (ha: ∀v∈adj u,v<N):Inv adj src N (k+1) (bQ (s.1.getD u 0+1) s (adj u)):=by
 have n:u∈s.2:=aRs hu;have m:=Mid.many n (adj u) [] s (h.mid hu) (fun v hv=>⟨hv,ha v hv⟩);rw[aTa]at m;obtain⟨r,hr⟩:=m.pre;have hk:k<s.2.length:=(aRt.1 hu).1;refine⟨m.len,m.bd,m.mem,m.nodup,m.mono,?_,m.sound,?_,?_⟩
 ·intro u' c v hv;have h1:=m.near v hv;have o:(bQ (s.1.getD u 0+1) s (adj u)).1.getD u 0≤(bQ (s.1.getD u 0+1) s (adj u)).1.getD u' 0:=by
   obtain⟨g,e'⟩:=aRt.1 c;have l:(bQ (s.1.getD u 0+1) s (adj u)).2[k]? =some u:=by rw[hr,aS8 hk];exact hu
   obtain⟨j,e2⟩:=aRt.1 l;have:=List.pairwise_iff_getElem.1 m.mono k (k+1) j g (by omega);rw[e',e2]at this;exact this
  omega
 ·intro v hv;obtain⟨a,b⟩:=h.src v hv;exact⟨by rw[hr];exact aSr _ a,by rw[m.same v a];exact b⟩
 intro i u' hi c v hv;by_cases hik:i<k
 ·have f:i<s.2.length:=by omega
  rw[hr,aS8 f]at c;obtain⟨a,b⟩:=h.done i u' hik c v hv;have d:u'∈s.2:=aRs c;exact⟨by rw[hr];exact aSr _ a,by rw[m.same v a,m.same u' d];exact b⟩
 obtain rfl:i=k:=by omega
 rw[hr,aS8 hk,hu]at c;injection c with c;subst c;have e:=m.seen v hv;exact⟨e,m.near v e⟩
theorem pB: ∀ {N:Nat} {l:List Nat},l.Nodup→(∀v∈l,v<N)→l.length≤N:=by
 intro N;induction N with
 |zero=>
  intro l _ hb;cases l with
  |nil=>simp
  |cons a l=>exact absurd (hb a (by simp)) (by omega)
 |succ N ih=>
  intro l h hb
  have h1:=ih (h.erase N) (fun v hv=>by
   have:=h.mem_erase_iff.1 hv;have:=hb v this.2
   omega)
  rw[List.length_erase]at h1;split at h1<;>omega
theorem Inv.qlen {adj:Nat→List Nat}{src:List Nat}{N k:Nat}{s:List Int×List Nat}(h:Inv adj src N k s):s.2.length≤N:=pB h.nodup h.bd
theorem Inv.far {adj:Nat→List Nat}{src:List Nat}{N k:Nat}{s:List Int×List Nat}(h:Inv adj src N k s)(hk:s.2.length≤k): ∀d v,oQ adj src d v→v∈s.2∧s.1.getD v 0≤d:=by
 intro d;induction d with
 |zero=>intro v hv;obtain⟨a,b⟩:=h.src v hv;exact⟨a,by omega⟩
 |succ d ih=>rintro v ⟨u,hu,hv⟩;obtain⟨a,b⟩:=ih u hu;obtain⟨i,hi,e⟩:=aT5 a;obtain⟨c1,c2⟩:=h.done i u (by omega) (by rw[aRq hi,e]) v hv;exact⟨c1,by omega⟩
structure tG (adj:Nat→List Nat) (src:List Nat) (N:Nat) (D:List Int):Prop where
 len:D.length=N
 zero: ∀v,v<N→(D.getD v 0=0↔v∈src)
 edge: ∀u v,u<N→0≤D.getD u 0→v∈adj u→0≤D.getD v 0∧D.getD v 0≤D.getD u 0+1
 back: ∀v,v<N→0<D.getD v 0→ ∃u,u<N∧v∈adj u∧D.getD u 0=D.getD v 0-1
theorem Inv.dist {adj:Nat→List Nat}{src:List Nat}{N k:Nat}{s:List Int×List Nat}(h:Inv adj src N k s)(hk:s.2.length≤k):tG adj src N s.1:=by
 have hb: ∀v,v<N→0<s.1.getD v 0→ ∃u,u∈s.2∧v∈adj u∧s.1.getD u 0=s.1.getD v 0-1:=by
  intro v hv h0;have f:=(h.mem v hv).1 (by omega);have hw:=h.sound v f;obtain⟨d,hd⟩: ∃d,(s.1.getD v 0).toNat=d+1:=⟨(s.1.getD v 0).toNat-1,by omega⟩
  rw[hd]at hw;obtain⟨u,hu,g⟩:=hw;obtain⟨a,b⟩:=h.far hk d u hu;obtain⟨i,hi,e⟩:=aT5 a;obtain⟨_,c⟩:=h.done i u (by omega) (by rw[aRq hi,e]) v g;exact⟨u,a,g,by omega⟩
 refine⟨h.len,?_,?_,?_⟩
 ·intro v hv;constructor
  ·intro e;have f:=(h.mem v hv).1 (by omega);have:=h.sound v f;rw[e]at this;exact this
  intro hm;exact(h.src v hm).2
 ·intro u v hu h0 hv;have j:=(h.mem u hu).1 h0;obtain⟨i,hi,e⟩:=aT5 j;obtain⟨a,b⟩:=h.done i u (by omega) (by rw[aRq hi,e]) v hv;exact⟨(h.mem v (h.bd v a)).2 a,b⟩
 intro v hv h0;obtain⟨u,a,b,c⟩:=hb v hv h0;exact⟨u,h.bd u a,b,c⟩
def qT (a b:Int):Int:=max (a-b) (b-a)
def aX (aA a b:Int):Int:=qT (a%aA) (b%aA)+qT (a/aA) (b/aA)
def aS (aA:Int)(n a:Nat):List Nat:=(List.range n).filter (fun b=>decide (aX aA a b=1))
theorem aAm (a b:Int):qT a b=qT b a:=by unfold qT;omega
theorem yN (aA a b:Int):aX aA a b=aX aA b a:=by unfold aX;rw[aAm (a%aA),aAm (a/aA)]
theorem bU {aA:Int}{n a b:Nat}:b∈aS aA n a↔b<n∧aX aA a b=1:=by simp[aS]
theorem gE {aA:Int}{n a b:Nat}(ha:a<n)(h:b∈aS aA n a):a∈aS aA n b:=by rw[bU]at h⊢;exact⟨ha,by rw[yN];exact h.2⟩
section
open Go.RowKit Go.Proofs.Tryz
def fP (f:Nat→Bool):Nat→List Int
 |0=> []
 |k+1=>fP f k++(if f k then [(k:Int)]else [])
theorem aDn (f:Nat→Bool)(k:Nat)(x:Int):x∈fP f k↔ ∃j:Nat,j<k∧f j=true∧x=(j:Int):=by
 induction k with
 |zero=>simp[fP]
 |succ k ih=>
  unfold fP;rw[aSa,ih];constructor
  ·rintro(⟨j,h1,h2,h3⟩|h)
   ·exact⟨j,by omega,h2,h3⟩
   by_cases hf:f k=true
   ·rw[if_pos hf]at h;simp at h;exact⟨k,by omega,hf,h⟩
   rw[if_neg hf]at h;simp at h
  rintro⟨j,h1,h2,h3⟩;by_cases hj:j<k
  ·exact .inl ⟨j,hj,h2,h3⟩
  obtain rfl:j=k:=by omega
  right;rw[if_pos h2];simpa using h3
def cX (xs:List Int)(k:Nat):Bool:=xs[k]? ==some 0
def mS (xs:List Int):List Int:=fP (cX xs) xs.length
theorem aAk (xs:List Int):mS xs= []↔(0:Int)∉xs:=by
 rw[List.eq_nil_iff_forall_not_mem];constructor
 ·intro h hm;obtain⟨k,hk,e⟩:=aT5 hm;exact h (k:Int) ((aDn _ _ _).2 ⟨k,hk,by simp[cX,hk,e],rfl⟩)
 intro h x hx;obtain⟨j,h1,h2,h3⟩:=(aDn _ _ _).1 hx;simp[cX,h1]at h2;exact h (by rw[←h2];exact List.getElem_mem h1)
theorem sH {wr w2:World}{B o n:Nat}{v u:Value}{xs:List Value}{ob:Obj}(ho:wr.ownsRow (B+1) TI 1 v n xs)(hg:(wr.alloc ob).grownBy w2 v.ownBlock)(hb:B<wr.heap.size)(hc:wr.cell? ⟨B,o,none⟩=some u):w2.cell? ⟨B,o,none⟩=some u:=by rw[World.cell?_of_block (w:=wr.alloc ob) (hg.block B (by simp;omega) (fun e=>by have:=ho.lt B e.symm;omega))];rw[((Ext.refl wr).alloc ob).cells.1 B o hb];exact hc
theorem aG0 (aA aB:Int)(p:OA)(n cap:Nat)(w:World)(HV:xB 48 #[aH aA aB p n cap] w false):
  U 144 #[aH aA aB p n cap] w (bA [] w):=by
 go_enter func144,ntmps144;go_wp2_with fail;refine Z (HV _ (by exact .alloc (.alloc (.refl _) _) _)) fun w1 h1=>?_
 have ho:((w.alloc (.cells #[aA,aB,.slice p n cap] 31)).alloc (.cells #[] TI)).ownsRow (w.heap.size+1) TI 1 (.slice (some ⟨(w.alloc (.cells #[aA,aB,.slice p n cap] 31)).heap.size,0,none⟩) 0 0) 0 []:=aSw _ #[] 0 (by simp) (by simp[maxLen]) rfl;have a:=xQ (aZ ho h1);clear ho;go_wp2;go_ret;exact dG (xs:= []) rfl (by simpa using bJ a (Nat.le_succ _)) (by exact .trans (.alloc (.alloc (.refl _) _) _) h1)
theorem aJl (aA aB:Int)(p:OA)(n cap:Nat)(xs:List Int)(w:World)(hn:n≤12)(HS:Hid (Sl w p n cap 1 (ivs xs)))(HV:xB 48 #[aH aA aB p n cap] w true):
  U 144 #[aH aA aB p n cap] w (bA (mS xs) w):=by
 have hl:=xQ HS.out.ilen;go_enter func144,ntmps144;go_wp2_with fail;refine Z (HV _ (by exact .alloc (.alloc (.refl _) _) _)) fun w1 h1=>?_
 have ho:((w.alloc (.cells #[aA,aB,.slice p n cap] 31)).alloc (.cells #[] TI)).ownsRow (w.heap.size+1) TI 1 (.slice (some ⟨(w.alloc (.cells #[aA,aB,.slice p n cap] 31)).heap.size,0,none⟩) 0 0) 0 []:=aSw _ #[] 0 (by simp) (by simp[maxLen]) rfl;have r:=xQ (aZ ho h1);clear ho;have aa:(w:Nat)<w1:=aRo (by first|(simp;omega)|simp) h1.sz;have eb:w1.cell? ⟨w,2,none⟩=some (.slice p n cap):=by rw[h1.cells.1 _ _ (by first|(simp;done)|(simp;omega))];simp
 have z:Ext w w1:=by exact .trans (.alloc (.alloc (.refl _) _) _) h1
 go_wp2;go_loopw [3,4] (fun v i wr=> ∃(k:Nat) (q:OA) (m c:Nat),k≤n∧i=I k∧v= .slice q m c∧m≤k∧wr.ownsRow (w.heap.size+1) TI 1 (.slice q m c) m (ivs (fP (cX xs) k))∧Ext w wr∧wr.cell? ⟨w,2,none⟩=some (.slice p n cap)∧w.heap.size<wr.heap.size) (fun _ i _=>n-(intOf i).toNat)
 case atStart=>exact⟨0,_,0,0,aRv _,rfl,rfl,aRp _,by simpa[fP]using r.out,z,eb,aa⟩
 case round=>
  obtain⟨k,q,m,c,hk,rfl,rfl,ab,h,f,ec,j⟩:=hrel;have HO:=xQ h;clear h;by_cases hlt:k<n
  ·obtain⟨b,ad,x,rfl,hx,hb,y⟩:=(HS.out.ext f).int_at hlt;have HX:=xQ hx;clear hx;by_cases hx0:x=0
   ·have t0:(x==0)=true:=by simp[hx0]
    have a:Hid (fP (cX xs) (k+1)=fP (cX xs) k++ [(k:Int)]):=by show _=_;rw[fP,if_pos (by unfold cX;rw[HX.out,hx0];rfl)]
    clear hx0;go_wp2_with (at_builtin;refine cM fQ rfl _ _ rfl (w.heap.size+1) _ _ _ rfl (HO.out.alloc _) _ _ (k:Int) _ rfl (by simp) (by omega) (by simp;omega) ?_;intro p' l w2 d g;have s:=xQ d;have u:Ext w w2:=Ext.own (f.alloc _) (HO.out.alloc _) g (by omega);have t:=sH HO g j ec;have o:(w:Nat)<w2:=aRo j (by have:=g.size;simp at this;omega);clear d g);go_roundw
    case rel=>exact⟨k+1,p',m+1,l,by omega,by go_num,rfl,by omega,by rw[a.out];exact s.out,u,t,o⟩
    case measure=>simp[intOf];omega
   have t0:(x==0)=false:=by simp[hx0]
   have a:Hid (fP (cX xs) (k+1)=fP (cX xs) k):=by show _=_;rw[fP,if_neg (by unfold cX;rw[HX.out];simp[hx0]),aSe]
   clear hx0;go_wp2;go_roundw
   case rel=>exact⟨k+1,q,m,c,by omega,by go_num,rfl,by omega,by rw[a.out];exact HO.out,f,ec,j⟩
   case measure=>simp[intOf];omega
  have a:Hid (fP (cX xs) k=mS xs):=by show _=_;unfold mS;rw[hl.out,show k=n by omega]
  go_wp2;go_ret;exact dG (by rw[←a.out];have:=HO.out.1;simpa using this) (by rw[←a.out];exact bJ HO (Nat.le_succ _)) f
theorem aG1 (aA aB:Int)(p:OA)(n cap:Nat)(xs:List Int)(w:World)(hS:Sl w p n cap 1 (ivs xs)):U 144 #[aH aA aB p n cap] w (bA (if aO aA aB xs then mS xs else []) w):=by
 have hl:=hS.ilen;cases h:aO aA aB xs with
 |true=>
  have hb:n≤12:=by unfold aO at h;rw[aRy]at h;have:=cE h.1;omega
  simpa using aJl aA aB p n cap xs w hb hS (fun w' hx=>by have:=gJ aA aB p n cap xs w' (hS.ext hx);rwa[h]at this)
 |false=>simpa using aG0 aA aB p n cap w (fun w' hx=>by have:=gJ aA aB p n cap xs w' (hS.ext hx);rwa[h]at this)
set_option maxRecDepth 100000 in set_option maxHeartbeats 1000000 in
theorem aHc (aA aB:Int)(p:OA)(n cap:Nat)(w:World)(HV:xB 72 #[aH aA aB p n cap] w false):
  U 189 #[aH aA aB p n cap] w (bA [] w):=by
 go_enter func189,ntmps189;go_wp2_with fail;refine Z (HV _ (by exact .alloc (.refl _) _)) fun w1 h1=>?_
 go_wp2;go_ret;exact dG (xs:= []) rfl (aS4 _ _ _ _) (by exact .trans (.alloc (.refl _) _) h1)
set_option maxRecDepth 100000 in set_option maxHeartbeats 1000000 in
theorem aKo (aA aB:Int)(p:OA)(n cap:Nat)(xs:List Int)(w:World)(hn:n≤12)(HS:Hid (Sl w p n cap 1 (ivs xs)))(HV:xB 72 #[aH aA aB p n cap] w true):
  U 189 #[aH aA aB p n cap] w (bA (mS xs) w):=by
 have hl:=xQ HS.out.ilen;go_enter func189,ntmps189;go_wp2_with fail;refine Z (HV _ (by exact .alloc (.refl _) _)) fun w1 h1=>?_
 have z:(w:Nat)<w1:=aRo (by first|(simp;omega)|simp) h1.sz;have eb:w1.cell? ⟨w,2,none⟩=some (.slice p n cap):=by rw[h1.cells.1 _ _ (by first|(simp;done)|(simp;omega))];simp
 have y:Ext w w1:=by exact .trans (.alloc (.refl _) _) h1
 go_wp2;go_loopw [3,12] (fun v i wr=> ∃(k:Nat) (q:OA) (m c:Nat),k≤n∧i=I k∧v= .slice q m c∧m≤k∧wr.ownsRow (w.heap.size+1) TI 1 (.slice q m c) m (ivs (fP (cX xs) k))∧Ext w wr∧wr.cell? ⟨w,2,none⟩=some (.slice p n cap)∧w.heap.size<wr.heap.size) (fun _ i _=>n-(intOf i).toNat)
 case atStart=>exact⟨0,_,0,0,aRv _,rfl,rfl,aRp _,aS4 _ _ _ _,y,eb,z⟩
 case round=>
  obtain⟨k,q,m,c,hk,rfl,rfl,aa,h,f,ec,j⟩:=hrel;have HO:=xQ h;clear h;by_cases hlt:k<n
  ·obtain⟨b,ab,x,rfl,hx,hb,u⟩:=(HS.out.ext f).int_at hlt;have HX:=xQ hx;clear hx;by_cases hx0:x=0
   ·have t0:(x==0)=true:=by simp[hx0]
    have a:Hid (fP (cX xs) (k+1)=fP (cX xs) k++ [(k:Int)]):=by show _=_;rw[fP,if_pos (by unfold cX;rw[HX.out,hx0];rfl)]
    clear hx0;go_wp2_with (at_builtin;refine cM fQ rfl _ _ rfl (w.heap.size+1) _ _ _ rfl (HO.out.alloc _) _ _ (k:Int) _ rfl (by simp) (by omega) (by simp;omega) ?_;intro p' l w2 d g;have r:=xQ d;have t:Ext w w2:=Ext.own (f.alloc _) (HO.out.alloc _) g (by omega);have s:=sH HO g j ec;have o:(w:Nat)<w2:=aRo j (by have:=g.size;simp at this;omega);clear d g);go_roundw
    case rel=>exact⟨k+1,p',m+1,l,by omega,by go_num,rfl,by omega,by rw[a.out];exact r.out,t,s,o⟩
    case measure=>simp[intOf];omega
   have t0:(x==0)=false:=by simp[hx0]
   have a:Hid (fP (cX xs) (k+1)=fP (cX xs) k):=by show _=_;rw[fP,if_neg (by unfold cX;rw[HX.out];simp[hx0]),aSe]
   clear hx0;go_wp2;go_roundw
   case rel=>exact⟨k+1,q,m,c,by omega,by go_num,rfl,by omega,by rw[a.out];exact HO.out,f,ec,j⟩
   case measure=>simp[intOf];omega
  have a:Hid (fP (cX xs) k=mS xs):=by show _=_;unfold mS;rw[hl.out,show k=n by omega]
  go_wp2;go_ret;exact dG (by rw[←a.out];have:=HO.out.1;simpa using this) (by rw[←a.out];exact bJ HO (Nat.le_succ _)) f
theorem aQt (aA aB:Int)(p:OA)(n cap:Nat)(xs:List Int)(w:World)(hS:Sl w p n cap 1 (ivs xs)):U 189 #[aH aA aB p n cap] w (bA (if aO aA aB xs then mS xs else []) w):=by
 have hl:=hS.ilen;cases h:aO aA aB xs with
 |true=>
  have hb:n≤12:=by unfold aO at h;rw[aRy]at h;have:=cE h.1;omega
  simpa using aKo aA aB p n cap xs w hb hS (fun w' hx=>by have:=fY aA aB p n cap xs w' (hS.ext hx);rwa[h]at this)
 |false=>simpa using aHc aA aB p n cap w (fun w' hx=>by have:=fY aA aB p n cap xs w' (hS.ext hx);rwa[h]at this)
end
end Go.Proofs.YtbgkcehffiogcacGreatDoor
