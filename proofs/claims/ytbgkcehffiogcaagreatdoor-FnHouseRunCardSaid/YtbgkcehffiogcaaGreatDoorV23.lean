/-
  Texts of this proof, packed (@packed).
-/
import Derived.Deep.CutBlock
import Derived.Test.YtbgkcehffiogcaaGreatDoorV22
namespace Go.Proofs.YtbgkcehffiogcaaGreatDoor
open Go.RowKit Go.Proofs.Tryz
set_option linter.unusedSimpArgs false
set_option linter.unusedVariables false
set_option maxHeartbeats 8000000
set_option maxRecDepth 100000
theorem vC {R B n sz:Nat}{e:TypeId}{w w':World}{v:Value}{xs:List Value}(ho:w.ownsRow B e sz v n xs)(hx:ExtR R w w')(hB:R<B):w'.ownsRow B e sz v n xs:=
 jB ho (fun g hg=>hx.block g (aKp ho g hg).2 (fun e=>by injection e with e;have:=(aKp ho g hg).1;omega))
def xU (w:World)(e:Ending)(w':World):Prop:=
 ∃(h:aO) (p:OA) (cap:Nat) (q:OA) (c2:Nat) (ds:List Dd3) (lq:OA) (lc:Nat),e= .returned (.tuple #[bN h p h.cells.length cap q h.vs.length c2,.slice lq ds.length lc])∧h.cells.length≤13∧h.vs.length≤13∧ds.length≤11∧IsHouse w' h p h.cells.length cap q h.vs.length c2∧Sl w' lq ds.length lc 3 (ds.flatMap cE)∧Ext w w'∧ ∃gq,lq=some ⟨gq,0,none⟩
theorem xJ (v:Value)(w:World)(hc:Code w v):U 5 #[v] w (xU w):=by
 go_enter func5,ntmps5;go_wp2_with fail;refine(yX v _ (hc.ext xE)).mono ?_;rintro e w1 ⟨R,rfl,hR,r1,x1⟩;have a5:w.heap.size<R:=by have:=hR;simp at this;omega
 have hR:=r1.lt;have M1:=(((Mem.start w).c0 aL zT).adv x1)
 have ao:=M1.hi 0;clear x1;go_wp2_with fail;refine(wR R 0 12 _ r1 (by omega) (by omega) (by omega)).mono ?_;rintro e w2 ⟨h,p,a,q,c2,rfl,al,am,ho,hv,r2,x2⟩;have M2:=(show MemR R w1 w2 [aMe w1 p h.cells a,aMf w1 q h.vs c2]from(MemR.start R w1 hR).own2 x2 ho hv (by decide))
 have z2:=x2.sz;clear ho hv x2;go_upto_region 3 with fail;have r3:Rand (w2.alloc (.cells #[h.aA,h.aB,.slice p h.cells a,h.free,h.step,h.aE,h.aF,h.aC,h.aG,.slice q h.vs c2] aL)) R 20000:=by first|(exact xN)|exact(r2.alloc _).mono (by omega)
 have M3:=(M2.c0 aL (aMg h p a q c2))
 generalize s:(w2.alloc (.cells #[h.aA,h.aB,.slice p h.cells a,h.free,h.step,h.aE,h.aF,h.aC,h.aG,.slice q h.vs c2] aL))=w3;rw[s]at M3 r3;clear s r2 r1 M2;have ap:=M3.hi 0;have a4:R<w2:=by omega
 have X3:=xQ (ExtR.new M1.ext M3.ext (by omega));have B0:=xQ (M3.bk 0);have BH:=xQ (M3.ext.blk (M1.bk 0) (by omega));have f:=xQ fun(w':World) (kk:Nat) (hkk:kk≤1099511500000) (hx:ExtR R w3 w') (hr:Rand w' R kk)=>pG R kk h p a q c2 w' hr hkk (by omega) (jP (i:=1) (j:=2) (M3.pickd hx) rfl rfl) (lC (i:=1) M3 rfl) (lC (i:=2) M3 rfl)
 unfold vV at f;refine mR (gl [gEq (.agg #[h.aA,h.aB,.slice p h.cells a,h.free,h.step,h.aE,h.aF,h.aC,h.aG,.slice q h.vs c2]),gEq (.pointer (some ⟨R,0,none⟩)),gEq (.agg #[h.aA,h.aB,.slice p h.cells a,h.free,h.step,h.aE,h.aF,h.aC,h.aG,.slice q h.vs c2]),(fun v w'=> ∃(ds:List Dd3) (lq:OA) (lc:Nat),v= .slice lq ds lc∧ds.length≤11∧w'.ownsRow w3 TDd 3 (.slice lq ds lc) ds.length (ds.flatMap cE)∧ ∃gq,lq=some ⟨gq,0,none⟩)]) R (20000) 1000 4 (by kernel_rfl) rfl (by kernel_rfl) (by kernel_rfl) (by kernel_rfl) r3 (tK (bQ (dN _) (bQ (dN _) (bQ (dN _) (bQ (fun v w w' ⟨ds,lq,lc,e,l,o,x⟩ hx=>⟨ds,lq,lc,e,l,vC o hx r3.lt,x⟩) (xF)))))) rfl (k:=6) (by kernel_rfl) (by decide) (ls:= [(0,some 10),(1,some 11),(2,some 12),(3,some 13)]) (by kernel_rfl) (ir:= [0,1,2,3]) (by kernel_rfl) ?steps (tl:=#[true,true,true,true,false,false]) (by kernel_rfl) ?fin
 case steps=>
  refine sCr [] rfl (fun wi kk hx hr hkk=> ?_) ?_
  ·intro K hK;have b:ExtR R w3 wi:=hx.of_drew;obtain⟨z,aa,ab,ad,ae,af,ag,ah,ai,aj⟩:=(b.blk B0 (by omega)).ten;go_simp;exact hK _ _ ⟨.agg #[h.aA,h.aB,.slice p h.cells a,h.free,h.step,h.aE,h.aF,h.aC,h.aG,.slice q h.vs c2],rfl,rfl,(fN hr (Ext.refl _))⟩
  refine sSr0 [] ?_;refine sCr [] rfl (fun wi kk hx hr hkk=> ?_) ?_
  ·intro K hK;have b:ExtR R w3 wi:=hx.of_drew;obtain⟨z,aa,ab,ad,ae,af,ag,ah,ai,aj⟩:=(b.blk B0 (by omega)).ten;go_simp;exact hK _ _ ⟨.agg #[h.aA,h.aB,.slice p h.cells a,h.free,h.step,h.aE,h.aF,h.aC,h.aG,.slice q h.vs c2],rfl,rfl,(fN hr (Ext.refl _))⟩
  refine sCr [(1,some 11),(2,some 12)] rfl (fun wi kk hx hr hkk=> ?_) StepsLR.nil
  ·intro v1 h1 v2 h2 K hK;subst h1 h2;go_wp2_with fail;have an:(w3:Nat)≤wi:=hx.sz;refine(f _ kk (by omega) hx.of_drew hr).mono ?_;rintro e w5 ⟨ds,lq,lc,rfl,hl,ho,r5,x5,hq⟩;have HQ:=xQ hq;clear hq;go_simp;exact hK _ _ ⟨_,rfl,⟨ds,lq,lc,rfl,hl,bF ho an,HQ.out⟩,⟨x5,r5⟩⟩
 case fin=>
  intro wi hx hr v0 h0 v1 h1 v2 h2 v3 h3;subst h0 h1 h2;obtain⟨m,u,t,rfl,ak,n,r⟩:=h3;have y:=xQ r;clear r;have b:ExtR R w3 wi:=hx.of_drew;have z3:(w3:Nat)≤wi:=b.sz;have Xi:=xQ (ExtR.new X3 b (by omega));have d:=b.blk BH (by omega);have oi:=vC (M3.ow 1) b (by omega);have vi:=vC (M3.ow 2) b (by omega);clear B0 BH f hx b X3 r3 hr M3 M1;have lH:(w:Nat)<wi:=d.lt;obtain⟨z0,au,z1,av,z2,aw,z3,ax,z4,ay,z5,az,z6,a0,z7,a1,z8,a2,z9,a3⟩:=d.tenf;refine wpAny_ready (rs:= [4]) (by kernel_rfl) (by simp) ?_;refine AllReady.cons rfl (fun K hK=> ?_) AllReady.nil;go_simp;refine hK _ _ ?_;clear hK K z0 au z1 av z2 aw z3 ax z4 ay z5 az z6 a0 z7 a1 z8 a2 z9 a3;have BX:=d;generalize g:World.setCell _ _ _=w9;have c:ExtR w wi w9:=by rw[←g];exact((((((((((ExtR.refl w wi).setCell (p:=⟨w,0,none⟩) (.inl rfl) (I h.aA)).setCell (p:=⟨w,1,none⟩) (.inl rfl) (I h.aB)).setCell (p:=⟨w,2,none⟩) (.inl rfl) (.slice p h.cells a)).setCell (p:=⟨w,3,none⟩) (.inl rfl) (I h.free)).setCell (p:=⟨w,4,none⟩) (.inl rfl) (I h.step)).setCell (p:=⟨w,5,none⟩) (.inl rfl) (I h.aE)).setCell (p:=⟨w,6,none⟩) (.inl rfl) (I h.aF)).setCell (p:=⟨w,7,none⟩) (.inl rfl) (I h.aC)).setCell (p:=⟨w,8,none⟩) (.inl rfl) (I h.aG)).setCell (p:=⟨w,9,none⟩) (.inl rfl) (.slice q h.vs c2)
  have YX:=(((((((((BX.set 0 (I h.aA)).set 1 (I h.aB)).set 2 (.slice p h.cells a)).set 3 (I h.free)).set 4 (I h.step)).set 5 (I h.aE)).set 6 (I h.aF)).set 7 (I h.aC)).set 8 (I h.aG)).set 9 (.slice q h.vs c2);simp only[aKe,aKf,aKc]at YX;rw[g]at YX;clear g;have aq:=vC oi c (by omega);have ar:=vC vi c (by omega);refine wpAny_ready (rs:= [5]) (by kernel_rfl) (by simp) ?_;refine AllReady.cons rfl (fun K hK=> ?_) AllReady.nil;go_simp;refine hK _ _ ?_;clear hK K;have YH:=YX;have Xl:=vC n c (by omega);have X9:Ext w w9:=ExtR.new Xi c (by omega);clear c YX Xi d oi vi n;refine wpAny_done (by kernel_rfl) ?_ _;try go_frame
  go_wp2;obtain⟨y0,y1,y2,y3,y4,y5,y6,y7,y8,y9⟩:=YH.ten;exact bodyPost_ret (v:= .tuple #[.agg #[h.aA,h.aB,.slice p h.cells a,h.free,h.step,h.aE,h.aF,h.aC,h.aG,.slice q h.vs c2],.slice u m t]) (by simp[results,results5,go_sem, *]) rfl ⟨h,p,a,q,c2,m,u,t,rfl,al,am,ak,⟨Sl.own aq,Sl.own ar⟩,Sl.own Xl,X9,y.out⟩
theorem Mem.own2blk {w0 w w':World}{L:List Item}{e1 e2 t:TypeId}{s1 s2 n1 n2 c1 c2 g:Nat}{q1 q2:OA}{d a:List Value}{cs:Array Value}(h:Mem w0 w L)(hx:Ext w w')(hb:Blk w' g t cs)(hg:w.heap.size≤g)(h1:w'.ownsRow w e1 s1 (.slice q1 n1 c1) n1 d)(h2:w'.ownsRow w e2 s2 (.slice q2 n2 c2) n2 a)(ht:e1≠e2)(t1:e1≠t)(t2:e2≠t):
  Mem w0 w' (aJ w0 e1 s1 q1 n1 c1 d::aJ w0 e2 s2 q2 n2 c2 a::aI w0 g t cs::L):=by
 have b: ∀ {e:TypeId} {s n c:Nat} {q:OA} {xs:List Value},w'.ownsRow w e s (.slice q n c) n xs→e≠t→(Value.slice q n c).ownBlock≠Option.some g:=by
  intro e s n c q xs ho f he;rcases ho.2 with⟨b1,_⟩|⟨g1,cap1,cur1,b1,_,b3,_⟩
  ·rw[b1]at he;cases he
  rw[b1]at he;injection he with he;have x1:g1=g:=he;subst x1;unfold Blk at hb;rw[hb]at b3;injection b3 with b3;injection b3 with _ b3;exact f b3.symm
 have H:=h.own2 hx h1 h2 (aK1 _) ht;have p1:=List.pairwise_cons.1 H.apart;have p2:=List.pairwise_cons.1 p1.2;have HB:=h.blkOf hx hb hg
 have H2:Mem w0 w' (aJ w0 e2 s2 q2 n2 c2 a::aI w0 g t cs::L):=HB.cons (dD _ _ _ _ _ _ _) (cT h2 h.ext.sz) (fun g' hg' j hj e=>by
  rcases aKh.1 hj with rfl|hj
  ·obtain rfl:g=g':=e;exact b h2 t2 hg'
  ·exact p2.1 j hj g' hg' e)
 exact H2.cons (dD _ _ _ _ _ _ _) (cT h1 h.ext.sz) (fun g' hg' j hj e=>by
  rcases aKh.1 hj with rfl|hj
  ·exact p1.1 _ (by simp) g' hg' e
  ·rcases aKh.1 hj with rfl|hj
   ·obtain rfl:g=g':=e;exact b h1 t1 hg'
   ·exact p1.1 j (by simp[hj]) g' hg' e)
def hZ:aO:=⟨0,0,[],0,0,0,0,0,0,[]⟩
def doR (h:aO)(k a b:Int):aO×Int×Bool:=
 if bB h=true then(match bU h k a b with
  |none=>(h,-1,false)
  |some (h',n)=>(h',n,true))else(hZ,-1,false)
def aJm (B:Nat)(r:aO×Int×Bool)(w':World)(e:Ending)(w'':World):Prop:=
 ∃pa ca qa da,e= .returned (.tuple #[bN r.1 pa r.1.cells.length ca qa r.1.vs.length da,r.2.1,.bool r.2.2])∧w''.ownsRow B TI 1 (.slice pa r.1.cells.length ca) r.1.cells.length (ivs r.1.cells)∧w''.ownsRow B TV 4 (.slice qa r.1.vs.length da) r.1.vs.length (r.1.vs.flatMap aD)∧Ext w' w''
theorem wM {h:aO}{k a b:Int}{w w':World}{e:Ending}{B:Nat}(hB:B≤w.heap.size)(c:bB h=true)(hr:aDb h (bU h k a b) w e w'):aJm B (doR h k a b) w e w':=by
 unfold doR;rw[if_pos c];unfold aDb at hr;cases hd:bU h k a b with
 |none=>rw[hd]at hr;obtain⟨pa,ca,qa,da,rfl,o1,o2,hx⟩:=hr;exact⟨pa,ca,qa,da,rfl,cT o1 hB,cT o2 hB,hx⟩
 |some r=>obtain⟨h',n⟩:=r;rw[hd]at hr;obtain⟨pa,ca,qa,da,rfl,o1,o2,hx⟩:=hr;exact⟨pa,ca,qa,da,rfl,cT o1 hB,cT o2 hB,hx⟩
theorem aIu {h:aO}{k a b:Int}{w w':World}{e:Ending}{B:Nat}(c: ¬bB h=true)(hr:e= .returned (.tuple #[.agg #[(),(),((),()),(),(),(),(),(),(),((),())],(-1:Int),.bool false])∧Ext w w'):aJm B (doR h k a b) w e w':=by unfold doR;rw[if_neg c];obtain⟨rfl,hx⟩:=hr;exact⟨none,0,none,0,rfl,aKi _ _ _ _,aKi _ _ _ _,hx⟩
abbrev TB:TypeId:=4
def bcs (bs:List Bool):List Value:=bs.map .bool
theorem aD7 (bs:List Bool):(bcs bs).length=bs.length:=by simp[bcs]
theorem aA1 (bs:List Bool)(b:Bool):bcs (bs++ [b])=bcs bs++ [.bool b]:=by simp[bcs]
theorem elB:ElT prog 34 TB 1:=
 ⟨underlying34,by
  obtain⟨i,hi,h0,h1,h2⟩:=info_parts (show(prog.info? TB).map (fun i=>(i.zero,i.size,i.bytes))=some (some (.bool false),1,1) by kernel_rfl)
  exact⟨i,_,hi,h0,h1,by omega,rfl⟩,by omega⟩
def jY (h:aO)(d:Dd3):aO:=(doR h d.1 d.2.1 d.2.2).1
def gE (h:aO)(ds:List Dd3):aO:=ds.foldl jY h
def eI:aO→List Dd3→List Bool
 |_,[]=> []
 |h,d::ds=>(doR h d.1 d.2.1 d.2.2).2.2::eI (jY h d) ds
theorem qG (h:aO)(l:List Dd3)(d:Dd3):gE h (l++ [d])=(doR (gE h l) d.1 d.2.1 d.2.2).1:=by simp[gE,jY]
theorem tP: ∀(l:List Dd3) (h:aO) (d:Dd3),eI h (l++ [d])=eI h l++ [(doR (gE h l) d.1 d.2.1 d.2.2).2.2]:=by
 intro l;induction l with
 |nil=>intro h d;rfl
 |cons x l ih=>intro h d;show _::eI (jY h x) (l++ [d])=_;rw[ih];rfl
theorem qT: ∀(l:List Dd3) (h:aO),(eI h l).length=l.length:=by
 intro l;induction l with
 |nil=>intro h;rfl
 |cons x l ih=>intro h;show(eI (jY h x) l).length+1=_;rw[ih];rfl
theorem yS {h:aO}(a:bB h=true)(d:Dd3):bB (jY h d)=true:=by
 unfold jY doR;rw[if_pos a];cases hd:bU h d.1 d.2.1 d.2.2 with
 |none=>exact a
 |some r=>obtain⟨h',n⟩:=r;exact(oN a hd).1
theorem lU: ∀(l:List Dd3) {h:aO},bB h=true→bB (gE h l)=true:=by
 intro l;induction l with
 |nil=>intro h a;exact a
 |cons x l ih=>intro h a;exact ih (yS a x)
def oA (h:aO)(ds:List Dd3):aO×List Bool:=if bB h=true then(gE h ds,eI h ds)else(hZ,[])
def iV (B:Nat)(r:aO×List Bool)(w':World)(e:Ending)(w'':World):Prop:=
 ∃pa ca qa da ps cs,e= .returned (.tuple #[bN r.1 pa r.1.cells.length ca qa r.1.vs.length da,.slice ps r.2.length cs])∧w''.ownsRow B TI 1 (.slice pa r.1.cells.length ca) r.1.cells.length (ivs r.1.cells)∧w''.ownsRow B TV 4 (.slice qa r.1.vs.length da) r.1.vs.length (r.1.vs.flatMap aD)∧w''.ownsRow B TB 1 (.slice ps r.2.length cs) r.2.length (bcs r.2)∧Ext w' w''
theorem aG4 (h:aO)(ds:List Dd3):(oA h ds).1.cells.length≤1000∧(oA h ds).1.vs.length≤1000∧(oA h ds).2.length≤ds.length:=by
 unfold oA;by_cases hok:bB h=true
 ·rw[if_pos hok];have:=gW (lU ds hok);dsimp only;rw[qT];omega
 rw[if_neg hok];simp[hZ]
theorem aCl {B:Nat}{h g:aO}{ds:List Dd3}{lm:Nat}{pa qa ps:OA}{ca da cs:Nat}{w' a:World}(hg:g=gE h ds)(hl:ds.length=lm)(o1:a.ownsRow B TI 1 (.slice pa g.cells ca) g.cells.length (ivs g.cells))(o2:a.ownsRow B TV 4 (.slice qa g.vs da) g.vs.length (g.vs.flatMap aD))(o3:a.ownsRow B TB 1 (.slice ps lm cs) lm (bcs (eI h ds)))(hx:Ext w' a):
  iV B (gE h ds,eI h ds) w' (.returned (.tuple #[bN g pa g.cells.length ca qa g.vs.length da,.slice ps lm cs])) a:=by
 subst hg;have hd:(eI h ds).length=lm:=by rw[qT,hl]
 subst hd;exact⟨pa,ca,qa,da,ps,cs,rfl,o1,o2,o3,hx⟩
theorem aIr {l:List Value}{k n:Nat}(hl:l.length=k)(hk:k<n):(l++List.replicate (n-k) (Value.bool false))[k]? =some (Value.bool false):=by rw[aKt (by omega),hl,aLz];simp[aLq];omega
theorem aHj {l:List Value}{k n:Nat}{b:Value}(hl:l.length=k)(hk:k<n):(l++List.replicate (n-k) (Value.bool false)).set k b=(l++ [b])++List.replicate (n-(k+1)) (Value.bool false):=by
 obtain⟨j,rfl⟩: ∃j,n=k+1+j:=⟨n-(k+1),by omega⟩
 rw[show k+1+j-k=j+1 by omega,show k+1+j-(k+1)=j by omega,List.set_append,if_neg (by omega),hl,aLz,aM9];simp
theorem aI4 (h:aO)(p:OA)(a:Nat)(q:OA)(c2:Nat)(lq:OA)(lm lc:Nat)(ds:List Dd3)(w:World)
  (b:xC 10 #[.agg #[h.aA,h.aB,.slice p h.cells a,h.free,h.step,h.aE,h.aF,h.aC,h.aG,.slice q h.vs c2]] w fun w' e w''=>e= .returned (Value.bool false)∧Ext w' w''):
  U 7 #[.agg #[h.aA,h.aB,.slice p h.cells a,h.free,h.step,h.aE,h.aF,h.aC,h.aG,.slice q h.vs c2],.slice lq lm lc] w (iV w (hZ,[]) w):=by
 go_enter func7,ntmps7;go_wp2_with fail;refine Z (b _ ((((Mem.start w).c0 aL #[h.aA,h.aB,.slice p h.cells a,h.free,h.step,h.aE,h.aF,h.aC,h.aG,.slice q h.vs c2]).c1 aL zT).made0 TB 1 (w.heap.size+1+1) (by simp)).ext) fun w1 d=>?_
 have M1:=(((((Mem.start w).c0 aL #[h.aA,h.aB,.slice p h.cells a,h.free,h.step,h.aE,h.aF,h.aC,h.aG,.slice q h.vs c2]).c1 aL zT).made0 TB 1 (w.heap.size+1+1) (by simp)).adv d)
 clear d b;obtain⟨f0,f,f1,g,f2,j,f3,k,f4,l,f5,m,f6,n,f7,o,f8,r,f9,s⟩:=(M1.bk 1).tenf;go_wp2;clear f0 f f1 g f2 j f3 k f4 l f5 m f6 n f7 o f8 r f9 s;have M2:=(M1.put10 (i:=1) rfl (I 0) (I 0) (.slice none 0 0) (I 0) (I 0) (I 0) (I 0) (I 0) (I 0) (.slice none 0 0))
 generalize c:World.setCell _ _ _=wz;rw[c]at M2;clear c M1;obtain⟨y0,y1,y2,y3,y4,y5,y6,y7,y8,y9⟩:=(M2.bk 1).ten;exact bodyPost_ret (v:= .tuple #[.agg #[(),(),((),()),(),(),(),(),(),(),((),())],.slice (some ⟨w.heap.size+1+1,0,none⟩) 0 0]) (by simp[results,results7,go_sem, *]) rfl (show iV w (hZ,[]) w _ _ from⟨none,0,none,0,_,0,rfl,aKi _ _ _ _,aKi _ _ _ _,(M2.ow 0),M2.ext⟩)
theorem aJp (h:aO)(p:OA)(a:Nat)(q:OA)(c2:Nat)(lq:OA)(lm lc:Nat)(ds:List Dd3)(w:World)(hb:lm≤1048576)(x:Hid (ds.length=lm))(ba:Hid (bB h=true))(HS:Hid (Sl w lq lm lc 3 (ds.flatMap cE)))
  (ab:xB 10 #[.agg #[h.aA,h.aB,.slice p h.cells a,h.free,h.step,h.aE,h.aF,h.aC,h.aG,.slice q h.vs c2]] w true)
  (HL:xC 25 #[.agg #[h.aA,h.aB,.slice p h.cells a,h.free,h.step,h.aE,h.aF,h.aC,h.aG,.slice q h.vs c2]] w fun w' e w''=> ∃p' cap' q' c2',e= .returned (.agg #[h.aA,h.aB,.slice p' h.cells cap',h.free,h.step,h.aE,h.aF,h.aC,h.aG,.slice q' h.vs c2'])∧w''.ownsRow w' TI 1 (.slice p' h.cells cap') h.cells.length (ivs h.cells)∧w''.ownsRow w' TV 4 (.slice q' h.vs c2') h.vs.length (h.vs.flatMap aD)∧Ext w' w''):
  U 7 #[.agg #[h.aA,h.aB,.slice p h.cells a,h.free,h.step,h.aE,h.aF,h.aC,h.aG,.slice q h.vs c2],.slice lq lm lc] w (iV w (gE h ds,eI h ds) w):=by
 go_enter func7,ntmps7;go_wp2_with fail;refine Z (ab _ ((((Mem.start w).c0 aL #[h.aA,h.aB,.slice p h.cells a,h.free,h.step,h.aE,h.aF,h.aC,h.aG,.slice q h.vs c2]).c1 aL zT).made0 TB 1 (w.heap.size+1+1) (by simp)).ext) fun w1 ag=>?_
 have M1:=(((((Mem.start w).c0 aL #[h.aA,h.aB,.slice p h.cells a,h.free,h.step,h.aE,h.aF,h.aC,h.aG,.slice q h.vs c2]).c1 aL zT).made0 TB 1 (w.heap.size+1+1) (by simp)).adv ag)
 clear ag ab;obtain⟨ak,al,am,an,ao,ap,aq,ar,au,av⟩:=(M1.bk 2).ten;go_wp2_with fail;clear ak al am an ao ap aq ar au av;refine(HL _ M1.ext).mono ?_;rintro e w2 ⟨p1,n,q1,o,rfl,ho,hq,hx⟩;have M2:=(M1.own2 hx ho hq (aK1 _) (by decide))
 clear M1 hx ho hq HL;go_upto_region 5 with fail;obtain⟨gV,t⟩: ∃gV,gV=w2.heap.size:=⟨_,rfl⟩
 rw[←t];have M3:=(M2.blkNew aL #[h.aA,h.aB,.slice p1 h.cells n,h.free,h.step,h.aE,h.aF,h.aC,h.aG,.slice q1 h.vs o] gV t.symm)
 generalize World.alloc _ _=w3 at M3⊢;clear M2 t;go_wp2;go_loopw [6,8] (fun dn i wr=> ∃(k:Nat) (g:aO) (p3:OA) (c3:Nat) (q3:OA) (d3:Nat) (ps:OA) (cs:Nat),k≤lm∧i=I k∧dn= .slice ps k cs∧g=gE h (ds.take k)∧Mem w wr [aJ w TB 1 (ps) (k) (cs) (bcs (eI h (ds.take k))),aMe w p3 g.cells c3,aMf w q3 g.vs d3,aI w (gV) aL (aMg g p3 c3 q3 d3),aI w (w.heap.size+1) aL #[(),(),((),()),(),(),(),(),(),(),((),())],aI w w aL (aMg h p a q c2)]) (fun _ i _=>lm-(intOf i).toNat)
 case atStart=>exact⟨0,h,p1,n,q1,o,_,_,aK8 _,rfl,rfl,rfl,(show Mem w w3 [aJ w TB 1 (some ⟨w.heap.size+1+1,0,none⟩) (0) (0) ([]),aMe w p1 h.cells n,aMf w q1 h.vs o,aI w (gV) aL (aMg h p1 n q1 o),aI w (w.heap.size+1) aL #[(),(),((),()),(),(),(),(),(),(),((),())],aI w w aL (aMg h p a q c2)]from M3.pick [3,1,2,0,4,5] (by decide) rfl)⟩
 case round=>
  clear M3;obtain⟨k,g,p3,c3,q3,d3,ps,cs,hk,rfl,rfl,hg,hM⟩:=hrel;have HM:=hM;have HG:=xQ hg;have aa:Hid (bB g=true):=by show _=_;rw[hg];exact lU _ ba.out
  clear hM hg;by_cases hlt:k<lm
  ·obtain⟨b,l,a0,a1,a2,a9,hx,s,e0,e1,e2⟩:=xK (HS.out.ext HM.ext) hlt;subst a9;have HX:=xQ hx;clear hx;have i1:(0:Int)≤(k:Int):=by omega
   have i2:(k:Int)<(lm:Int):=by omega
   obtain⟨r,num,ok,hr⟩: ∃r num ok,(r,num,ok)=doR g a0 a1 a2:=⟨_,_,_,rfl⟩
   have HR:=xQ hr;clear hr;have af:Hid (gE h (ds.take (k+1))=r∧eI h (ds.take (k+1))=eI h (ds.take k)++ [ok]):=by show _∧_;rw[bE HX.out,qG,tP,←HG.out,←HR.out];exact⟨rfl,rfl⟩
   have HD:Hid (∀B p c q d w',B≤w'.heap.size→Ext wr w'→IsHouse w' g p g.cells.length c q g.vs.length d→U 26 #[.agg #[g.aA,g.aB,.slice p g.cells c,g.free,g.step,g.aE,g.aF,g.aC,g.aG,.slice q g.vs d],.agg #[a0,a1,a2]] w' fun e w''=> ∃pa ca qa da,e= .returned (.tuple #[.agg #[r.aA,r.aB,.slice pa r.cells ca,r.free,r.step,r.aE,r.aF,r.aC,r.aG,.slice qa r.vs da],num,.bool ok])∧w''.ownsRow B TI 1 (.slice pa r.cells ca) r.cells.length (ivs r.cells)∧w''.ownsRow B TV 4 (.slice qa r.vs da) r.vs.length (r.vs.flatMap aD)∧Ext w' w''):=fun B p c q d w' hB hx hi=>by refine(rC g a0 a1 a2 p _ c q _ d w' hi aa.out).mono (fun e w'' hr=> ?_);have hq:=wM hB aa hr;rw[←HR.out]at hq;exact hq
   have IX:=xQ (show IsHouse wr g p3 g.cells.length c3 q3 g.vs.length d3 from⟨(HM.sq 1),(HM.sq 2)⟩);have j:gV<wr:=(HM.hi 3)
   obtain⟨bb,bc,bd,be,bf,bg,bh,bi,bj,bl⟩:=(HM.bk 3).ten;have ai: ¬(wr.heap.size=gV):=by omega
   have aj: ¬(wr.heap.size=b):=by omega
   go_upto_region 8 with fail;go_cut [9,10,11] (fun s1 s2 s3 wx=> ∃(g5:Nat) (p5:OA) (c5:Nat) (q5:OA) (d5:Nat),s1= .pointer (some ⟨g5,0,none⟩)∧s2=I num∧s3= .bool ok∧Mem w wx [aI w (g5) aL (aMg r p5 c5 q5 d5),aMe w p5 r.cells c5,aMf w q5 r.vs d5,aJ w TB 1 (ps) (k) (cs) (bcs (eI h (ds.take k))),aMe w p3 g.cells c3,aMf w q3 g.vs d3,aI w (gV) aL (aMg g p3 c3 q3 d3),aI w (w.heap.size+1) aL #[(),(),((),()),(),(),(),(),(),(),((),())],aI w w aL (aMg h p a q c2)])
   case first=>
    go_region_held3 (fun w'=>w'.cell? ⟨gV,0,none⟩=some (I g.aA)∧w'.cell? ⟨gV,1,none⟩=some (I g.aB)∧w'.cell? ⟨gV,2,none⟩=some (.slice p3 g.cells c3)∧w'.cell? ⟨gV,3,none⟩=some (I g.free)∧w'.cell? ⟨gV,4,none⟩=some (I g.step)∧w'.cell? ⟨gV,5,none⟩=some (I g.aE)∧w'.cell? ⟨gV,6,none⟩=some (I g.aF)∧w'.cell? ⟨gV,7,none⟩=some (I g.aC)∧w'.cell? ⟨gV,8,none⟩=some (I g.aG)∧w'.cell? ⟨gV,9,none⟩=some (.slice q3 g.vs d3)∧w'.cell? ⟨b,l+k*3,none⟩=some (I a0)∧w'.cell? ⟨b,l+k*3+1,none⟩=some (I a1)∧w'.cell? ⟨b,l+k*3+2,none⟩=some (I a2))
     (first|(refine⟨?_,?_,?_,?_,?_,?_,?_,?_,?_,?_,?_,?_,?_⟩<;>with_reducible assumption)|go_keep)
     (first
      |(go_at_call 26
        refine(HD wr _ _ _ _ _ (Ext.sz (show Ext wr _ from xE)) xE (IX.out.ext xE)).mono ?_;rintro e ws ⟨p5,c5,q5,d5,rfl,os,y,ah⟩;have f:Ext wr ws:=xE;obtain⟨cj,ck,cl,cm,cn,co,cp,cq,cr,ct⟩:=((HM.bk 3).ext f).ten;have cu:ws.cell? ⟨b,l+k*3,none⟩=some (I a0):=(f.cells.1 _ _ s).trans e0;have cv:ws.cell? ⟨b,l+k*3+1,none⟩=some (I a1):=(f.cells.1 _ _ s).trans e1;have cw:ws.cell? ⟨b,l+k*3+2,none⟩=some (I a2):=(f.cells.1 _ _ s).trans e2
        first
         |(with_reducible have hz:Ext (wr.alloc (.cells #[(),(),((),()),(),(),(),(),(),(),((),())] aL)) ws:=ah;have MB:=(Mem.own2blk HM f ((Blk.new wr aL #[(),(),((),()),(),(),(),(),(),(),((),())]).ext hz) (aK1 _) os y (by decide) (by decide) (by decide));obtain⟨bx,b8,bz,b9,b0,cb,b1,cc,b2,cd,b3,ce,b4,cf,b5,cg,b6,ch,b7,ci⟩:=(MB.blk (i:=2) rfl).tenf)
         |(with_reducible have hz:Ext (wr.alloc (.cells #[(),(),((),()),(),(),(),(),(),(),((),())] aL)) ws:=ah.of_drew;have MB:=(Mem.own2blk HM f ((Blk.new wr aL #[(),(),((),()),(),(),(),(),(),(),((),())]).ext hz) (aK1 _) os y (by decide) (by decide) (by decide));obtain⟨bx,b8,bz,b9,b0,cb,b1,cc,b2,cd,b3,ce,b4,cf,b5,cg,b6,ch,b7,ci⟩:=(MB.blk (i:=2) rfl).tenf)
         |(have MA:=(Mem.own2 HM f os y (aK1 _) (by decide)))))
    all_goals (
     go_wp2_with fail;go_meet
     first
      |exact⟨_,p5,c5,q5,d5,rfl,rfl,rfl,(MB.put10 (i:=2) rfl (I r.aA) (I r.aB) (.slice p5 r.cells c5) (I r.free) (I r.step) (I r.aE) (I r.aF) (I r.aC) (I r.aG) (.slice q5 r.vs d5)).pick [2,0,1,3,4,5,6,7,8] (by decide) rfl⟩
      |exact⟨_,p5,c5,q5,d5,rfl,rfl,rfl,MA.bn aL (aMg r p5 c5 q5 d5) _⟩)
   case rest=>
    clear bb bc bd be bf bg bh bi bj bl ai aj e0 e1 e2 HD IX;obtain⟨g5,p5,c5,q5,d5,rfl,rfl,rfl,ae⟩:=hcut;obtain⟨v5,rfl⟩: ∃z,z=wc:=⟨_,rfl⟩
    have MC:=ae;clear ae HM j;obtain⟨x0,x1,x2,x3,x4,x5,x6,x7,x8,x9⟩:=(MC.bk 0).ten;obtain⟨v0,bm,v1,bo,v2,bp,v3,bq,v4,br,v5,bs,v6,bt,v7,bu,v8,bv,v9,bw⟩:=(MC.bk 6).tenf;go_upto_region 10 with fail;clear x0 x1 x2 x3 x4 x5 x6 x7 x8 x9 v0 bm v1 bo v2 bp v3 bq v4 br v5 bs v6 bt v7 bu v8 bv v9 bw;have ad:=(MC.put10 (i:=6) rfl (I r.aA) (I r.aB) (.slice p5 r.cells c5) (I r.free) (I r.step) (I r.aE) (I r.aF) (I r.aC) (I r.aG) (.slice q5 r.vs d5))
    generalize m:World.setCell _ _ _=wz;rw[m]at ad;clear m MC;go_wp2_with (at_builtin;go_loud (refine cI elB rfl _ _ rfl (ad.adv ((Ext.refl _).alloc (.cells #[.bool ok] TB))) 3 rfl rfl [.bool ok] rfl (dO _ _ _ 1 1 _ (by first|rfl|simp) (by first|rfl|simp) (by simp[maxLen])) (fun u hu=>by obtain rfl:=aKm.1 hu;rfl) (by omega) ?_;intro q7 c7 w6 M6));go_roundw
    case rel=>
     have hd:bcs (eI h (ds.take (k+1)))=bcs (eI h (ds.take k))++ [.bool ok]:=by rw[af.out.2,aA1]
     exact⟨k+1,r,p5,c5,q5,d5,q7,c7,by omega,by go_num,rfl,af.out.1.symm,by rw[hd];exact(show Mem w w6 [aJ w TB 1 (q7) (k+1) (c7) (bcs (eI h (ds.take k))++ [.bool ok]),aMe w p5 r.cells c5,aMf w q5 r.vs d5,aI w (gV) aL (aMg r p5 c5 q5 d5),aI w (w.heap.size+1) aL #[(),(),((),()),(),(),(),(),(),(),((),())],aI w w aL (aMg h p a q c2)]from(show Mem w w6 [aI w (g5) aL (aMg r p5 c5 q5 d5),aMe w p5 r.cells c5,aMf w q5 r.vs d5,aJ w TB 1 (q7) (k+1) (c7) (bcs (eI h (ds.take k))++ [.bool ok]),aMe w p3 g.cells c3,aMf w q3 g.vs d3,aI w (gV) aL (aMg r p5 c5 q5 d5),aI w (w.heap.size+1) aL #[(),(),((),()),(),(),(),(),(),(),((),())],aI w w aL (aMg h p a q c2)]from M6).pick [3,1,2,6,7,8] (by decide) rfl)⟩
    case measure=>simp[intOf];omega
  obtain rfl:lm=k:=by omega
  have j:gV<wr:=(HM.hi 3)
  obtain⟨v0,v1,v2,v3,v4,v5,v6,v7,v8,v9⟩:=(HM.bk 3).ten;obtain⟨f0,aw,f1,ax,f2,ay,f3,az,f4,a3,f5,a4,f6,a5,f7,a6,f8,a7,f9,a8⟩:=(HM.bk 4).tenf;go_wp2;clear v0 v1 v2 v3 v4 v5 v6 v7 v8 v9 f0 aw f1 ax f2 ay f3 az f4 a3 f5 a4 f6 a5 f7 a6 f8 a7 f9 a8 j;have M6:=xQ (HM.put10 (i:=4) rfl (I g.aA) (I g.aB) (.slice p3 g.cells c3) (I g.free) (I g.step) (I g.aE) (I g.aF) (I g.aC) (I g.aG) (.slice q3 g.vs d3));generalize m:World.setCell _ _ _=wz;rw[m]at M6;clear m HM;obtain⟨y0,y1,y2,y3,y4,y5,y6,y7,y8,y9⟩:=(M6.out.bk 4).ten;exact bodyPost_ret (v:= .tuple #[.agg #[g.aA,g.aB,.slice p3 g.cells c3,g.free,g.step,g.aE,g.aF,g.aC,g.aG,.slice q3 g.vs d3],.slice ps lm cs]) (by simp[results,results7,go_sem, *]) rfl (aCl (by have h1:=HG.out;rw[aKb (by rw[x.out];exact aK1 _)]at h1;exact h1) x.out (M6.out.ow 1) (M6.out.ow 2) (by have h1:=(M6.out.ow 0);rw[aKb (by rw[x.out];exact aK1 _)]at h1;exact h1) M6.out.ext)
theorem wC (h:aO)(p:OA)(n a:Nat)(q:OA)(m c2:Nat)(lq:OA)(lm lc:Nat)(ds:List Dd3)(w:World)(hi:IsHouse w h p n a q m c2)(hS:Sl w lq lm lc 3 (ds.flatMap cE))(hb:lm≤1048576):
  U 7 #[bN h p n a q m c2,.slice lq lm lc] w (iV w (oA h ds) w):=by
 have hl:=hi.clen;have c:=hi.vlen;have b:ds.length=lm:=by have:=hS.len;rw[cR cE 3 (fun _=>rfl)]at this;omega
 subst hl c;have HV:=xQ fun(w':World) (hx:Ext w w')=>kY h p _ a q _ c2 w' (hi.ext hx)
 by_cases hok:bB h=true
 ·have d:=gW hok;unfold oA;rw[if_pos hok];rw[hok]at HV;have HL:=xQ fun(w':World) (hx:Ext w w')=>oM h p _ a q _ c2 w' (by omega) (by omega) (hi.ext hx)
  unfold RetHouse at HL;exact aJp h p a q c2 lq lm lc ds w hb b hok hS HV HL
 unfold oA;rw[if_neg hok];rw[show bB h=false by simpa using hok]at HV;exact aI4 h p a q c2 lq lm lc ds w HV
theorem gY (aA aB c:Int)(p:OA)(n a:Nat)(w:World)(hn:n≤12):U 110 #[aH aA aB p n a,c] w (O (.bool (decide (0≤c∧c<n))) w):=by
 by_cases h0:0≤c
 ·have d0:decide (0≤c)=true:=by simp[h0]
  by_cases h1:c<n
  ·have d1:decide (c<(n:Int))=true:=by simp[h1]
   go_enter func110,ntmps110;go_wp2;go_ret;exact⟨aQ (by simp[h0,h1]),xE⟩
  have d1:decide (c<(n:Int))=false:=by simp;omega
  go_enter func110,ntmps110;go_wp2;go_ret;exact⟨aQ (by simp[h0,h1]),xE⟩
 have d0:decide (0≤c)=false:=by simp;omega
 go_enter func110,ntmps110;go_wp2;go_ret;exact⟨aQ (by simp[h0]),xE⟩
theorem kS (aA a b:Int)(w:World)(h0:0≤a)(h1:a≤100)(h2:0≤b)(h3:b≤100)(h4:2≤aA)(h5:aA≤4):U 111 #[aA,a,b] w (O (I (aU aA a b)) w):=by
 have q0: ¬(aA=0):=by omega
 have r1:a.tmod aA=a%aA:=IntWalk.rem_in _ _ h0;have r2:b.tmod aA=b%aA:=IntWalk.rem_in _ _ h2;have d1:IntKind.i64.wrap (a.tdiv aA)=a/aA:=aM7 _ _ (by omega);have d2:IntKind.i64.wrap (b.tdiv aA)=b/aA:=aM7 _ _ (by omega);have e1:=Int.emod_nonneg a q0;have e2:=Int.emod_nonneg b q0;have e3:=Int.emod_lt_of_pos a (show 0<aA by omega);have e4:=Int.emod_lt_of_pos b (show 0<aA by omega);have e5:=Int.ediv_nonneg h0 (show 0≤aA by omega);have e6:=Int.ediv_nonneg h2 (show 0≤aA by omega);have e7:=Int.ediv_le_self aA h0;have e8:=Int.ediv_le_self aA h2;have s1:IntKind.i64.wrap (max (a%aA-b%aA) (-(a%aA-b%aA))+max (a/aA-b/aA) (-(a/aA-b/aA)))=aU aA a b:=by rw[aK3 _ (by omega)];unfold aU oC;omega
 have s2:IntKind.i64.wrap (a%aA-b%aA)=a%aA-b%aA:=aK3 _ (by omega);have s3:IntKind.i64.wrap (a/aA-b/aA)=a/aA-b/aA:=aK3 _ (by omega);have s4:IntKind.i64.wrap (-(a%aA-b%aA))= -(a%aA-b%aA):=aK3 _ (by omega);have s5:IntKind.i64.wrap (-(a/aA-b/aA))= -(a/aA-b/aA):=aK3 _ (by omega);go_enter func111,ntmps111;go_wp2;go_quiet (fail);go_wp2;go_quiet (fail);go_wp2;go_ret;exact⟨fE rfl,xE⟩
theorem aGz (aA aB a:Int)(p:OA)(n f:Nat)(w:World)(hn:n≤12)(h0:0≤a)(h1:a<n)
  (HV:xB 41 #[aH aA aB p n f] w true)
  (HH:Hid (∀w',U 110 #[aH aA aB p n f,a] w' (O (.bool true) w')))
  (HA:Hid (∀(k:Nat),k<n→ ∀w',U 111 #[aA,a,k] w' (O (I (aU aA a k)) w'))):
  U 169 #[aH aA aB p n f,a] w (bI (iK aA n a) w):=by
 go_enter func169,ntmps169;go_wp2_with fail;refine Z (HV _ xE) fun w1 x=>?_
 have B1:=xQ ((Blk.new w TH3 #[aA,aB,.slice p n f]).ext x);have X1:=xQ (show Ext w w1 from xE);obtain⟨b0,b1,b2⟩:=B1.out.cells3;clear x;go_wp2_with fail;refine Z (HH _) fun w2 t=>?_
 clear b0 b1 b2;have B2:=xQ (B1.out.ext t);have X2:=xQ (X1.out.trans t);obtain⟨b0,b1,b2⟩:=B2.out.cells3;clear t B1 X1;go_wp2;go_loopw [5,19] (fun v i wr=> ∃(k:Nat) (q:OA) (m c:Nat),k≤n∧i=I k∧v= .slice q m c∧m≤k∧wr.ownsRow (w.heap.size+1) TI 1 (.slice q m c) m (ivs (eR (fun b=>decide (aU aA a b=1)) k))∧Ext w wr∧Blk wr w TH3 #[aA,aB,.slice p n f]) (fun _ i _=>n-(intOf i).toNat)
 case atStart=>exact⟨0,_,0,0,aK8 _,rfl,rfl,aK1 _,aKi _ _ _ _,X2.out,B2.out⟩
 case round=>
  clear b0 b1 b2 B2 X2;obtain⟨k,q,m,c,hk,rfl,rfl,ad,l,r,hB⟩:=hrel;have HO:=xQ l;have HB:=xQ hB;clear l hB;obtain⟨b0,b1,b2⟩:=HB.out.cells3;by_cases hlt:k<n
  ·go_wp2_with fail;refine Z (HA k hlt _) fun w1 h1=>?_
   have h:=xQ (aY HO h1);have o:=xQ (HB.out.ext h1);have j:=xQ (r.trans h1);have ab:(w:Nat)<w1:=o.out.lt;clear h1 b0 b1 b2 HO HB r;by_cases hx0:aU aA a k=1
   ·have t0:(aU aA a k==1)=true:=by simp[hx0]
    have d:Hid (eR (fun b=>decide (aU aA a b=1)) (k+1)=eR (fun b=>decide (aU aA a b=1)) k++ [(k:Int)]):=by show _=_;rw[eR,if_pos (by simpa using hx0)]
    clear hx0;go_wp2_with (at_builtin;refine dA fH rfl _ _ rfl (w.heap.size+1) _ _ _ rfl (h.out.alloc _) _ _ (k:Int) _ rfl (by simp) (by omega) (by first|(simp;done)|(simp;omega)) ?_;intro p' u w2 g s;have z:=xQ g;have aa:Ext w w2:=Ext.own (j.out.alloc _) (h.out.alloc _) s (by omega);have y:=xQ (nX h s o.out);clear g s);go_roundw
    case rel=>exact⟨k+1,p',m+1,u,by omega,by go_num,rfl,by omega,by rw[d.out];exact z.out,aa,y.out⟩
    case measure=>simp[intOf];omega
   have t0:(aU aA a k==1)=false:=by simp[hx0]
   have d:Hid (eR (fun b=>decide (aU aA a b=1)) (k+1)=eR (fun b=>decide (aU aA a b=1)) k):=by show _=_;rw[eR,if_neg (by simpa using hx0),aKr]
   clear hx0;go_wp2;go_roundw
   case rel=>exact⟨k+1,q,m,c,by omega,by go_num,rfl,by omega,by rw[d.out];exact h.out,j.out,o.out⟩
   case measure=>simp[intOf];omega
  have d:Hid (eR (fun b=>decide (aU aA a b=1)) k=iK aA n a):=by show _=_;unfold iK;rw[show k=n by omega]
  go_wp2;go_ret;exact dL (by rw[←d.out];have:=HO.out.1;simpa using this) (by rw[←d.out];exact bF HO (Nat.le_succ _)) r
theorem aBz (aA aB a:Int)(p:OA)(n b:Nat)(xs:List Int)(w:World)(hS:Sl w p n b 1 (ivs xs))(c:aN aA aB xs=true)(h0:0≤a)(h1:a<n):
  U 169 #[aH aA aB p n b,a] w (bI (iK aA n a) w):=by
 have hl:=hS.ilen;obtain⟨g1,g2,g3,g4,g5,g6,g7,g8,g9⟩:=bL c;refine aGz aA aB a p n b w (by omega) h0 h1 (fun w' hx=>by have:=eV aA aB p n b xs w' (hS.ext hx);rwa[c]at this) (fun w'=> ?_) (fun k hk w'=>kS aA a k w' h0 (by omega) (by omega) (by omega) (by omega) (by omega));have:=gY aA aB a p n b w' (by omega);rwa[decide_eq_true (⟨h0,h1⟩:0≤a∧a<n)]at this
end Go.Proofs.YtbgkcehffiogcaaGreatDoor
