/-
  Texts of this proof, packed (@packed).
-/
import Derived.Deep.CutBlock
import Derived.Test.YtpelpnfhbepokaaGreatDoorV25
namespace Go.Proofs.YtpelpnfhbepokaaGreatDoor
open Go.RowKit
set_option linter.unusedVariables false
set_option linter.unusedSimpArgs false
set_option maxHeartbeats 8000000
set_option maxRecDepth 100000
theorem aAy (h:aO)(k a b:Int)(p:OA)(n c:Nat)(q:OA)(m c2:Nat)(w:World)(hi:IsHouse w h p n c q m c2):
  Calls Tryz.prog 38 #[bK h p n c q m c2,lY k a b] w (zE w):=by
 cases hok:aT h with
 |true=>exact qH h (.inl hok) k a b p n c q m c2 w hi
 |false=>refine(mT h k a b p n c q m c2 w hi hok).mono ?_;rintro e w' ⟨rfl,hx⟩;exact⟨gH,none,0,none,0,_,_,rfl,.inr rfl,World.ownsRow_nil _ _ _ _,World.ownsRow_nil _ _ _ _,hx⟩
def aDx (R:Nat)(w:World)(LT:List Item)(g:aO)(p:OA)(c:Nat)(q:OA)(d:Nat):Prop:=
 ∀w',MemR R w w' LT→IsHouse w' g p g.cells.length c q g.vs.length d∧(0<g.cells.length→ ∀b off,p=some ⟨b,off,none⟩→b≠R)∧(0<g.vs.length→ ∀b off,q=some ⟨b,off,none⟩→b≠R)
theorem aCz {R:Nat}{w:World}{g:aO}{p q:OA}{c d:Nat}:aDx R w [aJ w.heap.size TI 1 p g.cells.length c (ivs g.cells),aJ w.heap.size TV 4 q g.vs.length d (g.vs.flatMap aD)] g p c q d:=
 fun w' m=>⟨jY (i:=0) (j:=1) m rfl rfl,lT (i:=0) m rfl,lT (i:=1) m rfl⟩
def xF (R k:Nat)(w:World)(e:Ending)(w':World):Prop:=
 ∃(ds:List Dd3) (lq:OA) (lc:Nat),e= .returned (.slice lq ds.length lc)∧ds.length≤11∧w'.ownsRow w.heap.size TDd 3 (.slice lq ds.length lc) ds.length (ds.flatMap bI)∧Rand w' R (k+1000)∧ExtR R w w'∧ ∃gq,lq=some ⟨gq,0,none⟩
theorem pY (R k:Nat)(h:aO)(p:OA)(f:Nat)(q:OA)(c2:Nat)(w:World)(a1:Rand w R k)(hk:k≤1099511500000)(hs:h.cells.length≤13∧h.vs.length≤13)
  (hi:IsHouse w h p h.cells.length f q h.vs.length c2)(hp:0<h.cells.length→ ∀b off,p=some ⟨b,off,none⟩→b≠R)(hq:0<h.vs.length→ ∀b off,q=some ⟨b,off,none⟩→b≠R):
  Calls Tryz.prog 35 #[.pointer (some ⟨R,0,none⟩),bK h p h.cells.length f q h.vs.length c2] w (xF R k w):=by
 have hR:=a1.lt;have ay:=xQ (show aDx R w [] h p f q c2 from fun w' m=>⟨⟨m.ext.sl (b0:=0) hi.cells hp,m.ext.sl (b0:=0) hi.vs hq⟩,hp,hq⟩);clear hi hp hq;go_enter Tryz.func35,Tryz.ntmps35;go_wp2_with fail;refine(cL R k 12 _ (a1.ext xE) (by omega)).mono ?_;rintro e w1 ⟨x,rfl,xa,xb,r1,x1⟩;have M1:=(((((MemR.start R w hR).c0 aL #[h.aA,h.aB,.slice p h.cells.length f,h.free,h.step,h.aE,h.aF,h.aC,h.aG,.slice q h.vs.length c2]).made0 TDd 3 (w.heap.size+1) (by simp)).c2 aL #[h.aA,h.aB,.slice p h.cells.length f,h.free,h.step,h.aE,h.aF,h.aC,h.aG,.slice q h.vs.length c2]).pickd x1)
 clear x1;have t:=M1.hi 0;have aq:=M1.hi 2;obtain⟨j0,rfl⟩:=Int.eq_ofNat_of_zero_le xa;have y:j0≤11:=by omega
 clear xa xb;obtain⟨gX,a0⟩: ∃a,a=w.heap.size+1+1:=⟨_,rfl⟩
 rw[←a0]at M1 t⊢;clear a0;have MS:=(show MemR R w w1 (aJ w.heap.size TDd 3 (some ⟨w.heap.size+1,0,none⟩) (0) (0) ([])::aI w.heap.size (gX) aL #[h.aA,h.aB,.slice p h.cells.length f,h.free,h.step,h.aE,h.aF,h.aC,h.aG,.slice q h.vs.length c2]:: [])from M1.pick [1,0] (by decide) rfl)
 clear M1 t aq;go_wp2;go_loopw [5,7] (fun o i wr=> ∃(g:aO) (p3:OA) (c3:Nat) (q3:OA) (d3 j:Nat) (ds:List Dd3) (lq:OA) (lc:Nat) (LT:List Item),o= .slice lq ds.length lc∧i= .int .i64 (j:Int)∧ds.length+j≤11∧g.cells.length≤13∧g.vs.length≤13∧MemR R w wr (aJ w.heap.size TDd 3 (lq) (ds.length) (lc) (ds.flatMap bI)::aI w.heap.size (gX) aL #[g.aA,g.aB,.slice p3 g.cells.length c3,g.free,g.step,g.aE,g.aF,g.aC,g.aG,.slice q3 g.vs.length d3]::LT)∧aDx R w LT g p3 c3 q3 d3∧Rand wr R (k+1+60*(11-j))∧ ∃gq,lq=some ⟨gq,0,none⟩) (fun _ i _=>(intOf i).toNat)
 case atStart=>exact⟨h,p,f,q,c2,j0,[],_,0,[],rfl,rfl,by simpa using y,hs.1,hs.2,MS,ay.out,r1.mono (by omega),_,rfl⟩
 case round=>
  clear MS r1 ay y;obtain⟨g,p3,c3,q3,d3,j,ds,lq,lc,LT,rfl,rfl,hj,b7,b8,hM,hT,rr,c⟩:=hrel;have d:=xQ c;have M1:=hM;have HT:=xQ hT;clear hM hT c;have b4:R<wr.heap.size:=rr.lt;have ap:=M1.hi 1;by_cases y:j=0
  ·skip;subst y;go_wp2;go_ret;exact⟨ds,lq,lc,rfl,by omega,(M1.ow 0),rr.mono (by omega),M1.ext,d.out⟩
  obtain⟨j,rfl⟩: ∃i,j=i+1:=⟨j-1,by omega⟩
  have i1:decide ((0:Int)<((j+1:Nat):Int))=true:=by first|(simp;done)|(simp;omega)
  have i2:decide ((0:Int)<(j:Int)+1)=true:=by first|(simp;done)|(simp;omega)
  have b3:ds.length≤10:=by omega
  obtain⟨ab,ad,ae,af,ag,ah,ai,aj,ak,al⟩:=(M1.bk 1).ten;go_wp2_with fail;clear ab ad ae af ag ah ai aj ak al i1 i2;obtain⟨h1,h2,h3⟩:=HT _ (M1.sub (.cons _ (.cons _ (.refl _))));refine(lV R (k+1+60*(11-(j+1))) g p3 c3 q3 d3 _ rr (by omega) ⟨by omega,by omega⟩ h1 h2 h3).mono ?_;rintro e w2 ⟨da,db,dc,rfl,r2,x2⟩;clear h1 h2 h3 rr;have M2:=(M1.pickd x2)
  clear x2 M1 ap;have ar:=M2.hi 1;obtain⟨ab,ad,ae,af,ag,ah,ai,aj,ak,al⟩:=(M2.bk 1).ten;go_wp2_with fail;clear ab ad ae af ag ah ai aj ak al;refine(aAy g da db dc p3 _ c3 q3 _ d3 _ (HT _ ((M2.c0 TDd #[da,db,dc]).sub (.cons _ (.cons _ (.cons _ (.refl _)))))).1).mono ?_;rintro e w3 ⟨r,p5,c5,q5,d5,nn,ok,rfl,hg,ho,hv,hx⟩;have b6:=hg.small;have r3:Rand w3 R (k+1+60*(11-(j+1))+60):=(r2.ext ((Ext.refl _).alloc _)).ext hx;clear hg r2;have M3:=((M2.c0 TDd #[da,db,dc]).own2 (hx.r R) ho hv (by decide))
  clear ho hv hx M2 ar;have v:=M3.hi 2;have au:=M3.hi 4;obtain⟨gD,az⟩: ∃a,a=w2.heap.size:=⟨_,rfl⟩
  rw[←az]at M3 v⊢;clear az;go_upto_region 8 with fail;have r4:Rand (w3.alloc (.cells #[r.aA,r.aB,.slice p5 r.cells.length c5,r.free,r.step,r.aE,r.aF,r.aC,r.aG,.slice q5 r.vs.length d5] aL)) R (k+1+60*(11-(j+1))+60):=r3.alloc _;have M4:=(M3.c0 aL #[r.aA,r.aB,.slice p5 r.cells.length c5,r.free,r.step,r.aE,r.aF,r.aC,r.aG,.slice q5 r.vs.length d5])
  generalize s:(w3.alloc (.cells #[r.aA,r.aB,.slice p5 r.cells.length c5,r.free,r.step,r.aE,r.aF,r.aC,r.aG,.slice q5 r.vs.length d5] aL))=w4;rw[s]at M4 r4;clear s r3 M3 v au;have av:=M4.hi 0;have aw:=M4.hi 3;have ax:=M4.hi 5;cases ok with
  |false=>
   obtain⟨am,an,ao⟩:=(M4.bk 3).tri;go_wp2_with (at_builtin;refine kV aDo rfl _ _ rfl (M4.adv ((Ext.refl _).alloc (.cells #[da,db,dc] TDd))) 4 rfl rfl (bI (da,db,dc)) rfl (dJ _ _ _ 1 3 _ (by first|rfl|simp) (by first|rfl|simp) (by simp[maxLen])) (fun u hu=>mQ [(da,db,dc)] u (by simpa using hu)) (by omega) ?_;intro q7 c7 w7 l n;have r7:Rand w7 R (k+1+60*(11-(j+1))+60):=n _ xN);clear am an ao;have M7:=l;clear l n d;obtain⟨gq,c,_,_⟩:=M7.so 4;have d:=xQ c;clear c;go_wp2;go_roundw
   case rel=>
    have e7:(ds++ [(da,db,dc)]).length=ds.length+1:=by simp
    have e8:(ds++ [(da,db,dc)]).flatMap bI=ds.flatMap bI++bI (da,db,dc):=by simp
    refine⟨g,p3,c3,q3,d3,j,ds++ [(da,db,dc)],q7,c7,LT,by rw[e7],by go_num,by rw[e7];omega,by omega,by omega,?_,HT.out,r7.mono (by omega),_,d.out⟩;rw[e7,e8];exact M7.sub (.cons _ (.cons _ (.cons _ (.cons _ (.refl _)))))
   case measure=>first|(simp[intOf];done)|(simp[intOf];omega)
  |true=>
   obtain⟨bo,bp,bq,br,bs,bt,bu,bv,bw,bx⟩:=(M4.bk 0).ten;obtain⟨bc,a2,bd,a3,be,a4,bf,a5,bg,a6,bh,a7,bi,a8,bj,a9,bl,ba,bm,bb⟩:=(M4.bk 5).tenf;obtain⟨z,aa⟩:=M4.nq 0 5;go_upto_region 10 with fail;clear bo bp bq br bs bt bu bv bw bx bc a2 bd a3 be a4 bf a5 bg a6 bh a7 bi a8 bj a9 bl ba bm bb z aa;have b5:R<gX:=by have:=(M4.lt (i:=5) rfl rfl).1;omega
   have r5:Rand ((((((((((w4.setCell ⟨gX,0,none⟩ (.int .i64 r.aA)).setCell ⟨gX,1,none⟩ (.int .i64 r.aB)).setCell ⟨gX,2,none⟩ (.slice p5 r.cells.length c5)).setCell ⟨gX,3,none⟩ (.int .i64 r.free)).setCell ⟨gX,4,none⟩ (.int .i64 r.step)).setCell ⟨gX,5,none⟩ (.int .i64 r.aE)).setCell ⟨gX,6,none⟩ (.int .i64 r.aF)).setCell ⟨gX,7,none⟩ (.int .i64 r.aC)).setCell ⟨gX,8,none⟩ (.int .i64 r.aG)).setCell ⟨gX,9,none⟩ (.slice q5 r.vs.length d5)) R (k+1+60*(11-(j+1))+60):=xN;have M5:=(M4.put10 (i:=5) rfl (.int .i64 r.aA) (.int .i64 r.aB) (.slice p5 r.cells.length c5) (.int .i64 r.free) (.int .i64 r.step) (.int .i64 r.aE) (.int .i64 r.aF) (.int .i64 r.aC) (.int .i64 r.aG) (.slice q5 r.vs.length d5))
   generalize s:World.setCell _ _ _=w5;rw[s]at M5 r5;clear s r4 M4 av aw ax;have bz:=M5.hi 0;have b1:=M5.hi 3;have b2:=M5.hi 5;obtain⟨am,an,ao⟩:=(M5.bk 3).tri;go_wp2_with (at_builtin;refine kV aDo rfl _ _ rfl (M5.adv ((Ext.refl _).alloc (.cells #[da,db,dc] TDd))) 4 rfl rfl (bI (da,db,dc)) rfl (dJ _ _ _ 1 3 _ (by first|rfl|simp) (by first|rfl|simp) (by simp[maxLen])) (fun u hu=>mQ [(da,db,dc)] u (by simpa using hu)) (by omega) ?_;intro q7 c7 w7 l n;have r7:Rand w7 R (k+1+60*(11-(j+1))+60):=n _ xN);clear am an ao;have M7:=l;clear l n d;obtain⟨gq,c,_,_⟩:=M7.so 4;have d:=xQ c;clear c;go_wp2;go_roundw
   case rel=>
    have e7:(ds++ [(da,db,dc)]).length=ds.length+1:=by simp
    have e8:(ds++ [(da,db,dc)]).flatMap bI=ds.flatMap bI++bI (da,db,dc):=by simp
    refine⟨r,p5,c5,q5,d5,j,ds++ [(da,db,dc)],q7,c7,_,by rw[e7],by go_num,by rw[e7];omega,by omega,by omega,?_,aCz,r7.mono (by omega),_,d.out⟩;rw[e7,e8];exact M7.pick [4,5,1,2] (by decide) rfl
   case measure=>first|(simp[intOf];done)|(simp[intOf];omega)
theorem wI {R B n sz:Nat}{e:TypeId}{w w':World}{v:Value}{xs:List Value}(ho:w.ownsRow B e sz v n xs)(hx:ExtR R w w')(hB:R<B):w'.ownsRow B e sz v n xs:=
 jL ho (fun g hg=>hx.block g (World.ownsRow.lt ho g hg).2 (fun e=>by injection e with e;have:=(World.ownsRow.lt ho g hg).1;omega))
def zG (w:World)(e:Ending)(w':World):Prop:=
 ∃(h:aO) (p:OA) (cap:Nat) (q:OA) (c2:Nat) (ds:List Dd3) (lq:OA) (lc:Nat),e= .returned (.tuple #[bK h p h.cells.length cap q h.vs.length c2,.slice lq ds.length lc])∧h.cells.length≤13∧h.vs.length≤13∧ds.length≤11∧IsHouse w' h p h.cells.length cap q h.vs.length c2∧Sl w' lq ds.length lc 3 (ds.flatMap bI)∧Ext w w'∧ ∃gq,lq=some ⟨gq,0,none⟩
theorem yX (v:Value)(w:World)(hc:Code w v):Calls Tryz.prog 7 #[v] w (zG w):=by
 go_enter Tryz.func7,Tryz.ntmps7;go_wp2_with fail;refine(sM v _ (hc.ext xE)).mono ?_;rintro e w1 ⟨R,rfl,hR,r1,x1⟩;have a5:w.heap.size<R:=by have:=hR;simp at this;omega
 have hR:=r1.lt;have M1:=(((Mem.start w).c0 aL zT).adv x1)
 have ao:=M1.hi 0;clear x1;go_wp2_with fail;refine(pX R 0 12 _ r1 (by omega) (by omega) (by omega)).mono ?_;rintro e w2 ⟨h,p,a,q,c2,rfl,al,am,ho,hv,r2,x2⟩;have M2:=(show MemR R w1 w2 [aJ w1.heap.size TI 1 (p) (h.cells.length) (a) (ivs h.cells),aJ w1.heap.size TV 4 (q) (h.vs.length) (c2) (h.vs.flatMap aD)]from(MemR.start R w1 hR).own2 x2 ho hv (by decide))
 have z2:=x2.sz;clear ho hv x2;go_upto_region 3 with fail;have r3:Rand (w2.alloc (.cells #[h.aA,h.aB,.slice p h.cells.length a,h.free,h.step,h.aE,h.aF,h.aC,h.aG,.slice q h.vs.length c2] aL)) R 20000:=by first|(exact xN)|exact(r2.alloc _).mono (by omega)
 have M3:=(M2.c0 aL #[h.aA,h.aB,.slice p h.cells.length a,h.free,h.step,h.aE,h.aF,h.aC,h.aG,.slice q h.vs.length c2])
 generalize s:(w2.alloc (.cells #[h.aA,h.aB,.slice p h.cells.length a,h.free,h.step,h.aE,h.aF,h.aC,h.aG,.slice q h.vs.length c2] aL))=w3;rw[s]at M3 r3;clear s r2 r1 M2;have ap:=M3.hi 0;have a4:R<w2.heap.size:=by omega
 have X3:=xQ (ExtR.new M1.ext M3.ext (by omega));have B0:=xQ (M3.bk 0);have BH:=xQ (M3.ext.blk (M1.bk 0) (by omega));have f:=xQ fun(w':World) (kk:Nat) (hkk:kk≤1099511500000) (hx:ExtR R w3 w') (hr:Rand w' R kk)=>pY R kk h p a q c2 w' hr hkk (by omega) (jY (i:=1) (j:=2) (M3.pickd hx) rfl rfl) (lT (i:=1) M3 rfl) (lT (i:=2) M3 rfl)
 unfold xF at f;refine nD (gl [gEq (.agg #[h.aA,h.aB,.slice p h.cells.length a,h.free,h.step,h.aE,h.aF,h.aC,h.aG,.slice q h.vs.length c2]),gEq (.pointer (some ⟨R,0,none⟩)),gEq (.agg #[h.aA,h.aB,.slice p h.cells.length a,h.free,h.step,h.aE,h.aF,h.aC,h.aG,.slice q h.vs.length c2]),(fun v w'=> ∃(ds:List Dd3) (lq:OA) (lc:Nat),v= .slice lq ds.length lc∧ds.length≤11∧w'.ownsRow w3.heap.size TDd 3 (.slice lq ds.length lc) ds.length (ds.flatMap bI)∧ ∃gq,lq=some ⟨gq,0,none⟩)]) R (20000) 1000 4 (by kernel_rfl) rfl (by kernel_rfl) (by kernel_rfl) (by kernel_rfl) r3 (uP (bU (dY _) (bU (dY _) (bU (dY _) (bU (fun v w w' ⟨ds,lq,lc,e,l,o,x⟩ hx=>⟨ds,lq,lc,e,l,wI o hx r3.lt,x⟩) (yR)))))) rfl (k:=6) (by kernel_rfl) (by decide) (ls:= [(0,some 10),(1,some 11),(2,some 12),(3,some 13)]) (by kernel_rfl) (ir:= [0,1,2,3]) (by kernel_rfl) ?steps (tl:=#[true,true,true,true,false,false]) (by kernel_rfl) ?fin
 case steps=>
  refine sCr [] rfl (fun wi kk hx hr hkk=> ?_) ?_
  ·intro K hK;have b:ExtR R w3 wi:=hx.of_drew;obtain⟨z,aa,ab,ad,ae,af,ag,ah,ai,aj⟩:=(b.blk B0 (by omega)).ten;go_simp;exact hK _ _ ⟨.agg #[h.aA,h.aB,.slice p h.cells.length a,h.free,h.step,h.aE,h.aF,h.aC,h.aG,.slice q h.vs.length c2],rfl,rfl,(fX hr (Ext.refl _))⟩
  refine sSr0 [] ?_;refine sCr [] rfl (fun wi kk hx hr hkk=> ?_) ?_
  ·intro K hK;have b:ExtR R w3 wi:=hx.of_drew;obtain⟨z,aa,ab,ad,ae,af,ag,ah,ai,aj⟩:=(b.blk B0 (by omega)).ten;go_simp;exact hK _ _ ⟨.agg #[h.aA,h.aB,.slice p h.cells.length a,h.free,h.step,h.aE,h.aF,h.aC,h.aG,.slice q h.vs.length c2],rfl,rfl,(fX hr (Ext.refl _))⟩
  refine sCr [(1,some 11),(2,some 12)] rfl (fun wi kk hx hr hkk=> ?_) StepsLR.nil
  ·intro v1 h1 v2 h2 K hK;obtain rfl:=h1;obtain rfl:=h2;go_wp2_with fail;have an:w3.heap.size≤wi.heap.size:=hx.sz;refine(f _ kk (by omega) hx.of_drew hr).mono ?_;rintro e w5 ⟨ds,lq,lc,rfl,hl,ho,r5,x5,hq⟩;have HQ:=xQ hq;clear hq;go_simp;exact hK _ _ ⟨_,rfl,⟨ds,lq,lc,rfl,hl,bE ho an,HQ.out⟩,⟨x5,r5⟩⟩
 case fin=>
  intro wi hx hr v0 h0 v1 h1 v2 h2 v3 h3;obtain rfl:=h0;obtain rfl:=h1;obtain rfl:=h2;obtain⟨m,u,t,rfl,ak,n,r⟩:=h3;have y:=xQ r;clear r;have b:ExtR R w3 wi:=hx.of_drew;have z3:w3.heap.size≤wi.heap.size:=b.sz;have Xi:=xQ (ExtR.new X3 b (by omega));have d:=b.blk BH (by omega);have oi:=wI (M3.ow 1) b (by omega);have vi:=wI (M3.ow 2) b (by omega);clear B0 BH f hx b X3 r3 hr M3 M1;have lH:w.heap.size<wi.heap.size:=d.lt;obtain⟨z0,au,z1,av,z2,aw,z3,ax,z4,ay,z5,az,z6,a0,z7,a1,z8,a2,z9,a3⟩:=d.tenf;refine wpAny_ready (rs:= [4]) (by kernel_rfl) (by simp) ?_;refine AllReady.cons rfl (fun K hK=> ?_) AllReady.nil;go_simp;refine hK _ _ ?_;clear hK K z0 au z1 av z2 aw z3 ax z4 ay z5 az z6 a0 z7 a1 z8 a2 z9 a3;have BX:=d;generalize g:World.setCell _ _ _=w9;have c:ExtR (w.heap.size) wi w9:=by rw[←g];exact((((((((((ExtR.refl (w.heap.size) wi).setCell (p:=⟨w.heap.size,0,none⟩) (.inl rfl) (.int .i64 h.aA)).setCell (p:=⟨w.heap.size,1,none⟩) (.inl rfl) (.int .i64 h.aB)).setCell (p:=⟨w.heap.size,2,none⟩) (.inl rfl) (.slice p h.cells.length a)).setCell (p:=⟨w.heap.size,3,none⟩) (.inl rfl) (.int .i64 h.free)).setCell (p:=⟨w.heap.size,4,none⟩) (.inl rfl) (.int .i64 h.step)).setCell (p:=⟨w.heap.size,5,none⟩) (.inl rfl) (.int .i64 h.aE)).setCell (p:=⟨w.heap.size,6,none⟩) (.inl rfl) (.int .i64 h.aF)).setCell (p:=⟨w.heap.size,7,none⟩) (.inl rfl) (.int .i64 h.aC)).setCell (p:=⟨w.heap.size,8,none⟩) (.inl rfl) (.int .i64 h.aG)).setCell (p:=⟨w.heap.size,9,none⟩) (.inl rfl) (.slice q h.vs.length c2)
  have YX:=(((((((((BX.set 0 (.int .i64 h.aA)).set 1 (.int .i64 h.aB)).set 2 (.slice p h.cells.length a)).set 3 (.int .i64 h.free)).set 4 (.int .i64 h.step)).set 5 (.int .i64 h.aE)).set 6 (.int .i64 h.aF)).set 7 (.int .i64 h.aC)).set 8 (.int .i64 h.aG)).set 9 (.slice q h.vs.length c2);simp only[List.setIfInBounds_toArray,List.set_cons_zero,List.set_cons_succ]at YX;rw[g]at YX;clear g;have aq:=wI oi c (by omega);have ar:=wI vi c (by omega);refine wpAny_ready (rs:= [5]) (by kernel_rfl) (by simp) ?_;refine AllReady.cons rfl (fun K hK=> ?_) AllReady.nil;go_simp;refine hK _ _ ?_;clear hK K;have YH:=YX;have Xl:=wI n c (by omega);have X9:Ext w w9:=ExtR.new Xi c (by omega);clear c YX Xi d oi vi n;refine wpAny_done (by kernel_rfl) ?_ _;try go_frame
  go_wp2;obtain⟨y0,y1,y2,y3,y4,y5,y6,y7,y8,y9⟩:=YH.ten;exact bodyPost_ret (v:= .tuple #[.agg #[h.aA,h.aB,.slice p h.cells.length a,h.free,h.step,h.aE,h.aF,h.aC,h.aG,.slice q h.vs.length c2],.slice u m.length t]) (by simp[results,Tryz.results7,go_sem, *]) rfl ⟨h,p,a,q,c2,m,u,t,rfl,al,am,ak,⟨Sl.own aq,Sl.own ar⟩,Sl.own Xl,X9,y.out⟩
end Go.Proofs.YtpelpnfhbepokaaGreatDoor
namespace Go.Proofs.YtpelpnfhbepokaaGreatDoor
open Go.RowKit
set_option linter.unusedVariables false
set_option linter.unusedSimpArgs false
theorem Mem.own2blk {w0 w w':World}{L:List Item}{e1 e2 t:TypeId}{s1 s2 n1 n2 c1 c2 g:Nat}{q1 q2:OA}{d a:List Value}{cs:Array Value}(h:Mem w0 w L)(hx:Ext w w')(hb:Blk w' g t cs)(hg:w.heap.size≤g)(h1:w'.ownsRow w.heap.size e1 s1 (.slice q1 n1 c1) n1 d)(h2:w'.ownsRow w.heap.size e2 s2 (.slice q2 n2 c2) n2 a)(ht:e1≠e2)(t1:e1≠t)(t2:e2≠t):
  Mem w0 w' (aJ w0.heap.size e1 s1 q1 n1 c1 d::aJ w0.heap.size e2 s2 q2 n2 c2 a::aI w0.heap.size g t cs::L):=by
 have b: ∀ {e:TypeId} {s n c:Nat} {q:OA} {xs:List Value},w'.ownsRow w.heap.size e s (.slice q n c) n xs→e≠t→(Value.slice q n c).ownBlock≠Option.some g:=by
  intro e s n c q xs ho f he;rcases ho.2 with⟨b1,_⟩|⟨g1,cap1,cur1,b1,_,b3,_⟩
  ·rw[b1]at he;cases he
  rw[b1]at he;injection he with he;have x1:g1=g:=he;subst x1;unfold Blk at hb;rw[hb]at b3;injection b3 with b3;injection b3 with _ b3;exact f b3.symm
 have H:=h.own2 hx h1 h2 (Nat.le_refl _) ht;have p1:=List.pairwise_cons.1 H.apart;have p2:=List.pairwise_cons.1 p1.2;have HB:=h.blkOf hx hb hg
 have H2:Mem w0 w' (aJ w0.heap.size e2 s2 q2 n2 c2 a::aI w0.heap.size g t cs::L):=HB.cons (eI _ _ _ _ _ _ _) (dX h2 h.ext.sz) (fun g' hg' j hj e=>by
  rcases List.mem_cons.1 hj with rfl|hj
  ·obtain rfl:g=g':=e;exact b h2 t2 hg'
  ·exact p2.1 j hj g' hg' e)
 exact H2.cons (eI _ _ _ _ _ _ _) (dX h1 h.ext.sz) (fun g' hg' j hj e=>by
  rcases List.mem_cons.1 hj with rfl|hj
  ·exact p1.1 _ (by simp) g' hg' e
  ·rcases List.mem_cons.1 hj with rfl|hj
   ·obtain rfl:g=g':=e;exact b h1 t1 hg'
   ·exact p1.1 j (by simp[hj]) g' hg' e)
def hZ:aO:=⟨0,0,[],0,0,0,0,0,0,[]⟩
def doR (h:aO)(k a b:Int):aO×Int×Bool:=
 if aT h=true then(match cA h k a b with
  |none=>(h,-1,false)
  |some (h',n)=>(h',n,true))else(hZ,-1,false)
def aLt (B:Nat)(r:aO×Int×Bool)(w':World)(e:Ending)(w'':World):Prop:=
 ∃pa ca qa da,e= .returned (.tuple #[bK r.1 pa r.1.cells.length ca qa r.1.vs.length da,r.2.1,.bool r.2.2])∧w''.ownsRow B TI 1 (.slice pa r.1.cells.length ca) r.1.cells.length (ivs r.1.cells)∧w''.ownsRow B TV 4 (.slice qa r.1.vs.length da) r.1.vs.length (r.1.vs.flatMap aD)∧Ext w' w''
theorem aE6 {h:aO}{k a b:Int}{w w':World}{e:Ending}{B:Nat}(hB:B≤w.heap.size)(c:aT h=true)(hr:aEs h (cA h k a b) w e w'):aLt B (doR h k a b) w e w':=by
 unfold doR;rw[if_pos c];unfold aEs at hr;cases hd:cA h k a b with
 |none=>rw[hd]at hr;obtain⟨pa,ca,qa,da,rfl,o1,o2,hx⟩:=hr;exact⟨pa,ca,qa,da,rfl,dX o1 hB,dX o2 hB,hx⟩
 |some r=>obtain⟨h',n⟩:=r;rw[hd]at hr;obtain⟨pa,ca,qa,da,rfl,o1,o2,hx⟩:=hr;exact⟨pa,ca,qa,da,rfl,dX o1 hB,dX o2 hB,hx⟩
abbrev TB:TypeId:=4
def bcs (bs:List Bool):List Value:=bs.map .bool
theorem aKk (bs:List Bool):(bcs bs).length=bs.length:=by simp[bcs]
theorem aBf (bs:List Bool)(b:Bool):bcs (bs++ [b])=bcs bs++ [.bool b]:=by simp[bcs]
theorem elB:ElT Tryz.prog 34 TB 1:=
 ⟨Tryz.underlying34,by
  obtain⟨i,hi,h0,h1,h2⟩:=info_parts (show(Tryz.prog.info? TB).map (fun i=>(i.zero,i.size,i.bytes))=some (some (.bool false),1,1) by kernel_rfl)
  exact⟨i,_,hi,h0,h1,by omega,rfl⟩,by omega⟩
def sI (h:aO)(d:Dd3):aO:=(doR h d.1 d.2.1 d.2.2).1
def gE (h:aO)(ds:List Dd3):aO:=ds.foldl sI h
def dN:aO→List Dd3→List Bool
 |_,[]=> []
 |h,d::ds=>(doR h d.1 d.2.1 d.2.2).2.2::dN (sI h d) ds
theorem rB (h:aO)(l:List Dd3)(d:Dd3):gE h (l++ [d])=(doR (gE h l) d.1 d.2.1 d.2.2).1:=by simp[gE,sI]
theorem pH: ∀(l:List Dd3) (h:aO) (d:Dd3),dN h (l++ [d])=dN h l++ [(doR (gE h l) d.1 d.2.1 d.2.2).2.2]:=by
 intro l;induction l with
 |nil=>intro h d;rfl
 |cons x l ih=>intro h d;show _::dN (sI h x) (l++ [d])=_;rw[ih];rfl
theorem rS: ∀(l:List Dd3) (h:aO),(dN h l).length=l.length:=by
 intro l;induction l with
 |nil=>intro h;rfl
 |cons x l ih=>intro h;show(dN (sI h x) l).length+1=_;rw[ih];rfl
theorem aI2 {h:aO}(a:aT h=true)(d:Dd3):aT (sI h d)=true:=by
 unfold sI doR;rw[if_pos a];cases hd:cA h d.1 d.2.1 d.2.2 with
 |none=>exact a
 |some r=>obtain⟨h',n⟩:=r;exact(kO a hd).1
theorem tE: ∀(l:List Dd3) {h:aO},aT h=true→aT (gE h l)=true:=by
 intro l;induction l with
 |nil=>intro h a;exact a
 |cons x l ih=>intro h a;exact ih (aI2 a x)
def mI (h:aO)(ds:List Dd3):aO×List Bool:=if aT h=true then(gE h ds,dN h ds)else(hZ,[])
def lL (B:Nat)(r:aO×List Bool)(w':World)(e:Ending)(w'':World):Prop:=
 ∃pa ca qa da ps cs,e= .returned (.tuple #[bK r.1 pa r.1.cells.length ca qa r.1.vs.length da,.slice ps r.2.length cs])∧w''.ownsRow B TI 1 (.slice pa r.1.cells.length ca) r.1.cells.length (ivs r.1.cells)∧w''.ownsRow B TV 4 (.slice qa r.1.vs.length da) r.1.vs.length (r.1.vs.flatMap aD)∧w''.ownsRow B TB 1 (.slice ps r.2.length cs) r.2.length (bcs r.2)∧Ext w' w''
theorem aA6 (h:aO)(ds:List Dd3):(mI h ds).1.cells.length≤1000∧(mI h ds).1.vs.length≤1000∧(mI h ds).2.length≤ds.length:=by
 unfold mI;by_cases hok:aT h=true
 ·rw[if_pos hok];have:=iH (tE ds hok);dsimp only;rw[rS];omega
 rw[if_neg hok];simp[hZ]
set_option maxHeartbeats 8000000
set_option maxRecDepth 100000
theorem aE5 {B:Nat}{h g:aO}{ds:List Dd3}{lm:Nat}{pa qa ps:OA}{ca da cs:Nat}{w' a:World}(hg:g=gE h ds)(hl:ds.length=lm)(o1:a.ownsRow B TI 1 (.slice pa g.cells.length ca) g.cells.length (ivs g.cells))(o2:a.ownsRow B TV 4 (.slice qa g.vs.length da) g.vs.length (g.vs.flatMap aD))(o3:a.ownsRow B TB 1 (.slice ps lm cs) lm (bcs (dN h ds)))(hx:Ext w' a):
  lL B (gE h ds,dN h ds) w' (.returned (.tuple #[bK g pa g.cells.length ca qa g.vs.length da,.slice ps lm cs])) a:=by
 subst hg;have hd:(dN h ds).length=lm:=by rw[rS,hl]
 subst hd;exact⟨pa,ca,qa,da,ps,cs,rfl,o1,o2,o3,hx⟩
theorem aKh {l:List Value}{k n:Nat}(hl:l.length=k)(hk:k<n):(l++List.replicate (n-k) (Value.bool false))[k]? =some (Value.bool false):=by rw[List.getElem?_append_right (by omega),hl,Nat.sub_self];simp[List.getElem?_replicate];omega
theorem aJ9 {l:List Value}{k n:Nat}{b:Value}(hl:l.length=k)(hk:k<n):(l++List.replicate (n-k) (Value.bool false)).set k b=(l++ [b])++List.replicate (n-(k+1)) (Value.bool false):=by
 obtain⟨j,rfl⟩: ∃j,n=k+1+j:=⟨n-(k+1),by omega⟩
 rw[show k+1+j-k=j+1 by omega,show k+1+j-(k+1)=j by omega,List.set_append,if_neg (by omega),hl,Nat.sub_self,List.replicate_succ];simp
theorem aJr (h:aO)(p:OA)(a:Nat)(q:OA)(c2:Nat)(lq:OA)(lm lc:Nat)(ds:List Dd3)(w:World)
  (d:xC 12 #[.agg #[h.aA,h.aB,.slice p h.cells.length a,h.free,h.step,h.aE,h.aF,h.aC,h.aG,.slice q h.vs.length c2]] w fun w' e w''=>e= .returned (Value.bool false)∧Ext w' w''):
  Calls Tryz.prog 9 #[.agg #[h.aA,h.aB,.slice p h.cells.length a,h.free,h.step,h.aE,h.aF,h.aC,h.aG,.slice q h.vs.length c2],.slice lq lm lc] w (lL w.heap.size (hZ,[]) w):=by
 go_enter Tryz.func9,Tryz.ntmps9;go_wp2_with fail;refine(d _ ((((Mem.start w).c0 aL #[h.aA,h.aB,.slice p h.cells.length a,h.free,h.step,h.aE,h.aF,h.aC,h.aG,.slice q h.vs.length c2]).c1 aL zT).made0 TB 1 (w.heap.size+1+1) (by simp)).ext).mono ?_;rintro e w1 ⟨rfl,g⟩;have M1:=(((((Mem.start w).c0 aL #[h.aA,h.aB,.slice p h.cells.length a,h.free,h.step,h.aE,h.aF,h.aC,h.aG,.slice q h.vs.length c2]).c1 aL zT).made0 TB 1 (w.heap.size+1+1) (by simp)).adv g)
 have b:=M1.hi 1;have c:=M1.hi 2;clear g d;obtain⟨f0,j,f1,k,f2,l,f3,m,f4,n,f5,o,f6,r,f7,s,f8,t,f9,u⟩:=(M1.bk 1).tenf;go_wp2;clear f0 j f1 k f2 l f3 m f4 n f5 o f6 r f7 s f8 t f9 u b c;have M2:=(M1.put10 (i:=1) rfl (.int .i64 0) (.int .i64 0) (.slice none 0 0) (.int .i64 0) (.int .i64 0) (.int .i64 0) (.int .i64 0) (.int .i64 0) (.int .i64 0) (.slice none 0 0))
 generalize f:World.setCell _ _ _=wz;rw[f]at M2;clear f M1;obtain⟨y0,y1,y2,y3,y4,y5,y6,y7,y8,y9⟩:=(M2.bk 1).ten;exact bodyPost_ret (v:= .tuple #[.agg #[(),(),((),()),(),(),(),(),(),(),((),())],.slice (some ⟨w.heap.size+1+1,0,none⟩) 0 0]) (by simp[results,Tryz.results9,go_sem, *]) rfl (show lL w.heap.size (hZ,[]) w _ _ from⟨none,0,none,0,_,0,rfl,World.ownsRow_nil _ _ _ _,World.ownsRow_nil _ _ _ _,(M2.ow 0),M2.ext⟩)
theorem aLf (h:aO)(p:OA)(f:Nat)(q:OA)(c2:Nat)(lq:OA)(lm lc:Nat)(ds:List Dd3)(w:World)(hb:lm≤1048576)(ah:Hid (ds.length=lm))(bq:Hid (aT h=true))(HS:Hid (Sl w lq lm lc 3 (ds.flatMap bI)))
  (ao:xB 12 #[.agg #[h.aA,h.aB,.slice p h.cells.length f,h.free,h.step,h.aE,h.aF,h.aC,h.aG,.slice q h.vs.length c2]] w true)
  (HL:xC 37 #[.agg #[h.aA,h.aB,.slice p h.cells.length f,h.free,h.step,h.aE,h.aF,h.aC,h.aG,.slice q h.vs.length c2]] w fun w' e w''=> ∃p' cap' q' c2',e= .returned (.agg #[h.aA,h.aB,.slice p' h.cells.length cap',h.free,h.step,h.aE,h.aF,h.aC,h.aG,.slice q' h.vs.length c2'])∧w''.ownsRow w'.heap.size TI 1 (.slice p' h.cells.length cap') h.cells.length (ivs h.cells)∧w''.ownsRow w'.heap.size TV 4 (.slice q' h.vs.length c2') h.vs.length (h.vs.flatMap aD)∧Ext w' w''):
  Calls Tryz.prog 9 #[.agg #[h.aA,h.aB,.slice p h.cells.length f,h.free,h.step,h.aE,h.aF,h.aC,h.aG,.slice q h.vs.length c2],.slice lq lm lc] w (lL w.heap.size (gE h ds,dN h ds) w):=by
 go_enter Tryz.func9,Tryz.ntmps9;go_wp2_with fail;refine(ao _ ((((Mem.start w).c0 aL #[h.aA,h.aB,.slice p h.cells.length f,h.free,h.step,h.aE,h.aF,h.aC,h.aG,.slice q h.vs.length c2]).c1 aL zT).made0 TB 1 (w.heap.size+1+1) (by simp)).ext).mono ?_;rintro e w1 ⟨rfl,au⟩;have M1:=(((((Mem.start w).c0 aL #[h.aA,h.aB,.slice p h.cells.length f,h.free,h.step,h.aE,h.aF,h.aC,h.aG,.slice q h.vs.length c2]).c1 aL zT).made0 TB 1 (w.heap.size+1+1) (by simp)).adv au)
 have ai:=M1.hi 1;have aj:=M1.hi 2;clear au ao;obtain⟨a3,a4,a5,a6,a7,a8,a9,ba,bb,bc⟩:=(M1.bk 2).ten;go_wp2_with fail;clear a3 a4 a5 a6 a7 a8 a9 ba bb bc;refine(HL _ M1.ext).mono ?_;rintro e w2 ⟨p1,x,q1,y,rfl,ho,hq,hx⟩;have M2:=(M1.own2 hx ho hq (Nat.le_refl _) (by decide))
 clear M1 ai aj hx ho hq HL;have ak:=M2.hi 3;have al:=M2.hi 4;go_upto_region 5 with fail;obtain⟨gV,ag⟩: ∃gV,gV=w2.heap.size:=⟨_,rfl⟩
 rw[←ag];have M3:=(M2.blkNew aL #[h.aA,h.aB,.slice p1 h.cells.length x,h.free,h.step,h.aE,h.aF,h.aC,h.aG,.slice q1 h.vs.length y] gV ag.symm)
 generalize World.alloc _ _=w3 at M3⊢;clear M2 ak al ag;have b2:=M3.hi 0;have b3:=M3.hi 4;have b4:=M3.hi 5;go_wp2;go_loopw [6,8] (fun dn i wr=> ∃(k:Nat) (g:aO) (p3:OA) (c3:Nat) (q3:OA) (d3:Nat) (ps:OA) (cs:Nat),k≤lm∧i= .int .i64 (k:Int)∧dn= .slice ps k cs∧g=gE h (ds.take k)∧Mem w wr [aJ w.heap.size TB 1 (ps) (k) (cs) (bcs (dN h (ds.take k))),aJ w.heap.size TI 1 (p3) (g.cells.length) (c3) (ivs g.cells),aJ w.heap.size TV 4 (q3) (g.vs.length) (d3) (g.vs.flatMap aD),aI w.heap.size (gV) aL #[g.aA,g.aB,.slice p3 g.cells.length c3,g.free,g.step,g.aE,g.aF,g.aC,g.aG,.slice q3 g.vs.length d3],aI w.heap.size (w.heap.size+1) aL #[(),(),((),()),(),(),(),(),(),(),((),())],aI w.heap.size (w.heap.size) aL #[h.aA,h.aB,.slice p h.cells.length f,h.free,h.step,h.aE,h.aF,h.aC,h.aG,.slice q h.vs.length c2]]) (fun _ i _=>lm-(intOf i).toNat)
 case atStart=>exact⟨0,h,p1,x,q1,y,_,_,Nat.zero_le _,rfl,rfl,rfl,(show Mem w w3 [aJ w.heap.size TB 1 (some ⟨w.heap.size+1+1,0,none⟩) (0) (0) ([]),aJ w.heap.size TI 1 (p1) (h.cells.length) (x) (ivs h.cells),aJ w.heap.size TV 4 (q1) (h.vs.length) (y) (h.vs.flatMap aD),aI w.heap.size (gV) aL #[h.aA,h.aB,.slice p1 h.cells.length x,h.free,h.step,h.aE,h.aF,h.aC,h.aG,.slice q1 h.vs.length y],aI w.heap.size (w.heap.size+1) aL #[(),(),((),()),(),(),(),(),(),(),((),())],aI w.heap.size (w.heap.size) aL #[h.aA,h.aB,.slice p h.cells.length f,h.free,h.step,h.aE,h.aF,h.aC,h.aG,.slice q h.vs.length c2]]from M3.pick [3,1,2,0,4,5] (by decide) rfl)⟩
 case round=>
  clear M3;obtain⟨k,g,p3,c3,q3,d3,ps,cs,hk,rfl,rfl,hg,hM⟩:=hrel;have HM:=hM;have HG:=xQ hg;have an:Hid (aT g=true):=by show _=_;rw[hg];exact tE _ bq.out
  clear hM hg;by_cases hlt:k<lm
  ·obtain⟨b,s,a0,a1,a2,bp,hx,af,e0,e1,e2⟩:=aEl (HS.out.ext HM.ext) hlt;subst bp;have HX:=xQ hx;clear hx;have i1:(0:Int)≤(k:Int):=by omega
   have i2:(k:Int)<(lm:Int):=by omega
   obtain⟨r,num,ok,hr⟩: ∃r num ok,(r,num,ok)=doR g a0 a1 a2:=⟨_,_,_,rfl⟩
   have HR:=xQ hr;clear hr;have ar:Hid (gE h (ds.take (k+1))=r∧dN h (ds.take (k+1))=dN h (ds.take k)++ [ok]):=by show _∧_;rw[bA HX.out,rB,pH,←HG.out,←HR.out];exact⟨rfl,rfl⟩
   have HD:Hid (∀B p c q d w',B≤w'.heap.size→Ext wr w'→IsHouse w' g p g.cells.length c q g.vs.length d→Calls Tryz.prog 38 #[.agg #[g.aA,g.aB,.slice p g.cells.length c,g.free,g.step,g.aE,g.aF,g.aC,g.aG,.slice q g.vs.length d],.agg #[a0,a1,a2]] w' fun e w''=> ∃pa ca qa da,e= .returned (.tuple #[.agg #[r.aA,r.aB,.slice pa r.cells.length ca,r.free,r.step,r.aE,r.aF,r.aC,r.aG,.slice qa r.vs.length da],num,.bool ok])∧w''.ownsRow B TI 1 (.slice pa r.cells.length ca) r.cells.length (ivs r.cells)∧w''.ownsRow B TV 4 (.slice qa r.vs.length da) r.vs.length (r.vs.flatMap aD)∧Ext w' w''):=fun B p c q d w' hB hx hi=>by refine(sF g a0 a1 a2 p _ c q _ d w' hi an.out).mono (fun e w'' hr=> ?_);have hq:=aE6 hB an hr;rw[←HR.out]at hq;exact hq
   have IX:=xQ (show IsHouse wr g p3 g.cells.length c3 q3 g.vs.length d3 from⟨(HM.sq 1),(HM.sq 2)⟩);have m:gV<wr.heap.size:=(HM.hi 3)
   have n:w.heap.size+1<wr.heap.size:=(HM.hi 4)
   have o:w.heap.size<wr.heap.size:=(HM.hi 5)
   obtain⟨br,bs,bt,bu,bv,bw,bx,bz,b0,b1⟩:=(HM.bk 3).ten;have aw: ¬(gV=wr.heap.size):=by omega
   have ax: ¬(wr.heap.size=gV):=by omega
   have ay: ¬(b=wr.heap.size):=by omega
   have az: ¬(wr.heap.size=b):=by omega
   have xm:=HM.ext;go_upto_region 8 with fail;go_cut [9,10,11] (fun s1 s2 s3 wx=> ∃(g5:Nat) (p5:OA) (c5:Nat) (q5:OA) (d5:Nat),s1= .pointer (some ⟨g5,0,none⟩)∧s2= .int .i64 num∧s3= .bool ok∧Mem w wx [aI w.heap.size (g5) aL #[r.aA,r.aB,.slice p5 r.cells.length c5,r.free,r.step,r.aE,r.aF,r.aC,r.aG,.slice q5 r.vs.length d5],aJ w.heap.size TI 1 (p5) (r.cells.length) (c5) (ivs r.cells),aJ w.heap.size TV 4 (q5) (r.vs.length) (d5) (r.vs.flatMap aD),aJ w.heap.size TB 1 (ps) (k) (cs) (bcs (dN h (ds.take k))),aJ w.heap.size TI 1 (p3) (g.cells.length) (c3) (ivs g.cells),aJ w.heap.size TV 4 (q3) (g.vs.length) (d3) (g.vs.flatMap aD),aI w.heap.size (gV) aL #[g.aA,g.aB,.slice p3 g.cells.length c3,g.free,g.step,g.aE,g.aF,g.aC,g.aG,.slice q3 g.vs.length d3],aI w.heap.size (w.heap.size+1) aL #[(),(),((),()),(),(),(),(),(),(),((),())],aI w.heap.size (w.heap.size) aL #[h.aA,h.aB,.slice p h.cells.length f,h.free,h.step,h.aE,h.aF,h.aC,h.aG,.slice q h.vs.length c2]])
   case first=>
    go_region_held3 (fun w'=>w'.cell? ⟨gV,0,none⟩=some (.int .i64 g.aA)∧w'.cell? ⟨gV,1,none⟩=some (.int .i64 g.aB)∧w'.cell? ⟨gV,2,none⟩=some (.slice p3 g.cells.length c3)∧w'.cell? ⟨gV,3,none⟩=some (.int .i64 g.free)∧w'.cell? ⟨gV,4,none⟩=some (.int .i64 g.step)∧w'.cell? ⟨gV,5,none⟩=some (.int .i64 g.aE)∧w'.cell? ⟨gV,6,none⟩=some (.int .i64 g.aF)∧w'.cell? ⟨gV,7,none⟩=some (.int .i64 g.aC)∧w'.cell? ⟨gV,8,none⟩=some (.int .i64 g.aG)∧w'.cell? ⟨gV,9,none⟩=some (.slice q3 g.vs.length d3)∧w'.cell? ⟨b,s+k*3,none⟩=some (.int .i64 a0)∧w'.cell? ⟨b,s+k*3+1,none⟩=some (.int .i64 a1)∧w'.cell? ⟨b,s+k*3+2,none⟩=some (.int .i64 a2))
     (first|(refine⟨?_,?_,?_,?_,?_,?_,?_,?_,?_,?_,?_,?_,?_⟩<;>with_reducible assumption)|go_keep)
     (first
      |(go_at_call 38
        refine(HD wr.heap.size _ _ _ _ _ (Ext.sz (show Ext wr _ from xE)) xE (IX.out.ext xE)).mono ?_;rintro e ws ⟨p5,c5,q5,d5,rfl,os,am,av⟩;have a:Ext wr ws:=xE;obtain⟨c9,db,dc,dd,de,df,dg,dh,di,dj⟩:=((HM.bk 3).ext a).ten;have dk:ws.cell? ⟨b,s+k*3,none⟩=some (.int .i64 a0):=(a.cells.1 _ _ af).trans e0;have dl:ws.cell? ⟨b,s+k*3+1,none⟩=some (.int .i64 a1):=(a.cells.1 _ _ af).trans e1;have dm:ws.cell? ⟨b,s+k*3+2,none⟩=some (.int .i64 a2):=(a.cells.1 _ _ af).trans e2;have c1: ¬(gV=ws.heap.size):=by have:=a.sz;omega
        have c4: ¬(ws.heap.size=gV):=by have:=a.sz;omega
        have c6: ¬(b=ws.heap.size):=by have:=a.sz;omega
        have c8: ¬(ws.heap.size=b):=by have:=a.sz;omega
        first
         |(with_reducible have hz:Ext (wr.alloc (.cells #[(),(),((),()),(),(),(),(),(),(),((),())] aL)) ws:=av;have MB:=(Mem.own2blk HM a ((Blk.new wr aL #[(),(),((),()),(),(),(),(),(),(),((),())]).ext hz) (Nat.le_refl _) os am (by decide) (by decide) (by decide));obtain⟨cg,cq,ch,cr,ci,ct,cj,cu,ck,cv,cl,cw,cm,cx,cn,cy,co,cz,cp,c0⟩:=(MB.blk (i:=2) rfl).tenf)
         |(with_reducible have hz:Ext (wr.alloc (.cells #[(),(),((),()),(),(),(),(),(),(),((),())] aL)) ws:=av.of_drew;have MB:=(Mem.own2blk HM a ((Blk.new wr aL #[(),(),((),()),(),(),(),(),(),(),((),())]).ext hz) (Nat.le_refl _) os am (by decide) (by decide) (by decide));obtain⟨cg,cq,ch,cr,ci,ct,cj,cu,ck,cv,cl,cw,cm,cx,cn,cy,co,cz,cp,c0⟩:=(MB.blk (i:=2) rfl).tenf)
         |(have MA:=(Mem.own2 HM a os am (Nat.le_refl _) (by decide)))))
    all_goals (
     go_wp2_with fail;go_meet
     first
      |exact⟨_,p5,c5,q5,d5,rfl,rfl,rfl,(MB.put10 (i:=2) rfl (.int .i64 r.aA) (.int .i64 r.aB) (.slice p5 r.cells.length c5) (.int .i64 r.free) (.int .i64 r.step) (.int .i64 r.aE) (.int .i64 r.aF) (.int .i64 r.aC) (.int .i64 r.aG) (.slice q5 r.vs.length d5)).pick [2,0,1,3,4,5,6,7,8] (by decide) rfl⟩
      |exact⟨_,p5,c5,q5,d5,rfl,rfl,rfl,MA.bn aL #[r.aA,r.aB,.slice p5 r.cells.length c5,r.free,r.step,r.aE,r.aF,r.aC,r.aG,.slice q5 r.vs.length d5] _⟩)
   case rest=>
    clear br bs bt bu bv bw bx bz b0 b1 aw ax ay az xm e0 e1 e2 HD IX;obtain⟨g5,p5,c5,q5,d5,rfl,rfl,rfl,aq⟩:=hcut;obtain⟨v5,rfl⟩: ∃z,z=wc:=⟨_,rfl⟩
    have MC:=aq;clear aq HM m n o;have aa:g5<v5.heap.size:=(MC.hi 0)
    have ab:gV<v5.heap.size:=(MC.hi 6)
    have ad:w.heap.size+1<v5.heap.size:=(MC.hi 7)
    have ae:w.heap.size<v5.heap.size:=(MC.hi 8)
    obtain⟨x0,x1,x2,x3,x4,x5,x6,x7,x8,x9⟩:=(MC.bk 0).ten;obtain⟨v0,b5,v1,b6,v2,b7,v3,b8,v4,b9,v5,cb,v6,cc,v7,cd,v8,ce,v9,cf⟩:=(MC.bk 6).tenf;obtain⟨j,l⟩:=MC.nq 0 6;go_upto_region 10 with fail;clear x0 x1 x2 x3 x4 x5 x6 x7 x8 x9 v0 b5 v1 b6 v2 b7 v3 b8 v4 b9 v5 cb v6 cc v7 cd v8 ce v9 cf j l;have ap:=(MC.put10 (i:=6) rfl (.int .i64 r.aA) (.int .i64 r.aB) (.slice p5 r.cells.length c5) (.int .i64 r.free) (.int .i64 r.step) (.int .i64 r.aE) (.int .i64 r.aF) (.int .i64 r.aC) (.int .i64 r.aG) (.slice q5 r.vs.length d5))
    generalize t:World.setCell _ _ _=wz;rw[t]at ap;clear t MC aa ab ad ae;go_wp2_with (at_builtin;go_loud (refine cE elB rfl _ _ rfl (ap.adv ((Ext.refl _).alloc (.cells #[.bool ok] TB))) 3 rfl rfl [.bool ok] rfl (dJ _ _ _ 1 1 _ (by first|rfl|simp) (by first|rfl|simp) (by simp[maxLen])) (fun u hu=>by obtain rfl:=List.mem_singleton.1 hu;rfl) (by omega) ?_;intro q7 c7 w6 M6));go_roundw
    case rel=>
     have hd:bcs (dN h (ds.take (k+1)))=bcs (dN h (ds.take k))++ [.bool ok]:=by rw[ar.out.2,aBf]
     exact⟨k+1,r,p5,c5,q5,d5,q7,c7,by omega,by go_num,rfl,ar.out.1.symm,by rw[hd];exact(show Mem w w6 [aJ w.heap.size TB 1 (q7) (k+1) (c7) (bcs (dN h (ds.take k))++ [.bool ok]),aJ w.heap.size TI 1 (p5) (r.cells.length) (c5) (ivs r.cells),aJ w.heap.size TV 4 (q5) (r.vs.length) (d5) (r.vs.flatMap aD),aI w.heap.size (gV) aL #[r.aA,r.aB,.slice p5 r.cells.length c5,r.free,r.step,r.aE,r.aF,r.aC,r.aG,.slice q5 r.vs.length d5],aI w.heap.size (w.heap.size+1) aL #[(),(),((),()),(),(),(),(),(),(),((),())],aI w.heap.size (w.heap.size) aL #[h.aA,h.aB,.slice p h.cells.length f,h.free,h.step,h.aE,h.aF,h.aC,h.aG,.slice q h.vs.length c2]]from(show Mem w w6 [aI w.heap.size (g5) aL #[r.aA,r.aB,.slice p5 r.cells.length c5,r.free,r.step,r.aE,r.aF,r.aC,r.aG,.slice q5 r.vs.length d5],aJ w.heap.size TI 1 (p5) (r.cells.length) (c5) (ivs r.cells),aJ w.heap.size TV 4 (q5) (r.vs.length) (d5) (r.vs.flatMap aD),aJ w.heap.size TB 1 (q7) (k+1) (c7) (bcs (dN h (ds.take k))++ [.bool ok]),aJ w.heap.size TI 1 (p3) (g.cells.length) (c3) (ivs g.cells),aJ w.heap.size TV 4 (q3) (g.vs.length) (d3) (g.vs.flatMap aD),aI w.heap.size (gV) aL #[r.aA,r.aB,.slice p5 r.cells.length c5,r.free,r.step,r.aE,r.aF,r.aC,r.aG,.slice q5 r.vs.length d5],aI w.heap.size (w.heap.size+1) aL #[(),(),((),()),(),(),(),(),(),(),((),())],aI w.heap.size (w.heap.size) aL #[h.aA,h.aB,.slice p h.cells.length f,h.free,h.step,h.aE,h.aF,h.aC,h.aG,.slice q h.vs.length c2]]from M6).pick [3,1,2,6,7,8] (by decide) rfl)⟩
    case measure=>simp[intOf];omega
  obtain rfl:lm=k:=by omega
  have m:gV<wr.heap.size:=(HM.hi 3)
  have n:w.heap.size+1<wr.heap.size:=(HM.hi 4)
  have o:w.heap.size<wr.heap.size:=(HM.hi 5)
  obtain⟨v0,v1,v2,v3,v4,v5,v6,v7,v8,v9⟩:=(HM.bk 3).ten;obtain⟨f0,bd,f1,be,f2,bf,f3,bg,f4,bh,f5,bi,f6,bj,f7,bl,f8,bm,f9,bo⟩:=(HM.bk 4).tenf;obtain⟨j,l⟩:=HM.nq 3 4;go_wp2;clear v0 v1 v2 v3 v4 v5 v6 v7 v8 v9 f0 bd f1 be f2 bf f3 bg f4 bh f5 bi f6 bj f7 bl f8 bm f9 bo j l m n o;have M6:=xQ (HM.put10 (i:=4) rfl (.int .i64 g.aA) (.int .i64 g.aB) (.slice p3 g.cells.length c3) (.int .i64 g.free) (.int .i64 g.step) (.int .i64 g.aE) (.int .i64 g.aF) (.int .i64 g.aC) (.int .i64 g.aG) (.slice q3 g.vs.length d3));generalize t:World.setCell _ _ _=wz;rw[t]at M6;clear t HM;obtain⟨y0,y1,y2,y3,y4,y5,y6,y7,y8,y9⟩:=(M6.out.bk 4).ten;exact bodyPost_ret (v:= .tuple #[.agg #[g.aA,g.aB,.slice p3 g.cells.length c3,g.free,g.step,g.aE,g.aF,g.aC,g.aG,.slice q3 g.vs.length d3],.slice ps lm cs]) (by simp[results,Tryz.results9,go_sem, *]) rfl (aE5 (by have h1:=HG.out;rw[List.take_of_length_le (by rw[ah.out];exact Nat.le_refl _)]at h1;exact h1) ah.out (M6.out.ow 1) (M6.out.ow 2) (by have h1:=(M6.out.ow 0);rw[List.take_of_length_le (by rw[ah.out];exact Nat.le_refl _)]at h1;exact h1) M6.out.ext)
theorem xM (h:aO)(p:OA)(n a:Nat)(q:OA)(m c2:Nat)(lq:OA)(lm lc:Nat)(ds:List Dd3)(w:World)(hi:IsHouse w h p n a q m c2)(hS:Sl w lq lm lc 3 (ds.flatMap bI))(hb:lm≤1048576):
  Calls Tryz.prog 9 #[bK h p n a q m c2,.slice lq lm lc] w (lL w.heap.size (mI h ds) w):=by
 have hl:=hi.clen;have c:=hi.vlen;have b:ds.length=lm:=by have:=hS.len;rw[dC bI 3 (fun _=>rfl)]at this;omega
 subst hl c;have HV:=xQ fun(w':World) (hx:Ext w w')=>kC h p _ a q _ c2 w' (hi.ext hx)
 by_cases hok:aT h=true
 ·have d:=iH hok;unfold mI;rw[if_pos hok];rw[hok]at HV;have HL:=xQ fun(w':World) (hx:Ext w w')=>pA h p _ a q _ c2 w' (by omega) (by omega) (hi.ext hx)
  unfold dG at HL;exact aLf h p a q c2 lq lm lc ds w hb b hok hS HV HL
 unfold mI;rw[if_neg hok];rw[show aT h=false by simpa using hok]at HV;exact aJr h p a q c2 lq lm lc ds w HV
theorem iI (aA aB c:Int)(p:OA)(n a:Nat)(w:World)(hn:n≤12):Calls Tryz.prog 149 #[aH aA aB p n a,c] w fun e w'=>e= .returned (.bool (decide (0≤c∧c<n)))∧Ext w w':=by
 by_cases h0:0≤c
 ·have d0:decide (0≤c)=true:=by simp[h0]
  by_cases h1:c<n
  ·have d1:decide (c<(n:Int))=true:=by simp[h1]
   go_enter Tryz.func149,Tryz.ntmps149;go_wp2;go_ret;exact⟨aR (by simp[h0,h1]),xE⟩
  have d1:decide (c<(n:Int))=false:=by simp;omega
  go_enter Tryz.func149,Tryz.ntmps149;go_wp2;go_ret;exact⟨aR (by simp[h0,h1]),xE⟩
 have d0:decide (0≤c)=false:=by simp;omega
 go_enter Tryz.func149,Tryz.ntmps149;go_wp2;go_ret;exact⟨aR (by simp[h0]),xE⟩
theorem lI (aA a b:Int)(w:World)(h0:0≤a)(h1:a≤100)(h2:0≤b)(h3:b≤100)(h4:2≤aA)(h5:aA≤4):Calls Tryz.prog 150 #[aA,a,b] w fun e w'=>e= .returned (.int .i64 (aW aA a b))∧Ext w w':=by
 have q0: ¬(aA=0):=by omega
 have r1:a.tmod aA=a%aA:=IntWalk.rem_in _ _ h0;have r2:b.tmod aA=b%aA:=IntWalk.rem_in _ _ h2;have d1:IntKind.i64.wrap (a.tdiv aA)=a/aA:=IntWalk.i64_quo _ _ (by omega);have d2:IntKind.i64.wrap (b.tdiv aA)=b/aA:=IntWalk.i64_quo _ _ (by omega);have e1:=Int.emod_nonneg a q0;have e2:=Int.emod_nonneg b q0;have e3:=Int.emod_lt_of_pos a (show 0<aA by omega);have e4:=Int.emod_lt_of_pos b (show 0<aA by omega);have e5:=Int.ediv_nonneg h0 (show 0≤aA by omega);have e6:=Int.ediv_nonneg h2 (show 0≤aA by omega);have e7:=Int.ediv_le_self aA h0;have e8:=Int.ediv_le_self aA h2;have s1:IntKind.i64.wrap (max (a%aA-b%aA) (-(a%aA-b%aA))+max (a/aA-b/aA) (-(a/aA-b/aA)))=aW aA a b:=by rw[IntWalk.i64_in _ (by omega)];unfold aW oK;omega
 have s2:IntKind.i64.wrap (a%aA-b%aA)=a%aA-b%aA:=IntWalk.i64_in _ (by omega);have s3:IntKind.i64.wrap (a/aA-b/aA)=a/aA-b/aA:=IntWalk.i64_in _ (by omega);have s4:IntKind.i64.wrap (-(a%aA-b%aA))= -(a%aA-b%aA):=IntWalk.i64_in _ (by omega);have s5:IntKind.i64.wrap (-(a/aA-b/aA))= -(a/aA-b/aA):=IntWalk.i64_in _ (by omega);go_enter Tryz.func150,Tryz.ntmps150;go_wp2;go_quiet (fail);go_wp2;go_quiet (fail);go_wp2;go_ret;exact⟨fC rfl,xE⟩
end Go.Proofs.YtpelpnfhbepokaaGreatDoor
