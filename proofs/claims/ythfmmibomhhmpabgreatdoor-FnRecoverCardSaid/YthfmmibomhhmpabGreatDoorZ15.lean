/- Lemmas (@packed). -/
import Derived.Deep.CutBlock
import Derived.Test.YthfmmibomhhmpabGreatDoorZ14
namespace Go.Proofs.YthfmmibomhhmpabGreatDoor
open Go.RowKit Go.Proofs.Tryz
set_option linter.all false
set_option maxHeartbeats 8000000
set_option maxRecDepth 100000
variable{l:List Value}{g k R B:Nat}{w':World}(bs:List Bool)(h:aQ)(aA aB f t:Int)(p:OA)(b a:Nat)(q:OA)(c2:Nat)(lq:OA)(lm lc:Nat)(ds:List Dd3)(n c i j:Nat)(x y:Int)(w:World)
def aJs (R k:Nat)(w:World)(e:Ending)(w':World):Prop:=
 ∃(h:aQ) (p:OA) (cap:Nat) (q:OA) (c2:Nat) (b:ByteArray),e= .returned (.tuple #[bV h p h.cells.length cap q h.vs.length c2,.string b])∧h.cells.length≤13∧h.vs.length≤13∧b.size≤5000∧
  w'.ownsRow w.heap.size TI 1 (.slice p h.cells.length cap) h.cells.length (ivs h.cells)∧w'.ownsRow w.heap.size TV 4 (.slice q h.vs.length c2) h.vs.length (h.vs.flatMap aC)∧Rand w' R (k+30000)∧ExtR R w w'
def wF (w:World)(e:Ending)(w':World):Prop:=
 ∃(h:aQ) (p:OA) (cap:Nat) (q:OA) (c2:Nat) (f:Int) (b:ByteArray),e= .returned (.tuple #[bV h p h.cells.length cap q h.vs.length c2,f,.string b])∧h.cells.length≤13∧h.vs.length≤13∧1≤f∧f≤2∧b.size≤5000∧IsHouse w' h p h.cells.length cap q h.vs.length c2∧Ext w w'
theorem aRb {n sz:Nat}{e t:TypeId}{cs:Array Value}{w:World}{v:Value}{xs:List Value}(ho:w.ownsRow B e sz v n xs)(hx:XS R g t cs w.drew w')(hB:R<B)(hg:g<B):w'.ownsRow B e sz v n xs:=
 mW ho (fun k hk=>hx.block k (aWw ho k hk).2 (by have:=(aWw ho k hk).1;omega) (by have:=(aWw ho k hk).1;omega))
theorem XS.new {t:TypeId}{cs:Array Value}{a c d:World}(h2:Ext a d)(k:XS R g t cs d.drew c)(hR:a.heap.size≤R)(hg:a.heap.size≤g):Ext a c:=
 ⟨k.os.trans h2.os,k.tape.trans h2.tape,k.output.trans h2.output,aW8 h2.size k.size,fun i hi=>(k.block i (aVy hi h2.size) (by omega) (by omega)).trans (h2.block i hi)⟩
theorem aI3 {t:TypeId}{cs:Array Value}{w:World}(h:Rand w R k)(hb:Blk w g t cs)(hx:ExtR g w w')(i:g≠R)(j: ∀x:Int,Value.int .u8 x∉cs):Rand w' R k:=by
 obtain⟨p,n,d,q,bs,h1,h2,h3,h4,h5,h6,h7⟩:=h;refine⟨p,n,d,q,bs,hx.blk h1 (fun e=>i e.symm),h2,h3,⟨h4.len,h4.le,h4.mx,fun h0=> ?_⟩,h5,h6,h7⟩;obtain⟨b,c,rfl,a,hc⟩:=h4.rd h0;have f:b≠g:=by
  rintro rfl;have h8:=hc 0 (by omega);rw[hb.cell (c+0)]at h8;have hl:=h4.len;cases bs with
  |nil=>simp at hl;omega
  |cons x bs=>simp at h8;exact j x (Array.mem_of_getElem? h8)
 exact⟨b,c,rfl,aVy a hx.sz,fun k hk=>(hx.cell _ a f).trans (hc k hk)⟩
theorem aG6 (first:Int)(ds:List fH):(gZ first ds).length≤200*ds.length:=by
 unfold gZ;cases h:jt first ds with
 |none=>simp
 |some x=>simpa using(aUi ds first x h).2
theorem aSt (os:List Dd3)(a b c:Int):(os++ [(a,b,c)]).length=os.length+1∧(os++ [(a,b,c)]).flatMap bT=os.flatMap bT++bT (a,b,c):=by simp
theorem sR (R k:Nat)(n:Int)(w:World)(ad:Rand w R k)(hk:k≤900000)(al:0≤n)(am:n≤1000000):
  U 18 #[.pointer (some ⟨R,0,none⟩),n] w (aJs R k w):=by
 have hR:=ad.lt;go_enter func18,ntmps18;go_wp2_with fail;refine(aG2 R k n _ (ad.ext xE) (by omega) al am).mono ?_;rintro e w1 ⟨h,p,d,q,c2,rfl,r,s,ho,hv,r1,x1⟩;have M1:=(((MemR.start R w hR).c0 aN zT).own2 x1 ho hv (by decide))
 clear ho hv x1 ad;go_wp2_with fail;refine(xG R (k+20000) h p d q c2 _ xN (by omega) ⟨by omega,by omega⟩ (nN (i:=2) (j:=3) ((M1.c0 aN (aYo h p d q c2)).made0 TDd 3 (w1.heap.size+1) (by simp)) rfl rfl) (pY (i:=2) ((M1.c0 aN (aYo h p d q c2)).made0 TDd 3 (w1.heap.size+1) (by simp)) rfl) (pY (i:=3) ((M1.c0 aN (aYo h p d q c2)).made0 TDd 3 (w1.heap.size+1) (by simp)) rfl)).mono ?_;rintro e w2 ⟨ds,lq,lc,rfl,hl,ho,r2,x2,_⟩;have M2:=(((M1.c0 aN (aYo h p d q c2)).made0 TDd 3 (w1.heap.size+1) (by simp)).callR x2 ho)
 clear ho x2 r1 M1;have m:=M2.hi 2;obtain⟨gX,aa⟩: ∃a,a=w1.heap.size:=⟨_,rfl⟩
 obtain⟨go,ab⟩: ∃a,a=w1.heap.size+1:=⟨_,rfl⟩
 rw[←aa]at ab;rw[←aa]at M2 m⊢;rw[←ab]at M2⊢;clear aa ab;have MS:=(show MemR R w w2 [aJ w TDd 3 (some ⟨go,0,none⟩) (([]:List Dd3).length) (0) (([]:List Dd3).flatMap bT),aJ w TDd 3 (lq) (ds.length) (lc) (ds.flatMap bT),aI w (gX) aN (aYo h p d q c2),aYm w p h.cells d,aYn w q h.vs c2,aI w w aN #[(),(),((),()),(),(),(),(),(),(),((),())]]from M2.pick [1,0,2,3,4,5] (by decide) rfl)
 clear M2 m;go_wp2;go_loopw [7,9] (fun o i wr=> ∃(os:List Dd3) (oq:OA) (oc j:Nat),o= .slice oq os oc∧i=I j∧j≤ds.length∧os.length≤j∧MemR R w wr [aJ w TDd 3 (oq) (os.length) (oc) (os.flatMap bT),aJ w TDd 3 (lq) (ds.length) (lc) (ds.flatMap bT),aI w (gX) aN (aYo h p d q c2),aYm w p h.cells d,aYn w q h.vs c2,aI w w aN #[(),(),((),()),(),(),(),(),(),(),((),())]]∧Rand wr R (k+25000)) (fun _ i _=>ds.length-(intOf i).toNat)
 case atStart=>exact⟨[],_,_,0,rfl,rfl,aW6 _,aVz _,MS,r2.mono (by omega)⟩
 case round=>
  clear MS r2;obtain⟨os,oq,oc,j,rfl,rfl,hj,aq,hM,rr⟩:=hrel;have M5:=hM;clear hM;by_cases hlt:j<ds.length
  ·skip;obtain⟨b,au,a0,a1,a2,ak,hx,y,e0,e1,e2⟩:=aH1 (M5.sq 1) hlt;subst ak;clear hx;have i1:=aYp j;have i2:(j:Int)<(ds.length:Int):=by omega
   obtain⟨tx,ah⟩: ∃t,aZ a0 a1 a2=t:=⟨_,rfl⟩
   have HS:Hid (∀w,U 46 #[cS a0 a1 a2] w (Z (str tx) w)):=fun w=>by rw[←ah];exact wP _ _ _ w
   clear ah;go_wp2_with fail;refine Ω (HS _) fun w3 x3=>?_
   have r3:=rr.ext x3;have f0:=(x3.cells.1 _ _ y).trans e0;have f1:=(x3.cells.1 _ _ y).trans e1;have f2:=(x3.cells.1 _ _ y).trans e2;have M6:=(M5.adv x3)
   clear rr x3 HS e0 e1 e2 M5;by_cases h0:tx= []
   ·skip;have ai:tx.isEmpty=true:=by simp[h0]
    clear h0;go_wp2;go_roundw
    case rel=>exact⟨os,oq,oc,j+1,rfl,by go_num,by omega,by omega,M6,r3⟩
    case measure=>first|(simp[intOf];done)|(simp[intOf];omega)
   skip;have ai:tx.isEmpty=false:=by simp[h0]
   clear h0;have ar:os.length≤11:=by omega
   go_wp2_with (at_builtin;refine mR aVe rfl _ _ rfl (M6.adv ((Ext.refl _).alloc (.cells #[a0,a1,a2] TDd))) 0 rfl rfl (bT (a0,a1,a2)) rfl (fC _ _ _ 1 3 _ (by first|rfl|simp) (by first|rfl|simp) (by simp[maxLen])) (fun u hu=>aH2 [(a0,a1,a2)] u (by simpa using hu)) (by omega) ?_;intro q7 c7 w7 ae ag;have r7:Rand w7 R (k+25000):=ag _ xN);have M7:=ae;clear ae ag f0 f1 f2;go_wp2;go_roundw
   case rel=>have e7:=aSt os a0 a1 a2;refine⟨os++ [(a0,a1,a2)],q7,c7,j+1,by rw[e7.1],by go_num,by omega,by rw[e7.1];omega,?_,r7⟩;rw[e7.1,e7.2];exact M7
   case measure=>first|(simp[intOf];done)|(simp[intOf];omega)
  skip;obtain⟨x,hx⟩: ∃t,t=gZ 1 os:=⟨_,rfl⟩
  have an:x.length≤2400:=by rw[hx];have:=aG6 1 os;omega
  obtain⟨bt,af,aj⟩: ∃b:ByteArray,str x= .string b∧b.size=x.length:=⟨_,rfl,aIf _⟩
  have HJ:=xQ (aHp 1 (.slice oq os oc) os wr (by unfold B64;omega) (aTo (by omega) (M5.ow 0)) (by omega));rw[←hx,af]at HJ;have ap:bt.size≤2400:=by omega
  clear hx an af aj;go_wp2_with fail;refine HJ.out.mono ?_;rintro e w3 ⟨rfl,x3⟩;have r3:=rr.ext x3;have M6:=(M5.adv x3)
  clear rr x3 HJ M5;go_wp2_with fail;refine(cP R (k+25000) 4 _ r3 (by omega)).mono ?_;rintro e w4 ⟨c,rfl,ca,cb,r4,x4⟩;clear r3;have M7:=(M6.pickd x4)
  clear x4 M6;have ao:R<w:=hR;rcases(show c=0∨c=1∨c=2∨c=3 by omega)with rfl|rfl|rfl|rfl
  ·skip;go_wp2_with fail;refine(vF R (k+25000+1) bt _ r4 (by omega) (by omega)).mono ?_;rintro e w5 ⟨z,rfl,hz,r5,x5⟩;clear r4;have M8:=(M7.pickd x5)
   clear x5 M7;have g:=(M8.bk 2).ten;have l:=(M8.bk 5).tenf;go_wp2;clear g l;have r9:Rand ((((((((((w5.setCell ⟨w,0,none⟩ (I h.aA)).setCell ⟨w,1,none⟩ (I h.aB)).setCell ⟨w,2,none⟩ (.slice p h.cells d)).setCell ⟨w,3,none⟩ (I h.free)).setCell ⟨w,4,none⟩ (I h.step)).setCell ⟨w,5,none⟩ (I h.aE)).setCell ⟨w,6,none⟩ (I h.aF)).setCell ⟨w,7,none⟩ (I h.aD)).setCell ⟨w,8,none⟩ (I h.aG)).setCell ⟨w,9,none⟩ (.slice q h.vs c2)) R (k+30000):=by have:=r5.mono (show _≤k+30000 by omega);exact xN
   have M9:=(M8.put10 (i:=5) rfl (I h.aA) (I h.aB) (.slice p h.cells d) (I h.free) (I h.step) (I h.aE) (I h.aF) (I h.aD) (I h.aG) (.slice q h.vs c2))
   generalize f:World.setCell _ _ _=w9;rw[f]at M9 r9;clear f M8;have y_:=(M9.bk 5).ten;exact aYw (v:= .tuple #[.agg #[h.aA,h.aB,.slice p h.cells d,h.free,h.step,h.aE,h.aF,h.aD,h.aG,.slice q h.vs c2],.string z]) ⟨h,p,d,q,c2,z,rfl,r,s,(by omega),(M9.ow 3),(M9.ow 4),r9,M9.ext⟩
  ·skip;go_wp2_with fail;refine(cP R (k+25000+1) ((bt.size:Int)+1) _ r4 (by omega)).mono ?_;rintro e w5 ⟨jc,rfl,ja,jb,r5,x5⟩;clear r4;obtain⟨jn,rfl⟩:=aWk ja;have i1:jn≤bt.size:=by omega
   have i2:(jn:Int)≤(bt.size:Int):=by omega
   have M8:=(M7.pickd x5)
   clear x5 M7;have g:=(M8.bk 2).ten;have l:=(M8.bk 5).tenf;go_wp2;clear g l;have r9:Rand ((((((((((w5.setCell ⟨w,0,none⟩ (I h.aA)).setCell ⟨w,1,none⟩ (I h.aB)).setCell ⟨w,2,none⟩ (.slice p h.cells d)).setCell ⟨w,3,none⟩ (I h.free)).setCell ⟨w,4,none⟩ (I h.step)).setCell ⟨w,5,none⟩ (I h.aE)).setCell ⟨w,6,none⟩ (I h.aF)).setCell ⟨w,7,none⟩ (I h.aD)).setCell ⟨w,8,none⟩ (I h.aG)).setCell ⟨w,9,none⟩ (.slice q h.vs c2)) R (k+30000):=by have:=r5.mono (show _≤k+30000 by omega);exact xN
   have M9:=(M8.put10 (i:=5) rfl (I h.aA) (I h.aB) (.slice p h.cells d) (I h.free) (I h.step) (I h.aE) (I h.aF) (I h.aD) (I h.aG) (.slice q h.vs c2))
   generalize f:World.setCell _ _ _=w9;rw[f]at M9 r9;clear f M8;have y_:=(M9.bk 5).ten;exact aYw (v:= .tuple #[.agg #[h.aA,h.aB,.slice p h.cells d,h.free,h.step,h.aE,h.aF,h.aD,h.aG,.slice q h.vs c2],.string (bt.extract 0 jn)]) ⟨h,p,d,q,c2,(bt.extract 0 jn),rfl,r,s,(by simp[ByteArray.size_extract];omega),(M9.ow 3),(M9.ow 4),r9,M9.ext⟩
  ·skip;have g:=(M7.bk 2).ten;have l:=(M7.bk 5).tenf;go_wp2;clear g l;have r9:Rand ((((((((((w4.setCell ⟨w,0,none⟩ (I h.aA)).setCell ⟨w,1,none⟩ (I h.aB)).setCell ⟨w,2,none⟩ (.slice p h.cells d)).setCell ⟨w,3,none⟩ (I h.free)).setCell ⟨w,4,none⟩ (I h.step)).setCell ⟨w,5,none⟩ (I h.aE)).setCell ⟨w,6,none⟩ (I h.aF)).setCell ⟨w,7,none⟩ (I h.aD)).setCell ⟨w,8,none⟩ (I h.aG)).setCell ⟨w,9,none⟩ (.slice q h.vs c2)) R (k+30000):=by have:=r4.mono (show _≤k+30000 by omega);exact xN
   have M8:=(M7.put10 (i:=5) rfl (I h.aA) (I h.aB) (.slice p h.cells d) (I h.free) (I h.step) (I h.aE) (I h.aF) (I h.aD) (I h.aG) (.slice q h.vs c2))
   generalize f:World.setCell _ _ _=w9;rw[f]at M8 r9;clear f M7;have y_:=(M8.bk 5).ten;exact aYw (v:= .tuple #[.agg #[h.aA,h.aB,.slice p h.cells d,h.free,h.step,h.aE,h.aF,h.aD,h.aG,.slice q h.vs c2],.string bt]) ⟨h,p,d,q,c2,bt,rfl,r,s,(by omega),(M8.ow 3),(M8.ow 4),r9,M8.ext⟩
  skip;have g:=(M7.bk 2).ten;have l:=(M7.bk 5).tenf;go_wp2;clear g l;have r9:Rand ((((((((((w4.setCell ⟨w,0,none⟩ (I h.aA)).setCell ⟨w,1,none⟩ (I h.aB)).setCell ⟨w,2,none⟩ (.slice p h.cells d)).setCell ⟨w,3,none⟩ (I h.free)).setCell ⟨w,4,none⟩ (I h.step)).setCell ⟨w,5,none⟩ (I h.aE)).setCell ⟨w,6,none⟩ (I h.aF)).setCell ⟨w,7,none⟩ (I h.aD)).setCell ⟨w,8,none⟩ (I h.aG)).setCell ⟨w,9,none⟩ (.slice q h.vs c2)) R (k+30000):=by have:=r4.mono (show _≤k+30000 by omega);exact xN
  have M8:=(M7.put10 (i:=5) rfl (I h.aA) (I h.aB) (.slice p h.cells d) (I h.free) (I h.step) (I h.aE) (I h.aF) (I h.aD) (I h.aG) (.slice q h.vs c2))
  generalize f:World.setCell _ _ _=w9;rw[f]at M8 r9;clear f M7;have y_:=(M8.bk 5).ten;exact aYw (v:= .tuple #[.agg #[h.aA,h.aB,.slice p h.cells d,h.free,h.step,h.aE,h.aF,h.aD,h.aG,.slice q h.vs c2],.string bt]) ⟨h,p,d,q,c2,bt,rfl,r,s,(by omega),(M8.ow 3),(M8.ow 4),r9,M8.ext⟩
theorem aM7 (v:Value)(w:World)(hc:Code w v):U 10 #[v] w (wF w):=by
 go_enter func10,ntmps10;go_wp2_with fail;refine(aA1 v _ (hc.ext xE)).mono ?_;rintro e w1 ⟨R,rfl,hR,r1,x1⟩;have ar:w.heap.size<R:=by have:=hR;simp at this;omega
 have hR:=r1.lt;have M1:=((Mem.b1 w).adv x1)
 have t:=M1.hi 0;clear x1;go_wp2_with fail;refine(sR R 0 9 _ r1 (by omega) (by omega) (by omega)).mono ?_;rintro e w2 ⟨h,p,c,q,c2,b,rfl,r,s,o,ho,hv,r2,x2⟩;have M2:=(show MemR R w1 w2 [aYm w1 p h.cells c,aYn w1 q h.vs c2]from(MemR.start R w1 hR).own2 x2 ho hv (by decide))
 have z2:=x2.sz;clear ho hv x2;go_upto_region 3 with fail;have r3:Rand (w2.alloc (.cells #[h.aA,h.aB,.slice p h.cells c,h.free,h.step,h.aE,h.aF,h.aD,h.aG,.slice q h.vs c2] aN)) R 30000:=by first|(exact xN)|exact(r2.alloc _).mono (by omega)
 have M3:=(M2.c0 aN (aYo h p c q c2))
 generalize i:(w2.alloc (.cells #[h.aA,h.aB,.slice p h.cells c,h.free,h.step,h.aE,h.aF,h.aD,h.aG,.slice q h.vs c2] aN))=w3;rw[i]at M3 r3;clear i r2 r1 M2;have ap:R<w2:=by omega
 have X3:=xQ (ExtR.new M1.ext M3.ext (by omega));have B0:=xQ (M3.bk 0);have BH:=xQ (M3.ext.blk (M1.bk 0) (by omega));refine sI (gl [gEq (.agg #[h.aA,h.aB,.slice p h.cells c,h.free,h.step,h.aE,h.aF,h.aD,h.aG,.slice q h.vs c2]),gEq (.pointer (some ⟨R,0,none⟩)),aM1 (12),(fun v _=> ∃a:Int,v=I a∧0≤a∧a≤1),(fun v _=> ∃a:Int,v=I a∧1≤a∧a≤2),gEq (.string b),(fun _ w'=>Blk w' w aN #[h.aA,h.aB,.slice p h.cells c,h.free,h.step,h.aE,h.aF,h.aD,h.aG,.slice q h.vs c2]),(fun v _=> ∃a:Int,v=I a∧1≤a∧a≤2),gEq (.string b)]) (XS R w aN #[h.aA,h.aB,.slice p h.cells c,h.free,h.step,h.aE,h.aF,h.aD,h.aG,.slice q h.vs c2]) R (30000) 1 9 (by kernel_rfl) rfl (by kernel_rfl) (by kernel_rfl) (by kernel_rfl) r3 (fun w=>XS.refl _ _ _ _ w) (fun _ _ _=>XS.trans) (aCa (eB (lE _) (eB (lE _) (eB (fun _ _ _ h _=>h) (eB (fun _ _ _ h _=>h) (eB (fun _ _ _ h _=>h) (eB (lE _) (eB (fun _ _ _ h hx=>hx.blk h) (eB (fun _ _ _ h _=>h) (eB (lE _) (aGv))))))))))) rfl (k:=9) (by kernel_rfl) (by decide) (ls:= [(0,some 15),(1,some 16),(2,some 17),(3,some 18),(4,some 19),(5,some 20),(6,none),(7,some 3),(8,some 4)]) (by kernel_rfl) (ir:= [0,1,2,3,4,5,6,7,8]) (by kernel_rfl) ?steps (tl:=#[true,true,true,true,true,true,true,true,true]) (by kernel_rfl) ?fin
 case steps=>
  refine sCx [] rfl (fun wi kk hx hr hkk=> ?_) ?_
  ·intro K hK;have aq:=(hx.other B0 (by omega) (by omega)).ten;go_simp;exact hK _ _ ⟨.agg #[h.aA,h.aB,.slice p h.cells c,h.free,h.step,h.aE,h.aF,h.aD,h.aG,.slice q h.vs c2],rfl,rfl,⟨XS.refl _ _ _ _ _,hr.mono (by omega)⟩⟩
  refine sCx [] rfl (fun wi kk hx hr hkk=> ?_) ?_
  ·intro K hK;go_simp;exact hK _ _ ⟨.pointer (some ⟨R,0,none⟩),rfl,rfl,⟨XS.refl _ _ _ _ _,hr.mono (by omega)⟩⟩
  refine sCx [(1,some 16)] rfl (fun wi kk hx hr hkk=> ?_) ?_
  ·intro v1 h1 K hK;obtain rfl:=h1;go_wp2_with fail;refine(cP R kk 12 _ hr (by omega)).mono ?_;rintro e w5 ⟨x,rfl,xa,xb,r5,x5⟩;go_simp;exact hK _ _ ⟨I x,rfl,⟨x,rfl,xa,by omega⟩,⟨XS.ofR (by omega) x5,r5⟩⟩
  refine sCx [(2,some 17)] rfl (fun wi kk hx hr hkk=> ?_) ?_
  ·intro v2 h2 K hK;obtain⟨x2,rfl,j,ab⟩:=h2;have g:0≤x2/11∧x2/11≤1:=by omega
   have au:x2.tdiv 11=x2/11:=Int.tdiv_eq_ediv_of_nonneg j;have av:=aYs (x2/11);go_simp;exact hK _ _ ⟨I (x2/11),rfl,⟨_,rfl,g.1,g.2⟩,⟨XS.refl _ _ _ _ _,hr.mono (by omega)⟩⟩
  refine sCx [(3,some 18)] rfl (fun wi kk hx hr hkk=> ?_) ?_
  ·intro v3 h3 K hK;obtain⟨x3,rfl,z,ad⟩:=h3;have hw:=aYs (1+x3);go_simp;exact hK _ _ ⟨I (1+x3),rfl,⟨_,rfl,by omega,by omega⟩,⟨XS.refl _ _ _ _ _,hr.mono (by omega)⟩⟩
  refine sCx [] rfl (fun wi kk hx hr hkk=> ?_) ?_
  ·intro K hK;go_simp;exact hK _ _ ⟨.string b,rfl,rfl,⟨XS.refl _ _ _ _ _,hr.mono (by omega)⟩⟩
  refine sCx [(0,some 15)] rfl (fun wi kk hx hr hkk=> ?_) ?_
  ·intro v0 h0 K hK;obtain rfl:=h0;rcases hx.either BH.out with BZ|BZ
   ·skip;obtain⟨z0,af,z1,ag,z2,ah,z3,ai,z4,aj,z5,ak,z6,al,z7,am,z8,an,z9,ao⟩:=BZ.tenf;go_simp;generalize f:World.setCell _ _ _=w9;obtain⟨Y9,d⟩:=BZ.putr f;have r9:Rand w9 R kk:=aI3 hr BZ d (by omega) (fun x hx=>by simp at hx);exact hK _ _ ⟨undef,rfl,Y9,⟨XS.ofPut d Y9,r9.mono (by omega)⟩⟩
   skip;obtain⟨z0,af,z1,ag,z2,ah,z3,ai,z4,aj,z5,ak,z6,al,z7,am,z8,an,z9,ao⟩:=BZ.tenf;go_simp;generalize f:World.setCell _ _ _=w9;obtain⟨Y9,d⟩:=BZ.putr f;have r9:Rand w9 R kk:=aI3 hr BZ d (by omega) (fun x hx=>by simp at hx);exact hK _ _ ⟨undef,rfl,Y9,⟨XS.ofPut d Y9,r9.mono (by omega)⟩⟩
  refine sCx [(4,some 19)] rfl (fun wi kk hx hr hkk=> ?_) ?_
  ·intro v4 h4 K hK;obtain⟨x4,rfl,l,m⟩:=h4;go_simp;exact hK _ _ ⟨_,rfl,⟨_,rfl,l,m⟩,⟨XS.refl _ _ _ _ _,hr.mono (by omega)⟩⟩
  refine sCx [(5,some 20)] rfl (fun wi kk hx hr hkk=> ?_) StepsLX.nil
  ·intro v5 h5 K hK;obtain rfl:=h5;go_simp;exact hK _ _ ⟨.string b,rfl,rfl,⟨XS.refl _ _ _ _ _,hr.mono (by omega)⟩⟩
 case fin=>
  intro wi hx hr v0 h0 v1 h1 v2 h2 v3 h3 v4 h4 v5 h5 v6 h6 v7 h7 v8 h8;subst h0 h1;obtain⟨x2,rfl,j,ab⟩:=h2;obtain⟨x3,rfl,z,ad⟩:=h3;obtain⟨x4,rfl,l,m⟩:=h4;obtain rfl:=h5;have n:=h6;obtain⟨x7,rfl,aa,ae⟩:=h7;obtain rfl:=h8;have u:=aRb (M3.ow 1) hx (by omega) (by omega);have y:=aRb (M3.ow 2) hx (by omega) (by omega);have X9:=XS.new X3 hx (by omega) (aVz _);clear B0 BH hx X3 r3 hr M3 M1;refine wpAny_done (by kernel_rfl) ?_ _;try go_frame
  go_wp2;have y_:=n.ten;exact aYw (v:= .tuple #[.agg #[h.aA,h.aB,.slice p h.cells c,h.free,h.step,h.aE,h.aF,h.aD,h.aG,.slice q h.vs c2],x7,.string b]) ⟨h,p,c,q,c2,x7,b,rfl,r,s,aa,ae,o,⟨Sl.own u,Sl.own y⟩,X9⟩
theorem Mem.own2blk {w0 w:World}{L:List Item}{e1 e2 t:TypeId}{s1 s2 n1 n2 c1 c2:Nat}{q1 q2:OA}{d a:List Value}{cs:Array Value}(h:Mem w0 w L)(hx:Ext w w')(hb:Blk w' g t cs)(hg:w.heap.size≤g)(h1:w'.ownsRow w e1 s1 (.slice q1 n1 c1) n1 d)(h2:w'.ownsRow w e2 s2 (.slice q2 n2 c2) n2 a)(ht:e1≠e2)(t1:e1≠t)(t2:e2≠t):
  Mem w0 w' (aJ w0 e1 s1 q1 n1 c1 d::aJ w0 e2 s2 q2 n2 c2 a::aI w0 g t cs::L):=by
 have b: ∀ {e:TypeId} {s n c:Nat} {q:OA} {xs:List Value},w'.ownsRow w e s (.slice q n c) n xs→e≠t→(Value.slice q n c).ownBlock≠Option.some g:=by
  intro e s n c q xs ho f he;rcases ho.2 with⟨b1,_⟩|⟨g1,cap1,cur1,b1,_,b3,_⟩
  ·rw[b1]at he;cases he
  rw[b1]at he;injection he with he;have x1:g1=g:=he;subst x1;unfold Blk at hb;rw[hb]at b3;injection b3 with b3;injection b3 with _ b3;exact f b3.symm
 have H:=h.own2 hx h1 h2 (aVz _) ht;have p1:=List.pairwise_cons.1 H.apart;have p2:=List.pairwise_cons.1 p1.2;have HB:=h.blkOf hx hb hg
 have H2:Mem w0 w' (aJ w0 e2 s2 q2 n2 c2 a::aI w0 g t cs::L):=HB.cons (eQ _ _ _ _ _ _ _) (dX h2 h.ext.sz) (fun g' hg' j hj e=>by
  rcases aWd.1 hj with rfl|hj
  ·obtain rfl:g=g':=e;exact b h2 t2 hg'
  ·exact p2.1 j hj g' hg' e)
 exact H2.cons (eQ _ _ _ _ _ _ _) (dX h1 h.ext.sz) (fun g' hg' j hj e=>by
  rcases aWd.1 hj with rfl|hj
  ·exact p1.1 _ (by simp) g' hg' e
  ·rcases aWd.1 hj with rfl|hj
   ·obtain rfl:g=g':=e;exact b h1 t1 hg'
   ·exact p1.1 j (by simp[hj]) g' hg' e)
def hZ:aQ:=⟨0,0,[],0,0,0,0,0,0,[]⟩
def doR (h:aQ)(k a b:Int):aQ×Int×Bool:=
 if bC h=true then(match dF h k a b with
  |none=>(h,-1,false)
  |some (h',n)=>(h',n,true))else(hZ,-1,false)
def aVx (B:Nat)(r:aQ×Int×Bool)(w':World)(e:Ending)(w'':World):Prop:=
 ∃pa ca qa da,e= .returned (.tuple #[bV r.1 pa r.1.cells.length ca qa r.1.vs.length da,r.2.1,.bool r.2.2])∧w''.ownsRow B TI 1 (.slice pa r.1.cells.length ca) r.1.cells.length (ivs r.1.cells)∧w''.ownsRow B TV 4 (.slice qa r.1.vs.length da) r.1.vs.length (r.1.vs.flatMap aC)∧Ext w' w''
theorem aMq {h:aQ}{k a b:Int}{w:World}{e:Ending}(hB:B≤w.heap.size)(c:bC h=true)(hr:aNe h (dF h k a b) w e w'):aVx B (doR h k a b) w e w':=by
 unfold doR;rw[if_pos c];unfold aNe at hr;cases hd:dF h k a b with
 |none=>rw[hd]at hr;obtain⟨pa,ca,qa,da,rfl,o1,o2,hx⟩:=hr;exact⟨pa,ca,qa,da,rfl,dX o1 hB,dX o2 hB,hx⟩
 |some r=>obtain⟨h',n⟩:=r;rw[hd]at hr;obtain⟨pa,ca,qa,da,rfl,o1,o2,hx⟩:=hr;exact⟨pa,ca,qa,da,rfl,dX o1 hB,dX o2 hB,hx⟩
abbrev TB:TypeId:=4
def bcs (bs:List Bool):List Value:=bs.map .bool
theorem aUd:(bcs bs).length=bs.length:=by simp[bcs]
theorem aJp (b:Bool):bcs (bs++ [b])=bcs bs++ [.bool b]:=by simp[bcs]
theorem elB:ElT prog 45 TB 1:=
 ⟨underlying45,by
  obtain⟨i,hi,h0,h1,h2⟩:=info_parts (show(prog.info? TB).map (fun i=>(i.zero,i.size,i.bytes))=some (some (.bool false),1,1) by kernel_rfl)
  exact⟨i,_,hi,h0,h1,by omega,rfl⟩,by omega⟩
def aBq (h:aQ)(d:Dd3):aQ:=(doR h d.1 d.2.1 d.2.2).1
def kT (h:aQ)(ds:List Dd3):aQ:=ds.foldl aBq h
def iB:aQ→List Dd3→List Bool
 |_,[]=> []
 |h,d::ds=>(doR h d.1 d.2.1 d.2.2).2.2::iB (aBq h d) ds
theorem aE5 (l:List Dd3)(d:Dd3):kT h (l++ [d])=(doR (kT h l) d.1 d.2.1 d.2.2).1:=by simp[kT,aBq]
theorem aCi: ∀(l:List Dd3) (h:aQ) (d:Dd3),iB h (l++ [d])=iB h l++ [(doR (kT h l) d.1 d.2.1 d.2.2).2.2]:=by
 intro l;induction l with
 |nil=>intro h d;rfl
 |cons x l ih=>intro h d;show _::iB (aBq h x) (l++ [d])=_;rw[ih];rfl
theorem nX: ∀(l:List Dd3) (h:aQ),(iB h l).length=l.length:=by
 intro l;induction l with
 |nil=>intro h;rfl
 |cons x l ih=>intro h;show(iB (aBq h x) l).length+1=_;rw[ih];rfl
theorem aRh {h:aQ}(a:bC h=true)(d:Dd3):bC (aBq h d)=true:=by
 unfold aBq doR;rw[if_pos a];cases hd:dF h d.1 d.2.1 d.2.2 with
 |none=>exact a
 |some r=>obtain⟨h',n⟩:=r;exact(vV a hd).1
theorem oS: ∀(l:List Dd3) {h:aQ},bC h=true→bC (kT h l)=true:=by
 intro l;induction l with
 |nil=>intro h a;exact a
 |cons x l ih=>intro h a;exact ih (aRh a x)
def uQ (h:aQ)(ds:List Dd3):aQ×List Bool:=if bC h=true then(kT h ds,iB h ds)else(hZ,[])
def oM (B:Nat)(r:aQ×List Bool)(w':World)(e:Ending)(w'':World):Prop:=
 ∃pa ca qa da ps cs,e= .returned (.tuple #[bV r.1 pa r.1.cells.length ca qa r.1.vs.length da,.slice ps r.2.length cs])∧w''.ownsRow B TI 1 (.slice pa r.1.cells.length ca) r.1.cells.length (ivs r.1.cells)∧w''.ownsRow B TV 4 (.slice qa r.1.vs.length da) r.1.vs.length (r.1.vs.flatMap aC)∧w''.ownsRow B TB 1 (.slice ps r.2.length cs) r.2.length (bcs r.2)∧Ext w' w''
theorem aQy:(uQ h ds).1.cells.length≤1000∧(uQ h ds).1.vs.length≤1000∧(uQ h ds).2.length≤ds.length:=by
 unfold uQ;by_cases hok:bC h=true
 ·rw[if_pos hok];have:=fU (oS ds hok);dsimp only;rw[nX];omega
 rw[if_neg hok];simp[hZ]
theorem aMp {h g:aQ}{ds:List Dd3}{lm:Nat}{pa qa ps:OA}{ca da cs:Nat}{a:World}(hg:g=kT h ds)(hl:ds.length=lm)(o1:a.ownsRow B TI 1 (.slice pa g.cells ca) g.cells.length (ivs g.cells))(o2:a.ownsRow B TV 4 (.slice qa g.vs da) g.vs.length (g.vs.flatMap aC))(o3:a.ownsRow B TB 1 (.slice ps lm cs) lm (bcs (iB h ds)))(hx:Ext w' a):
  oM B (kT h ds,iB h ds) w' (.returned (.tuple #[bV g pa g.cells.length ca qa g.vs.length da,.slice ps lm cs])) a:=by
 subst hg;have hd:(iB h ds).length=lm:=by rw[nX,hl]
 subst hd;exact⟨pa,ca,qa,da,ps,cs,rfl,o1,o2,o3,hx⟩
theorem aUa {n:Nat}(hl:l.length=k)(hk:k<n):(l++List.replicate (n-k) (Value.bool false))[k]? =some (Value.bool false):=by rw[aWx (by omega),hl,aXp];simp[aY0];omega
theorem aSq {n:Nat}{b:Value}(hl:l.length=k)(hk:k<n):(l++List.replicate (n-k) (Value.bool false)).set k b=(l++ [b])++List.replicate (n-(k+1)) (Value.bool false):=by
 obtain⟨j,rfl⟩: ∃j,n=k+1+j:=⟨n-(k+1),by omega⟩
 rw[show k+1+j-k=j+1 by omega,show k+1+j-(k+1)=j by omega,List.set_append,if_neg (by omega),hl,aXp,aXx];simp
theorem aTi (ds:List Dd3)(w:World)(b:xC 11 #[.agg (aYo h p a q c2)] w fun w' e w''=>e= .returned (Value.bool false)∧Ext w' w''):
  U 21 #[.agg #[h.aA,h.aB,.slice p h.cells a,h.free,h.step,h.aE,h.aF,h.aD,h.aG,.slice q h.vs c2],.slice lq lm lc] w (oM w (hZ,[]) w):=by
 go_enter func21,ntmps21;go_wp2_with fail;refine Ω (b _ ((((Mem.start w).c0 aN (aYo h p a q c2)).c1 aN zT).made0 TB 1 (w.heap.size+1+1) (by simp)).ext) fun w1 d=>?_
 have M1:=(((((Mem.start w).c0 aN (aYo h p a q c2)).c1 aN zT).made0 TB 1 (w.heap.size+1+1) (by simp)).adv d)
 clear d b;have f_:=(M1.bk 1).tenf;go_wp2;clear f_;have M2:=(M1.put10 (i:=1) rfl (I 0) (I 0) (.slice none 0 0) (I 0) (I 0) (I 0) (I 0) (I 0) (I 0) (.slice none 0 0))
 generalize c:World.setCell _ _ _=wz;rw[c]at M2;clear c M1;have y_:=(M2.bk 1).ten;exact aYw (v:= .tuple #[.agg #[(),(),((),()),(),(),(),(),(),(),((),())],.slice (some ⟨w.heap.size+1+1,0,none⟩) 0 0]) (show oM w (hZ,[]) w _ _ from⟨none,0,none,0,_,0,rfl,aW9 _ _ _ _,aW9 _ _ _ _,(M2.ow 0),M2.ext⟩)
theorem aVj (hb:lm≤1048576)(x:Hid (ds.length=lm))(am:Hid (bC h=true))(HS:Hid (Sl w lq lm lc 3 (ds.flatMap bT)))(ab:xB 11 #[.agg (aYo h p a q c2)] w true)(HL:xC 49 #[.agg (aYo h p a q c2)] w fun w' e w''=> ∃p' cap' q' c2',e= .returned (.agg #[h.aA,h.aB,.slice p' h.cells cap',h.free,h.step,h.aE,h.aF,h.aD,h.aG,.slice q' h.vs c2'])∧w''.ownsRow w' TI 1 (.slice p' h.cells cap') h.cells.length (ivs h.cells)∧w''.ownsRow w' TV 4 (.slice q' h.vs c2') h.vs.length (h.vs.flatMap aC)∧Ext w' w''):
  U 21 #[.agg #[h.aA,h.aB,.slice p h.cells a,h.free,h.step,h.aE,h.aF,h.aD,h.aG,.slice q h.vs c2],.slice lq lm lc] w (oM w (kT h ds,iB h ds) w):=by
 go_enter func21,ntmps21;go_wp2_with fail;refine Ω (ab _ ((((Mem.start w).c0 aN (aYo h p a q c2)).c1 aN zT).made0 TB 1 (w.heap.size+1+1) (by simp)).ext) fun w1 ag=>?_
 have M1:=(((((Mem.start w).c0 aN (aYo h p a q c2)).c1 aN zT).made0 TB 1 (w.heap.size+1+1) (by simp)).adv ag)
 clear ag ab;have ak:=(M1.bk 2).ten;go_wp2_with fail;clear ak;refine(HL _ M1.ext).mono ?_;rintro e w2 ⟨p1,n,q1,o,rfl,ho,hq,hx⟩;have M2:=(M1.own2 hx ho hq (aVz _) (by decide))
 clear M1 hx ho hq HL;go_upto_region 5 with fail;obtain⟨gV,t⟩: ∃gV,gV=w2.heap.size:=⟨_,rfl⟩
 rw[←t];have M3:=(M2.blkNew aN (aYo h p1 n q1 o) gV t.symm)
 generalize World.alloc _ _=w3 at M3⊢;clear M2 t;go_wp2;go_loopw [6,8] (fun dn i wr=> ∃(k:Nat) (g:aQ) (p3:OA) (c3:Nat) (q3:OA) (d3:Nat) (ps:OA) (cs:Nat),k≤lm∧i=I k∧dn= .slice ps k cs∧g=kT h (ds.take k)∧Mem w wr [aJ w TB 1 (ps) (k) (cs) (bcs (iB h (ds.take k))),aYm w p3 g.cells c3,aYn w q3 g.vs d3,aI w (gV) aN (aYo g p3 c3 q3 d3),aI w (w.heap.size+1) aN #[(),(),((),()),(),(),(),(),(),(),((),())],aI w w aN (aYo h p a q c2)]) (fun _ i _=>lm-(intOf i).toNat)
 case atStart=>exact⟨0,h,p1,n,q1,o,_,_,aW6 _,rfl,rfl,rfl,(show Mem w w3 [aJ w TB 1 (some ⟨w.heap.size+1+1,0,none⟩) (0) (0) ([]),aYm w p1 h.cells n,aYn w q1 h.vs o,aI w (gV) aN (aYo h p1 n q1 o),aI w (w.heap.size+1) aN #[(),(),((),()),(),(),(),(),(),(),((),())],aI w w aN (aYo h p a q c2)]from M3.pick [3,1,2,0,4,5] (by decide) rfl)⟩
 case round=>
  clear M3;obtain⟨k,g,p3,c3,q3,d3,ps,cs,hk,rfl,rfl,hg,hM⟩:=hrel;have HM:=hM;have HG:=xQ hg;have aa:Hid (bC g=true):=by show _=_;rw[hg];exact oS _ am.out
  clear hM hg;by_cases hlt:k<lm
  ·obtain⟨b,l,a0,a1,a2,al,hx,s,e0,e1,e2⟩:=aH1 (HS.out.ext HM.ext) hlt;subst al;have HX:=xQ hx;clear hx;have i1:=aYp k;have i2:=aYq k lm;obtain⟨r,num,ok,hr⟩: ∃r num ok,(r,num,ok)=doR g a0 a1 a2:=⟨_,_,_,rfl⟩
   have HR:=xQ hr;clear hr;have af:Hid (kT h (ds.take (k+1))=r∧iB h (ds.take (k+1))=iB h (ds.take k)++ [ok]):=by show _∧_;rw[aX HX.out,aE5,aCi,←HG.out,←HR.out];exact⟨rfl,rfl⟩
   have HD:Hid (∀B p c q d w',B≤w'.heap.size→Ext wr w'→IsHouse w' g p g.cells.length c q g.vs.length d→U 50 #[.agg (aYo g p c q d),.agg #[a0,a1,a2]] w' (aYz B r.cells.length (ivs r.cells) r.vs.length (r.vs.flatMap aC) w' fun pa ca qa da=> .tuple #[.agg #[r.aA,r.aB,.slice pa r.cells ca,r.free,r.step,r.aE,r.aF,r.aD,r.aG,.slice qa r.vs da],num,.bool ok])):=fun B p c q d w' hB hx hi=>by refine(zS g a0 a1 a2 p _ c q _ d w' hi aa.out).mono (fun e w'' hr=> ?_);have hq:=aMq hB aa hr;rw[←HR.out]at hq;exact hq
   have IX:=xQ (show IsHouse wr g p3 g.cells.length c3 q3 g.vs.length d3 from⟨(HM.sq 1),(HM.sq 2)⟩);have j:gV<wr:=(HM.hi 3)
   have an:=(HM.bk 3).ten;have ai: ¬(wr.heap.size=gV):=by omega
   have aj: ¬(wr.heap.size=b):=by omega
   go_upto_region 8 with fail;go_cut [9,10,11] (fun s1 s2 s3 wx=> ∃(g5:Nat) (p5:OA) (c5:Nat) (q5:OA) (d5:Nat),s1= .pointer (some ⟨g5,0,none⟩)∧s2=I num∧s3= .bool ok∧Mem w wx [aI w (g5) aN (aYo r p5 c5 q5 d5),aYm w p5 r.cells c5,aYn w q5 r.vs d5,aJ w TB 1 (ps) (k) (cs) (bcs (iB h (ds.take k))),aYm w p3 g.cells c3,aYn w q3 g.vs d3,aI w (gV) aN (aYo g p3 c3 q3 d3),aI w (w.heap.size+1) aN #[(),(),((),()),(),(),(),(),(),(),((),())],aI w w aN (aYo h p a q c2)])
   case first=>
    go_region_held3 (fun w'=>w'.cell? ⟨gV,0,none⟩=some (I g.aA)∧w'.cell? ⟨gV,1,none⟩=some (I g.aB)∧w'.cell? ⟨gV,2,none⟩=some (.slice p3 g.cells c3)∧w'.cell? ⟨gV,3,none⟩=some (I g.free)∧w'.cell? ⟨gV,4,none⟩=some (I g.step)∧w'.cell? ⟨gV,5,none⟩=some (I g.aE)∧w'.cell? ⟨gV,6,none⟩=some (I g.aF)∧w'.cell? ⟨gV,7,none⟩=some (I g.aD)∧w'.cell? ⟨gV,8,none⟩=some (I g.aG)∧w'.cell? ⟨gV,9,none⟩=some (.slice q3 g.vs d3)∧w'.cell? ⟨b,l+k*3,none⟩=some (I a0)∧w'.cell? ⟨b,l+k*3+1,none⟩=some (I a1)∧w'.cell? ⟨b,l+k*3+2,none⟩=some (I a2))
     (first|(refine⟨?_,?_,?_,?_,?_,?_,?_,?_,?_,?_,?_,?_,?_⟩<;>with_reducible assumption)|go_keep)
     (first
      |(go_at_call 50
        refine(HD wr _ _ _ _ _ (Ext.sz (show Ext wr _ from xE)) xE (IX.out.ext xE)).mono ?_;rintro e ws ⟨p5,c5,q5,d5,rfl,os,y,ah⟩;have f:Ext wr ws:=xE;have bp:=((HM.bk 3).ext f).ten;have bq:ws.cell? ⟨b,l+k*3,none⟩=some (I a0):=(f.cells.1 _ _ s).trans e0;have br:ws.cell? ⟨b,l+k*3+1,none⟩=some (I a1):=(f.cells.1 _ _ s).trans e1;have bs:ws.cell? ⟨b,l+k*3+2,none⟩=some (I a2):=(f.cells.1 _ _ s).trans e2
        first
         |(with_reducible have hz:Ext (wr.alloc (.cells #[(),(),((),()),(),(),(),(),(),(),((),())] aN)) ws:=ah;have MB:=(Mem.own2blk HM f ((Blk.new wr aN #[(),(),((),()),(),(),(),(),(),(),((),())]).ext hz) (aVz _) os y (by decide) (by decide) (by decide));obtain⟨a3,bd,a4,be,a5,bf,a6,bg,a7,bh,a8,bi,a9,bj,ba,bl,bb,bm,bc,bo⟩:=(MB.blk (i:=2) rfl).tenf)
         |(with_reducible have hz:Ext (wr.alloc (.cells #[(),(),((),()),(),(),(),(),(),(),((),())] aN)) ws:=ah.of_drew;have MB:=(Mem.own2blk HM f ((Blk.new wr aN #[(),(),((),()),(),(),(),(),(),(),((),())]).ext hz) (aVz _) os y (by decide) (by decide) (by decide));obtain⟨a3,bd,a4,be,a5,bf,a6,bg,a7,bh,a8,bi,a9,bj,ba,bl,bb,bm,bc,bo⟩:=(MB.blk (i:=2) rfl).tenf)
         |(have MA:=(Mem.own2 HM f os y (aVz _) (by decide)))))
    all_goals (
     go_wp2_with fail;go_meet
     first
      |exact⟨_,p5,c5,q5,d5,rfl,rfl,rfl,(MB.put10 (i:=2) rfl (I r.aA) (I r.aB) (.slice p5 r.cells c5) (I r.free) (I r.step) (I r.aE) (I r.aF) (I r.aD) (I r.aG) (.slice q5 r.vs d5)).pick [2,0,1,3,4,5,6,7,8] (by decide) rfl⟩
      |exact⟨_,p5,c5,q5,d5,rfl,rfl,rfl,MA.bn aN (aYo r p5 c5 q5 d5) _⟩)
   case rest=>
    clear an ai aj e0 e1 e2 HD IX;obtain⟨g5,p5,c5,q5,d5,rfl,rfl,rfl,ae⟩:=hcut;obtain⟨v5,rfl⟩: ∃z,z=wc:=⟨_,rfl⟩
    have MC:=ae;clear ae HM j;have x_:=(MC.bk 0).ten;obtain⟨v0,ao,v1,ap,v2,aq,v3,ar,v4,au,v5,av,v6,aw,v7,ax,v8,ay,v9,az⟩:=(MC.bk 6).tenf;go_upto_region 10 with fail;clear x_ v0 ao v1 ap v2 aq v3 ar v4 au v5 av v6 aw v7 ax v8 ay v9 az;have ad:=(MC.put10 (i:=6) rfl (I r.aA) (I r.aB) (.slice p5 r.cells c5) (I r.free) (I r.step) (I r.aE) (I r.aF) (I r.aD) (I r.aG) (.slice q5 r.vs d5))
    generalize m:World.setCell _ _ _=wz;rw[m]at ad;clear m MC;go_wp2_with (at_builtin;go_loud (refine dN elB rfl _ _ rfl (ad.adv ((Ext.refl _).alloc (.cells #[.bool ok] TB))) 3 rfl rfl [.bool ok] rfl (fC _ _ _ 1 1 _ (by first|rfl|simp) (by first|rfl|simp) (by simp[maxLen])) (fun u hu=>by obtain rfl:=aWq.1 hu;rfl) (by omega) ?_;intro q7 c7 w6 M6));go_roundw
    case rel=>
     have hd:bcs (iB h (ds.take (k+1)))=bcs (iB h (ds.take k))++ [.bool ok]:=by rw[af.out.2,aJp]
     exact⟨k+1,r,p5,c5,q5,d5,q7,c7,by omega,by go_num,rfl,af.out.1.symm,by rw[hd];exact(show Mem w w6 [aJ w TB 1 (q7) (k+1) (c7) (bcs (iB h (ds.take k))++ [.bool ok]),aYm w p5 r.cells c5,aYn w q5 r.vs d5,aI w (gV) aN (aYo r p5 c5 q5 d5),aI w (w.heap.size+1) aN #[(),(),((),()),(),(),(),(),(),(),((),())],aI w w aN (aYo h p a q c2)]from(show Mem w w6 [aI w (g5) aN (aYo r p5 c5 q5 d5),aYm w p5 r.cells c5,aYn w q5 r.vs d5,aJ w TB 1 (q7) (k+1) (c7) (bcs (iB h (ds.take k))++ [.bool ok]),aYm w p3 g.cells c3,aYn w q3 g.vs d3,aI w (gV) aN (aYo r p5 c5 q5 d5),aI w (w.heap.size+1) aN #[(),(),((),()),(),(),(),(),(),(),((),())],aI w w aN (aYo h p a q c2)]from M6).pick [3,1,2,6,7,8] (by decide) rfl)⟩
    case measure=>simp[intOf];omega
  obtain rfl:lm=k:=by omega
  have j:gV<wr:=(HM.hi 3)
  obtain⟨v0,v1,v2,v3,v4,v5,v6,v7,v8,v9⟩:=(HM.bk 3).ten;have f_:=(HM.bk 4).tenf;go_wp2;clear v0 v1 v2 v3 v4 v5 v6 v7 v8 v9 f_ j;have M6:=xQ (HM.put10 (i:=4) rfl (I g.aA) (I g.aB) (.slice p3 g.cells c3) (I g.free) (I g.step) (I g.aE) (I g.aF) (I g.aD) (I g.aG) (.slice q3 g.vs d3));generalize m:World.setCell _ _ _=wz;rw[m]at M6;clear m HM;have y_:=(M6.out.bk 4).ten;exact aYw (v:= .tuple #[.agg #[g.aA,g.aB,.slice p3 g.cells c3,g.free,g.step,g.aE,g.aF,g.aD,g.aG,.slice q3 g.vs d3],.slice ps lm cs]) (aMp (by have h1:=HG.out;rw[aW4 (by rw[x.out];exact aVz _)]at h1;exact h1) x.out (M6.out.ow 1) (M6.out.ow 2) (by have h1:=(M6.out.ow 0);rw[aW4 (by rw[x.out];exact aVz _)]at h1;exact h1) M6.out.ext)
theorem wM (a:Nat)(q:OA)(m c2:Nat)(lq:OA)(lm lc:Nat)(ds:List Dd3)(w:World)(hi:IsHouse w h p n a q m c2)(hS:Sl w lq lm lc 3 (ds.flatMap bT))(hb:lm≤1048576):
  U 21 #[bV h p n a q m c2,.slice lq lm lc] w (oM w (uQ h ds) w):=by
 have hl:=hi.clen;have c:=hi.vlen;have b:ds.length=lm:=by have:=hS.len;rw[eC bT 3 (fun _=>rfl)]at this;omega
 subst hl c;have HV:=xQ fun(w':World) (hx:Ext w w')=>mE h p _ a q _ c2 w' (hi.ext hx)
 by_cases hok:bC h=true
 ·have d:=fU hok;unfold uQ;rw[if_pos hok];rw[hok]at HV;have HL:=xQ fun(w':World) (hx:Ext w w')=>vU h p _ a q _ c2 w' (by omega) (by omega) (hi.ext hx)
  unfold RetHouse at HL;exact aVj h p a q c2 lq lm lc ds w hb b hok hS HV HL
 unfold uQ;rw[if_neg hok];rw[show bC h=false by simpa using hok]at HV;exact aTi h p a q c2 lq lm lc ds w HV
theorem lC (c:Int)(p:OA)(n a:Nat)(w:World)(hn:n≤12):U 157 #[aH aA aB p n a,c] w (Z (.bool (decide (0≤c∧c<n))) w):=by
 by_cases h0:0≤c
 ·have d0:decide (0≤c)=true:=by simp[h0]
  by_cases h1:c<n
  ·have d1:decide (c<(n:Int))=true:=by simp[h1]
   go_enter func157,ntmps157;go_wp2;go_ret;exact⟨aT (by simp[h0,h1]),xE⟩
  have d1:=aYu (c<(n:Int));go_enter func157,ntmps157;go_wp2;go_ret;exact⟨aT (by simp[h0,h1]),xE⟩
 have d0:=aYu (0≤c);go_enter func157,ntmps157;go_wp2;go_ret;exact⟨aT (by simp[h0]),xE⟩
theorem pK (a b:Int)(w:World)(h0:0≤a)(h1:a≤100)(h2:0≤b)(h3:b≤100)(h4:2≤aA)(h5:aA≤4):U 158 #[aA,a,b] w (Z (I (bE aA a b)) w):=by
 have q0: ¬(aA=0):=by omega
 have r1:a.tmod aA=a%aA:=IntWalk.rem_in _ _ h0;have r2:b.tmod aA=b%aA:=IntWalk.rem_in _ _ h2;have d1:IntKind.i64.wrap (a.tdiv aA)=a/aA:=aY9 _ _ (by omega);have d2:IntKind.i64.wrap (b.tdiv aA)=b/aA:=aY9 _ _ (by omega);have e1:=Int.emod_nonneg a q0;have e2:=Int.emod_nonneg b q0;have e3:=Int.emod_lt_of_pos a (show 0<aA by omega);have e4:=Int.emod_lt_of_pos b (show 0<aA by omega);have e5:=Int.ediv_nonneg h0 (show 0≤aA by omega);have e6:=Int.ediv_nonneg h2 (show 0≤aA by omega);have e7:=Int.ediv_le_self aA h0;have e8:=Int.ediv_le_self aA h2;have s1:IntKind.i64.wrap (max (a%aA-b%aA) (-(a%aA-b%aA))+max (a/aA-b/aA) (-(a/aA-b/aA)))=bE aA a b:=by rw[aW2 _ (by omega)];unfold bE uT;omega
 have s2:=aYs (a%aA-b%aA);have s3:=aYs (a/aA-b/aA);have s4:IntKind.i64.wrap (-(a%aA-b%aA))= -(a%aA-b%aA):=aW2 _ (by omega);have s5:IntKind.i64.wrap (-(a/aA-b/aA))= -(a/aA-b/aA):=aW2 _ (by omega);go_enter func158,ntmps158;go_wp2;go_quiet (fail);go_wp2;go_quiet (fail);go_wp2;go_ret;exact⟨fI rfl,xE⟩
theorem aS3 (a:Int)(p:OA)(n f:Nat)(w:World)(hn:n≤12)(h0:0≤a)(h1:a<n)(HV:xB 34 #[aH aA aB p n f] w true)(HH:Hid (∀w',U 157 #[aH aA aB p n f,a] w' (Z (.bool true) w')))(HA:Hid (∀(k:Nat),k<n→ ∀w',U 158 #[aA,a,k] w' (Z (I (bE aA a k)) w'))):
  U 208 #[aH aA aB p n f,a] w (cC (lT aA n a) w):=by
 go_enter func208,ntmps208;go_wp2_with fail;refine Ω (HV _ xE) fun w1 x=>?_
 have B1:=xQ ((Blk.new w TH3 #[aA,aB,.slice p n f]).ext x);have X1:=xQ (show Ext w w1 from xE);obtain⟨b0,b1,b2⟩:=B1.out.cells3;clear x;go_wp2_with fail;refine Ω (HH _) fun w2 t=>?_
 clear b0 b1 b2;have B2:=xQ (B1.out.ext t);have X2:=xQ (X1.out.trans t);obtain⟨b0,b1,b2⟩:=B2.out.cells3;clear t B1 X1;go_wp2;go_loopw [5,19] (fun v i wr=> ∃(k:Nat) (q:OA) (m c:Nat),k≤n∧i=I k∧v= .slice q m c∧m≤k∧wr.ownsRow (w.heap.size+1) TI 1 (.slice q m c) m (ivs (iV (fun b=>decide (bE aA a b=1)) k))∧Ext w wr∧Blk wr w TH3 #[aA,aB,.slice p n f]) (fun _ i _=>n-(intOf i).toNat)
 case atStart=>exact⟨0,_,0,0,aW6 _,rfl,rfl,aVz _,aW9 _ _ _ _,X2.out,B2.out⟩
 case round=>
  clear b0 b1 b2 B2 X2;obtain⟨k,q,m,c,hk,rfl,rfl,ad,l,r,hB⟩:=hrel;have HO:=xQ l;have HB:=xQ hB;clear l hB;obtain⟨b0,b1,b2⟩:=HB.out.cells3;by_cases hlt:k<n
  ·go_wp2_with fail;refine Ω (HA k hlt _) fun w1 h1=>?_
   have h:=xQ (aM HO h1);have o:=xQ (HB.out.ext h1);have j:=xQ (r.trans h1);have ab:(w:Nat)<w1:=o.out.lt;clear h1 b0 b1 b2 HO HB r;by_cases hx0:bE aA a k=1
   ·have t0:(bE aA a k==1)=true:=by simp[hx0]
    have d:Hid (iV (fun b=>decide (bE aA a b=1)) (k+1)=iV (fun b=>decide (bE aA a b=1)) k++ [(k:Int)]):=by show _=_;rw[iV,if_pos (by simpa using hx0)]
    clear hx0;go_wp2_with (at_builtin;refine dB iA rfl _ _ rfl (w.heap.size+1) _ _ _ rfl (h.out.alloc _) _ _ (k:Int) _ rfl (by simp) (by omega) (by first|(simp;done)|(simp;omega)) ?_;intro p' u w2 g s;have z:=xQ g;have aa:Ext w w2:=Ext.own (j.out.alloc _) (h.out.alloc _) s (by omega);have y:=xQ (uL h s o.out);clear g s);go_roundw
    case rel=>exact⟨k+1,p',m+1,u,by omega,by go_num,rfl,by omega,by rw[d.out];exact z.out,aa,y.out⟩
    case measure=>simp[intOf];omega
   have t0:(bE aA a k==1)=false:=by simp[hx0]
   have d:Hid (iV (fun b=>decide (bE aA a b=1)) (k+1)=iV (fun b=>decide (bE aA a b=1)) k):=by show _=_;rw[iV,if_neg (by simpa using hx0),aWr]
   clear hx0;go_wp2;go_roundw
   case rel=>exact⟨k+1,q,m,c,by omega,by go_num,rfl,by omega,by rw[d.out];exact h.out,j.out,o.out⟩
   case measure=>simp[intOf];omega
  have d:Hid (iV (fun b=>decide (bE aA a b=1)) k=lT aA n a):=by show _=_;unfold lT;rw[show k=n by omega]
  go_wp2;go_ret;exact fE (by rw[←d.out];have:=HO.out.1;simpa using this) (by rw[←d.out];exact bF HO (Nat.le_succ _)) r
theorem aLw (a:Int)(p:OA)(n b:Nat)(xs:List Int)(w:World)(hS:Sl w p n b 1 (ivs xs))(c:aO aA aB xs=true)(h0:0≤a)(h1:a<n):
  U 208 #[aH aA aB p n b,a] w (cC (lT aA n a) w):=by
 have hl:=hS.ilen;obtain⟨g1,g2,g3,g4,g5,g6,g7,g8,g9⟩:=bS c;refine aS3 aA aB a p n b w (by omega) h0 h1 (fun w' hx=>by have:=iK aA aB p n b xs w' (hS.ext hx);rwa[c]at this) (fun w'=> ?_) (fun k hk w'=>pK aA a k w' h0 (by omega) (by omega) (by omega) (by omega) (by omega));have:=lC aA aB a p n b w' (by omega);rwa[decide_eq_true (⟨h0,h1⟩:0≤a∧a<n)]at this
theorem aMr {n:Nat}(h:k<n):(List.replicate k (-1:Int)++List.replicate (n-k) 0).set k (-1)=List.replicate (k+1) (-1)++List.replicate (n-(k+1)) 0:=by
 have e:n-k=(n-(k+1))+1:=by omega
 rw[e,aXx,aY8 _ _ (by simp),List.replicate_succ',aWu];simp
theorem aRs (a src:Nat)(b:Int)(w:World)(bx:4≤n)(hn:n≤12)(hs:src<n)(HC:Hid (∀(k:Nat),k<n→ ∀w',Ext w w'→U 208 #[aH aA aB p n a,k] w' (cC (bO (aU aA n k)) w'))):
  U 207 #[aH aA aB p n a,src,b] w fun e w'=> ∃D,yD (uU aA n b) [src] n D∧cC D w e w':=by
 obtain⟨AR,af⟩: ∃AR:Array Value,AR=madeCells #[()] n:=⟨_,rfl⟩
 have bj: ∀w:World,(Instr.makeSlice 25 (I n) (I n)).run prog w= .ok (.slice (some ⟨w,0,none⟩) n n) (w.alloc (.cells AR TI)):=fun w=>by rw[af];exact run_make_row' _ _ (I 0) 8 underlying25 (by kernel_rfl) rfl .i64 .i64 n (by omega) (by omega) w
 have aw:Hid (AR.toList=ivs (List.replicate 0 (-1)++List.replicate (n-0) 0)):=by show _=_;rw[af,(qZ n).1];simp
 have ax:Hid (AR.size=n):=by show _=_;rw[af];exact(qZ n).2
 clear af;go_enter func207,ntmps207;go_wp2;have ME:=xQ (show Mem w ((w.alloc (.cells #[aA,aB,.slice p n a] TH3)).alloc (.cells AR TI)) [aJ w TI 1 (some ⟨w.heap.size+1,0,none⟩) (n) (n) (ivs (List.replicate 0 (-1)++List.replicate (n-0) 0)),aI w w TH3 #[aA,aB,.slice p n a]]from by rw[←aw.out];exact((Mem.start w).c0 TH3 #[aA,aB,.slice p n a]).lit TI 1 n _ AR (by simp) (by rw[ax.out];omega) (by simp[maxLen];omega));clear aw ax bj;go_loopw [19] (fun i wr=> ∃(k:Nat),k≤n∧i=I k∧Mem w wr [aJ w TI 1 (some ⟨w.heap.size+1,0,none⟩) (n) (n) (ivs (List.replicate k (-1)++List.replicate (n-k) 0)),aI w w TH3 #[aA,aB,.slice p n a]]) (fun i _=>n-(intOf i).toNat)
 case atStart=>exact⟨0,aW6 _,rfl,ME.out⟩
 case round=>
  clear ME;obtain⟨k,hk,rfl,hM⟩:=hrel;have HM:=xQ hM;clear hM;by_cases hlt:k<n
  ·have i1:=aYp k;have i2:=aYq k n;have hl:(List.replicate k (-1:Int)++List.replicate (n-k) 0)[k]? =some 0:=by
    rw[aWx (by simp)];simp[aY0];omega
   have ba:wr.cell? ⟨w.heap.size+1,k,none⟩=some (I 0):=by have:=(HM.out.ow 0).cellAt k (by omega);rw[this];simp only[ivs,aWp,hl,aX2]
   have bb:wr.frozen? ⟨w.heap.size+1,k,none⟩=false:=(HM.out.ow 0).frozenAt k;clear hl;have M2:=xQ (HM.out.ostore (i:=0) rfl k (I (-1)));go_wp2;go_roundw
   case rel=>exact⟨k+1,by omega,by go_num,by have:=M2.out;rw[eW,aMr hlt]at this;exact this⟩
   case measure=>simp[intOf];omega
  obtain rfl:n=k:=by omega
  rw[aXp,show List.replicate n (-1:Int)++List.replicate 0 0=List.replicate n (-1) by simp]at HM;have i1:=aYp src;have i2:=aYq src n;have ba:wr.cell? ⟨w.heap.size+1,src,none⟩=some (I (-1)):=by have:=(HM.out.ow 0).cellAt src (by omega);rw[this];simp[ivs,hs]
  have bb:wr.frozen? ⟨w.heap.size+1,src,none⟩=false:=(HM.out.ow 0).frozenAt src;have M2:=xQ (HM.out.ostore (i:=0) rfl src (I 0));rw[show Hid (Mem w (wr.setCell ⟨w.heap.size+1,src,none⟩ (I 0)) (List.set [aJ w TI 1 (some ⟨w.heap.size+1,0,none⟩) (n) (n) (ivs (List.replicate n (-1))),aI w w TH3 #[aA,aB,.slice p n a]] 0 (aJ w TI 1 (some ⟨w.heap.size+1,0,none⟩) n n (List.set (ivs (List.replicate n (-1))) src (I 0)))))=Hid (Mem w (wr.setCell ⟨w.heap.size+1,src,none⟩ (I 0)) [aJ w TI 1 (some ⟨w.heap.size+1,0,none⟩) (n) (n) (ivs ((List.replicate n (-1)).set src 0)),aI w w TH3 #[aA,aB,.slice p n a]]) by rw[eW];rfl]at M2;go_upto_region 8 with fail;clear ba bb HM;generalize a8:World.setCell _ _ _=w1;rw[a8]at M2;clear a8;have I1:=xQ (Inv.one (adj:=uU aA n b) hs);have M3:=xQ (M2.out.lit TI 1 1 w1 #[src] rfl rfl (by simp[maxLen]));clear M2;go_wp2;go_loopw [9,10] (fun v i wr=> ∃(k:Nat) (q:OA) (l lc:Nat) (D:List Int) (Q:List Nat),k≤l∧i=I k∧v= .slice q l lc∧l=Q.length∧(∀x∈D,-1≤x∧x≤k)∧Inv (uU aA n b) [src] n k (D,Q)∧Mem w wr [aJ w TI 1 (q) (l) (lc) (ivs (bO Q)),aJ w TI 1 (some ⟨w.heap.size+1,0,none⟩) (n) (n) (ivs (D)),aI w w TH3 #[aA,aB,.slice p n a]]) (fun _ i _=>n-(intOf i).toNat)
  case atStart=>exact⟨0,some ⟨w1,0,none⟩,1,1,_,[src],aW6 _,rfl,rfl,rfl,aR4 _ _,I1.out,M3.out⟩
  case round=>
   clear M3 I1;obtain⟨k,q,l,lc,D,Q,hk,rfl,rfl,ap,a2,ad,hM⟩:=hrel;have HM:=xQ hM;have HI:=xQ ad;have y:=xQ ap;have bz:l≤n:=by rw[ap];exact ad.qlen
   have au:=xQ a2;clear hM ad ap a2;by_cases hlt2:k<l
   ·obtain⟨u,hu⟩: ∃u,Q[k]? =some u:=⟨_,aW0 (by rw[←y.out];exact hlt2)⟩
    have bm:u<n:=HI.out.bd u (aW1 hu);have HU:=xQ hu;clear hu;obtain⟨gL,rfl,a0,al⟩:=HM.out.so 0;have i3:=aYp k;have i4:=aYq k l;have cu:wr.cell? ⟨gL,k,none⟩=some (I u):=by have:=(HM.out.ow 0).cellAt k (by omega);rw[this];simp[ivs,bO,HU.out]
    obtain⟨nb,ag⟩: ∃nb,nb=aU aA n u:=⟨_,rfl⟩
    have ak:=xQ ag;have av:Hid (∀w',Ext w w'→U 208 #[aH aA aB p n a,u] w' (cC (bO nb) w')):=by rw[ag];exact HC u bm
    have bl:nb.length≤n:=by rw[ag];exact aW8 (aXc _ _) (by simp)
    clear ag;have a6:(bO nb).length=nb.length:=by simp[bO]
    go_wp2;refine rL (gl [gEq (.agg #[aA,aB,.slice p n a]),gEq (.slice (some ⟨gL,0,none⟩) l lc),gEq (k:Int),gEq (.pointer (some ⟨gL,k,none⟩)),gEq (u:Int),(fun v w'=> ∃q c,v= .slice q nb c∧w'.ownsRow wr TI 1 (.slice q nb c) nb.length (ivs (bO nb))),gEq (nb.length:Int),gEq (I 0)]) 8 8 [(0,some 37),(1,some 38),(2,some 39),(3,some 40),(4,some 41),(5,some 42),(6,some 43),(7,some 44)] ?steps ?fin (hG:=(mQ (aW (bL _) (aW (bL _) (aW (bL _) (aW (bL _) (aW (bL _) (aW (fun v w w' ⟨q,c,he,ho⟩ hx=>⟨q,c,he,aM ho hx⟩) (aW (bL _) (aW (bL _) (pM)))))))))))
    case steps=>
     refine sC [] rfl (fun wi hx=> ?_) ?_
     ·intro K hK;have hX:Ext wr wi:=xE;obtain⟨bh,bs,bt⟩:=((HM.out.bk 2).ext hX).tri;go_simp;exact hK _ _ ⟨.agg #[aA,aB,.slice p n a],rfl,rfl,Ext.refl _⟩
     refine sS0 [] (sS0 [] (sS2 [(1,some 38),(2,some 39)] ?_));refine sC [(3,some 40)] rfl (fun wi hx=> ?_) ?_
     ·intro v3 h3 K hK;obtain rfl:=h3;have hX:Ext wr wi:=xE;have bh:wi.cell? ⟨gL,k,none⟩=some (I u):=(hX.cells.1 _ _ al).trans cu;go_simp;exact hK _ _ ⟨I u,rfl,rfl,Ext.refl _⟩
     refine sC [(0,some 37),(4,some 41)] rfl (fun wi hx=> ?_) ?_
     ·intro v0 h0 v4 h4 K hK;subst h0 h4;go_wp2_with fail;refine(av _ (HM.out.ext.trans hx.of_drew)).mono ?_;rintro e w5 ⟨q5,c5,rfl,o5,bp⟩;rw[a6]at o5⊢;go_simp;exact hK _ _ ⟨.slice q5 nb c5,rfl,⟨q5,c5,rfl,bF o5 (by have:=hx.sz;simpa using this)⟩,bp⟩
     refine sC [(5,some 42)] rfl (fun wi hx=> ?_) ?_
     ·intro v5 h5 K hK;obtain⟨q5,c5,rfl,aq⟩:=h5;go_simp;exact hK _ _ ⟨I nb.length,rfl,rfl,Ext.refl _⟩
     exact sS0 [] StepsL.nil
    case fin=>
     intro wi hx v0 h0 v1 h1 v2 h2 v3 h3 v4 h4 v5 h5 v6 h6 v7 h7;subst h0 h1 h2 h3 h4;obtain⟨q5,c5,rfl,aq⟩:=h5;subst h6 h7;have M5:=xQ (show Mem w wi [aJ w TI 1 (q5) (nb.length) (c5) (ivs (bO nb)),aJ w TI 1 (some ⟨gL,0,none⟩) (l) (lc) (ivs (bO Q)),aJ w TI 1 (some ⟨w.heap.size+1,0,none⟩) (n) (n) (ivs (D)),aI w w TH3 #[aA,aB,.slice p n a]]from HM.out.ownNew hx.of_drew aq (aVz _));clear aq hx cu HM av i3 i4 a0 al;refine wpAny_done (by kernel_rfl) ?_ _;try go_frame
     go_wp2;go_loopw [9,44] (fun v i wr=> ∃(j:Nat) (q:OA) (l2 lc:Nat) (D2:List Int) (Q2:List Nat),j≤nb.length∧i=I j∧v= .slice q l2 lc∧l2=Q2.length∧(D2,Q2)=bY (D.getD u 0+1) (D,Q) ((nb.take j).filter (fun(v:Nat)=>decide ((v:Int)≠b)))∧(∀x∈D2,-1≤x∧x≤(k:Int)+1)∧Mem w wr [aJ w TI 1 (q5) (nb.length) (c5) (ivs (bO nb)),aJ w TI 1 (q) (l2) (lc) (ivs (bO Q2)),aJ w TI 1 (some ⟨w.heap.size+1,0,none⟩) (n) (n) (ivs (D2)),aI w w TH3 #[aA,aB,.slice p n a]]) (fun _ i _=>nb.length-(intOf i).toNat)
     case atStart=>exact⟨0,some ⟨gL,0,none⟩,l,lc,D,Q,aW6 _,rfl,rfl,y.out,by simp[bY],fun x hx=>by have:=au x hx;omega,M5.out⟩
     case round=>
      clear M5;obtain⟨j,q,l2,lc,D2,Q2,hj,rfl,rfl,aj,an,z,hM⟩:=hrel;have a7:u∈Q:=aW1 HU.out;have f:Mid (uU aA n b) [src] n k u ((nb.take j).filter (fun(v:Nat)=>decide ((v:Int)≠b))) (D,Q) (D2,Q2):=by
       rw[an]
       have:=Mid.many a7 ((nb.take j).filter (fun(v:Nat)=>decide ((v:Int)≠b))) [] (D,Q) (HI.out.mid HU.out) (fun v hv=>by
        have h1:=aWy.1 hv;have h2:v∈aU aA n u:=by rw[←ak.out];exact aXq h1.1
        exact⟨aWy.2 ⟨h2,h1.2⟩,(cH.1 h2).1⟩)
       simpa using this
      have ay:D2.length=n:=f.len;have bw:Q2.length≤n:=sQ f.nodup f.bd;have ar:D2.getD u 0=D.getD u 0:=f.same u a7;obtain⟨r,hr⟩:=f.pre;dsimp only at hr;have bi:k<Q2.length:=by rw[hr,aW5];have:=y.out;omega
      have a1:Q2[k]? =some u:=by have:=y.out;rw[hr,aWl (by omega)];exact HU.out
      have g:=eE (D:=D2) (v:=u) (by omega);have a4: -1≤D2.getD u 0:=(z _ g.2).1;have a5:D2.getD u 0≤(k:Int):=by rw[ar];exact(au _ (eE (D:=D) (v:=u) (by have:=HI.out.len;dsimp only at this;omega)).2).2
      have HM:=xQ hM;have ae:=xQ an;have o:=xQ z;have s:=xQ aj;have bf:=xQ a1;have bc:=xQ g.1;have bg:=xQ ar;have br:l2≤n:=by omega
      have bq:k<l2:=by omega
      have az:=xQ ay;clear hM an z aj a1 g ar hr f ay bi;by_cases hlt3:j<nb.length
      ·obtain⟨v,hv⟩: ∃v,nb[j]? =some v:=⟨_,aW0 hlt3⟩
       have bo:v<n:=(cH.1 (by rw[←ak.out];exact aW1 hv:v∈aU aA n u)).1;have HV:=xQ hv;clear hv;obtain⟨gN,rfl,bu,bv⟩:=HM.out.so 0;obtain⟨gL,rfl,a0,al⟩:=HM.out.so 1;obtain⟨dv,am⟩: ∃d,d=D2.getD v 0:=⟨_,rfl⟩
       obtain⟨du,g⟩: ∃d,d=D2.getD u 0:=⟨_,rfl⟩
       have aa:=eE (D:=D2) (v:=v) (by rw[az.out];exact bo);rw[←am]at aa;have be:=xQ aa.1;have ai:=xQ am;have ah:=xQ g;rw[←g]at a4 a5;clear am g aa;have m1:=aYp j;have m2:(j:Int)<(nb.length:Int):=by omega
       have m3:=aYp v;have m4:=aYq v n;have m5:=aYp u;have m6:=aYq u n;have m7:=aYp k;have m8:=aYq k l2;have cn:wr.cell? ⟨gN,j,none⟩=some (I v):=by have:=(HM.out.ow 0).cellAt j (by omega);rw[this];simp[ivs,bO,HV.out]
       have cf:wr.cell? ⟨w.heap.size+1,v,none⟩=some (I dv):=by have:=(HM.out.ow 2).cellAt v (by omega);rw[this];simp only[ivs,aWp,be.out,aX2]
       by_cases hvb:(v:Int)=b
       ·have t1:((v:Int)!=b)=false:=by simp[hvb]
        have t:=xQ (aN2 HV hvb);clear hvb;go_wp2;go_roundw
        case rel=>exact⟨j+1,some ⟨gL,0,none⟩,l2,lc,D2,Q2,by omega,by go_num,rfl,s.out,by rw[t.out];exact ae.out,o.out,HM.out⟩
        case measure=>simp[intOf];omega
       have t1:((v:Int)!=b)=true:=by simp[hvb]
       have t:=xQ (aJd HV hvb);clear hvb;by_cases hd0:dv<0
       ·have t2:decide (dv<0)=true:=by simp[hd0]
        have m:Hid ((D2.set v (du+1),Q2++ [v])=bY (D.getD u 0+1) (D,Q) ((nb.take (j+1)).filter (fun(v:Nat)=>decide ((v:Int)≠b)))):=by show _=_;rw[t.out,eT,←ae.out,nT (by rw[←ai.out];exact hd0),ah.out,bg.out]
        have cl:wr.cell? ⟨gL,k,none⟩=some (I u):=by have:=(HM.out.ow 1).cellAt k (by omega);rw[this];simp[ivs,bO,bf.out]
        have cd:wr.cell? ⟨w.heap.size+1,u,none⟩=some (I du):=by have:=(HM.out.ow 2).cellAt u (by omega);rw[this,ah.out];simp only[ivs,aWp,bc.out,aX2]
        have ff:wr.frozen? ⟨w.heap.size+1,v,none⟩=false:=(HM.out.ow 2).frozenAt v;have b0:=aYs (du+1);have M6:=xQ (show Mem w (wr.setCell ⟨w.heap.size+1,v,none⟩ (I (du+1))) [aJ w TI 1 (some ⟨gN,0,none⟩) (nb.length) (c5) (ivs (bO nb)),aJ w TI 1 (some ⟨gL,0,none⟩) (l2) (lc) (ivs (bO Q2)),aJ w TI 1 (some ⟨w.heap.size+1,0,none⟩) (n) (n) (ivs (D2.set v (du+1))),aI w w TH3 #[aA,aB,.slice p n a]]from by rw[←eW];exact HM.out.ostore (i:=2) rfl v (I (du+1)));have a3:Hid (∀x∈D2.set v (du+1),-1≤x∧x≤(k:Int)+1):=by
         show∀_,_;intro x hx;rcases aXa hx with h|h
         ·exact o x h
         omega
        clear hd0;go_upto_region 17 with fail;clear cl cd ff cn cf HM;generalize a9:World.setCell _ _ _=w4;rw[a9]at M6;clear a9;go_wp2_with (at_builtin;go_loud (refine dN iA rfl _ _ rfl (M6.out.adv ((Ext.refl _).alloc (.cells #[v] TI))) 1 rfl rfl (ivs [(v:Int)]) rfl (fC _ _ _ 1 1 _ (by first|rfl|simp) (by first|rfl|simp) (by simp[maxLen])) (fun u hu=>by obtain rfl:=aWq.1 hu;rfl) (by omega) ?_;intro q7 c7 w6 M7));have M8:=xQ (show Mem w w6 [aJ w TI 1 (some ⟨gN,0,none⟩) (nb.length) (c5) (ivs (bO nb)),aJ w TI 1 (q7) (l2+1) (c7) (ivs (bO (Q2++ [v]))),aJ w TI 1 (some ⟨w.heap.size+1,0,none⟩) (n) (n) (ivs (D2.set v (du+1))),aI w w TH3 #[aA,aB,.slice p n a]]from by rw[show ivs (bO (Q2++ [v]))=ivs (bO Q2)++ivs [(v:Int)] by simp[ivs,bO]];exact M7);clear M7 M6;go_wp2;go_roundw
        case rel=>exact⟨j+1,q7,l2+1,c7,D2.set v (du+1),Q2++ [v],by omega,by go_num,rfl,by simp[s.out],m.out,a3.out,M8.out⟩
        case measure=>simp[intOf];omega
       have t2:=aYu (dv<0);have m:Hid ((D2,Q2)=bY (D.getD u 0+1) (D,Q) ((nb.take (j+1)).filter (fun(v:Nat)=>decide ((v:Int)≠b)))):=by show _=_;rw[t.out,eT,←ae.out,pV (by rw[←ai.out];exact hd0)]
       clear hd0;go_wp2;go_roundw
       case rel=>exact⟨j+1,some ⟨gL,0,none⟩,l2,lc,D2,Q2,by omega,by go_num,rfl,s.out,m.out,o.out,HM.out⟩
       case measure=>simp[intOf];omega
      obtain rfl:nb.length=j:=by omega
      have ao:Hid (Inv (uU aA n b) [src] n (k+1) (D2,Q2)):=by show Inv _ _ _ _ _;have h1:=HI.out.step HU (fun v hv=>aNc hv);have h2:=ae.out;rw[aXt,ak.out]at h2;rw[h2];exact h1
      have M9:=xQ (show Mem w wr [aJ w TI 1 (q) (l2) (lc) (ivs (bO Q2)),aJ w TI 1 (some ⟨w.heap.size+1,0,none⟩) (n) (n) (ivs (D2)),aI w w TH3 #[aA,aB,.slice p n a]]from HM.out.pick [1,2,3] (by decide) rfl);clear HM;go_wp2;go_roundw
      case rel=>exact⟨k+1,q,l2,lc,D2,Q2,by omega,by go_num,rfl,s.out,fun x hx=>by have:=o x hx;omega,ao.out,M9.out⟩
      case measure=>simp[intOf];omega
   have ab:=xQ (HI.out.dist (by have:=y.out;dsimp only;omega));go_wp2;go_ret;exact⟨D,ab.out,some ⟨w.heap.size+1,0,none⟩,n,by rw[ab.out.len];rfl,by rw[ab.out.len];exact HM.out.ow 1,HM.out.ext⟩
theorem aV0 (a src:Nat)(b:Int)(xs:List Int)(w:World)(hS:Sl w p n a 1 (ivs xs))(c:aO aA aB xs=true)(hs:src<n):
  U 207 #[aH aA aB p n a,src,b] w fun e w'=> ∃D,yD (uU aA n b) [src] n D∧cC D w e w':=by
 have hl:=hS.ilen;obtain⟨g1,g2,g3,g4,g5,g6,g7,g8,g9⟩:=bS c
 exact aRs aA aB p n a src b w (by omega) (by omega) hs (fun k hk w' hx=>by
  have:=aLw aA aB k p n a xs w' (hS.ext hx) c (by omega) (by omega)
  rwa[nY]at this)
theorem aRp (a u:Nat)(w:World)(hg:Hid ((aA,n)∈lD))(bh:4≤n)(hn:n≤12)(hu:u<n)(HV:xB 34 #[aH aA aB p n a] w true)(HH:Hid (∀(k:Nat),k<n→ ∀w',U 157 #[aH aA aB p n a,k] w' (Z (.bool true) w')))(HF:xC 207 #[aH aA aB p n a,(),(-1:Int)] w fun w' e w''=> ∃D,(D.length=n∧ ∀v,v<n→D.getD v 0=bE aA v 0)∧cC D w' e w'')(HC:Hid (∀(k:Nat),k<n→ ∀w',Ext w w'→U 208 #[aH aA aB p n a,k] w' (cC (bO (aU aA n k)) w'))):
  U 184 #[aH aA aB p n a,u,(),(-1:Int)] w (cC (bO (dS aA n 12 u)) w):=by
 have a1:=aYp u;have a2:=aYq u n;have a3:((-1:Int)==(u:Int))=false:=by first|(simp;done)|(simp;omega)
 have a4:decide ((n:Int)≤ -1)=false:=by first|(simp;done)|(simp;omega)
 have a0:Hid (∀w',U 157 #[aH aA aB p n a,()] w' (Z (.bool true) w')):=HH.out 0 (by omega);have aa:=xQ (cL hg.out hu);go_enter func184,ntmps184;go_wp2_with fail;have M0:=((Mem.start w).c0 TH3 #[aA,aB,.slice p n a])
 refine Ω (HV _ M0.ext) fun w1 av=>?_
 have M1:=(M0.adv av)
 obtain⟨b0,b1,b2⟩:=(M1.bk 0).cells3;clear av M0;go_wp2_with fail;refine Ω (HH u hu _) fun w2 aw=>?_
 have M2:=(M1.adv aw)
 clear b0 b1 b2 aw M1;obtain⟨b0,b1,b2⟩:=(M2.bk 0).cells3;go_wp2_with fail;refine Ω (a0 _) fun w3 ax=>?_
 have M3:=(M2.adv ax)
 clear b0 b1 b2 ax M2;obtain⟨b0,b1,b2⟩:=(M3.bk 0).cells3;go_wp2_with fail;refine(HF _ M3.ext).mono ?_;rintro e w4 ⟨D,⟨ag,am⟩,q2,c2,rfl,o4,ay⟩;rw[ag]at o4⊢;have HD:=xQ ag;have ad:=xQ am;have M4:=(M3.call ay o4)
 clear b0 b1 b2 ay o4 M3 ag am;obtain⟨gF,rfl,a7,a8⟩:=M4.so 0;have cU:w4.cell? ⟨gF,u,none⟩=some (I (bE aA u 0)):=by have h1:=(eE (D:=D) (v:=u) (by rw[HD.out];exact hu)).1;rw[ad u hu]at h1;have:=(M4.ow 0).cellAt u (by omega);rw[this];simp only[ivs,aWp,h1,aX2]
 have a5:decide (bE aA (u:Int) 0<0)=false:=by have:=aa.out.1;first|(simp;done)|(simp;omega)
 have M5:=(M4.lit TI 1 1 w4 #[u] rfl rfl (by simp[maxLen]))
 go_wp2;clear cU M4 a7 a8;go_loopw [10,11] (fun o v wr=> ∃(x f:Nat) (pre:List Nat) (q:OA) (l lc:Nat),o= .slice q l lc∧v=I x∧x<n∧bE aA x 0≤f∧pre++dS aA n f x=dS aA n 12 u∧l=pre.length+1∧Mem w wr [aJ w TI 1 (q) (l) (lc) (ivs (bO (pre++ [x]))),aJ w TI 1 (some ⟨gF,0,none⟩) (n) (c2) (ivs (D)),aI w w TH3 #[aA,aB,.slice p n a]]) (fun _ v _=>(bE aA (intOf v) 0).toNat)
 case atStart=>exact⟨u,12,[],some ⟨w4,0,none⟩,1,1,rfl,rfl,hu,by have:=aa.out.2.1;omega,rfl,rfl,M5⟩
 case round=>
  clear M5;obtain⟨x,f,pre,q,l,lc,rfl,rfl,hx,hf,s,hl,hM⟩:=hrel;have HM:=hM;have HW:=xQ s;have ae:=xQ (cL hg.out hx);have ak:=xQ hf;have bf:l≤12:=by have h1:=congrArg List.length s;have h2:=pR hg.out f x hx hf;have h3:=pR hg.out 12 u hu (by have:=aa.out.2.1;omega);have h4:=aa.out.2.1;have h5:=ae.out.1;rw[aW5]at h1;omega
  have al:=xQ hl;clear hM s hf hl;by_cases h0:x=0
  ·have t0:((x:Int)!=0)=false:=by simp[h0]
   have ab:Hid (pre++ [x]=dS aA n 12 u):=by show _=_;rw[←HW.out];subst h0;cases f<;>simp[dS]
   clear h0;go_wp2;go_ret;exact fE (by rw[←ab.out];have:=al.out;simp[bO];omega) (by rw[←ab.out];exact HM.ow 0) HM.ext
  have t0:((x:Int)!=0)=true:=by simp[h0]
  obtain⟨J,a9,z,ah⟩:=aMm hg.out hx h0;obtain⟨e1,e2,e3⟩:=ae.out.2.2.2.1 h0;have be:=xQ h0;obtain⟨y,hy⟩: ∃y,y=oA aA n x:=⟨_,rfl⟩
  rw[←hy]at z e1 e2 e3;have HY:=xQ hy;clear hy h0;obtain⟨nb,m⟩: ∃nb,nb=aU aA n x:=⟨_,rfl⟩
  rw[←m]at a9 z ah;have aj:Hid (∀w',Ext w w'→U 208 #[aH aA aB p n a,x] w' (cC (bO nb) w')):=by rw[m];exact HC x hx
  have a6:=xQ m;have bc:nb.length≤12:=by rw[m];exact aW8 (aXc _ _) (by simp;omega)
  have an:=xQ z;have ao:=xQ ah;have t:=xQ e3;clear m z ah e2 e3;have aq:(bO nb).length=nb.length:=by simp[bO]
  obtain⟨b0,b1,b2⟩:=(HM.bk 2).cells3;go_wp2_with fail;clear b0 b1 b2;refine(aj _ HM.ext).mono ?_;rintro e w5 ⟨q5,c5,rfl,o5,az⟩;rw[aq]at o5⊢;have M6:=(HM.call az o5)
  clear o5 az aj HM;obtain⟨gN,rfl,ba,bb⟩:=M6.so 0;clear ba bb;go_wp2;go_loopw [11,69] (fun cc i wz=> ∃j:Nat,j≤J∧cc=I x∧i=I j∧Mem w wz [aJ w TI 1 (some ⟨gN,0,none⟩) (nb.length) (c5) (ivs (bO nb)),aJ w TI 1 (q) (l) (lc) (ivs (bO (pre++ [x]))),aJ w TI 1 (some ⟨gF,0,none⟩) (n) (c2) (ivs (D)),aI w w TH3 #[aA,aB,.slice p n a]]) (fun _ i _=>J-(intOf i).toNat)
  case atStart=>exact⟨0,aW6 _,rfl,rfl,M6⟩
  case round=>
   clear M6;obtain⟨j,hj,rfl,rfl,hM⟩:=hrel;have HM:=hM;clear hM;obtain⟨v,hv⟩: ∃v,nb[j]? =some v:=⟨_,aW0 (by omega)⟩
   have r:v<n:=(cH.1 (by rw[←a6.out];exact aW1 hv:v∈aU aA n x)).1;have af:=xQ hv;have g:=(eE (D:=D) (v:=v) (by rw[HD.out];exact r)).1;have h:=(eE (D:=D) (v:=x) (by rw[HD.out];exact hx)).1;rw[ad v r]at g;rw[ad x hx]at h;obtain⟨dv,b⟩: ∃d,d=bE aA v 0:=⟨_,rfl⟩
   obtain⟨dx,c⟩: ∃d,d=bE aA x 0:=⟨_,rfl⟩
   have gv:=cL hg.out r;have gx:=ae.out;rw[←b]at g gv;rw[←c]at h gx;have m1:=aYp j;have m2:(j:Int)<(nb.length:Int):=by omega
   have m3:=aYp v;have m4:=aYq v n;have m5:=aYp x;have m6:=aYq x n;have w7:=aYs (dx-1);have cn:wr.cell? ⟨gN,j,none⟩=some (I v):=by have:=(HM.ow 0).cellAt j (by omega);rw[this];simp[ivs,bO,af.out]
   have cf:wr.cell? ⟨gF,v,none⟩=some (I dv):=by have:=(HM.ow 2).cellAt v (by omega);rw[this];simp only[ivs,aWp,g,aX2]
   have cx:wr.cell? ⟨gF,x,none⟩=some (I dx):=by have:=(HM.ow 2).cellAt x (by omega);rw[this];simp only[ivs,aWp,h,aX2]
   by_cases hjJ:j<J
   ·have ar:(dv==dx-1)=false:=by
     have:=ao.out j v hjJ af.out;rw[←b,←c]at this;exact beq_eq_false_iff_ne.2 this
    clear g h b c gv gx;go_wp2;go_quiet (fail);go_wp2;go_roundw
    case rel=>exact⟨j+1,by omega,rfl,by go_num,HM.adv xE⟩
    case measure=>simp[intOf];omega
   obtain rfl:j=J:=by omega
   have bd:v=y:=by have h1:=af.out;rw[an.out]at h1;injection h1 with h1;exact h1.symm
   subst bd;have ar:(dv==dx-1)=true:=by have:=t.out;rw[←b,←c]at this;simp[this]
   have ap:=xQ (show 1≤bE aA (x:Int) 0 by have h1:=(cL hg.out r).1;have h2:=t.out;omega);clear g h b gv;go_wp2;go_quiet (fail);generalize au:World.drewN _ _=wq;have M7:=(show Mem w wq [aJ w TI 1 (q) (l) (lc) (ivs (bO (pre++ [x]))),aJ w TI 1 (some ⟨gF,0,none⟩) (n) (c2) (ivs (D)),aI w w TH3 #[aA,aB,.slice p n a]]from by rw[←au];exact(HM.adv xE).pick [1,2,3] (by decide) rfl)
   clear au cn cf cx HM;go_wp2_with (at_builtin;go_loud (refine dN iA rfl _ _ rfl (M7.adv ((Ext.refl _).alloc (.cells #[v] TI))) 0 rfl rfl (ivs [(v:Int)]) rfl (fC _ _ _ 1 1 _ (by first|rfl|simp) (by first|rfl|simp) (by simp[maxLen])) (fun u hu=>by obtain rfl:=aWq.1 hu;rfl) (by omega) ?_;intro q7 c7 w6 M8));have M9:=(show Mem w w6 [aJ w TI 1 (q7) (l+1) (c7) (ivs (bO (pre++ [x]++ [v]))),aJ w TI 1 (some ⟨gF,0,none⟩) (n) (c2) (ivs (D)),aI w w TH3 #[aA,aB,.slice p n a]]from by rw[show ivs (bO (pre++ [x]++ [v]))=ivs (bO (pre++ [x]))++ivs [(v:Int)] by simp[ivs,bO]];exact M8)
   clear M8 M7;have bg:0<f:=by have:=ak.out;have:=ap.out;omega
   obtain⟨f',rfl⟩: ∃f',f=f'+1:=⟨f-1,by omega⟩
   have ai:Hid ((pre++ [x])++dS aA n f' v=dS aA n 12 u):=by
    show _=_;rw[←HW.out]
    conv=>rhs;rw[dS,if_neg be.out,←HY.out]
    simp
   go_wp2;go_roundw
   case rel=>exact⟨v,f',pre++ [x],q7,l+1,c7,rfl,by go_num,r,by have:=t.out;have:=ak.out;omega,ai.out,by have:=al.out;simp;omega,M9⟩
   case measure=>simp[intOf];have:=t.out;have:=ap.out;omega
theorem aUz (a u:Nat)(xs:List Int)(w:World)(hS:Sl w p n a 1 (ivs xs))(b:aO aA aB xs=true)(hu:u<n):
  U 184 #[aH aA aB p n a,u,(),(-1:Int)] w (cC (bO (dS aA n 12 u)) w):=by
 have hl:=hS.ilen;obtain⟨g1,g2,g3,g4,g5,g6,g7,g8,g9⟩:=bS b;have hg:=vY (n:=n) g1 g2 g3 g4 (by omega);refine aRp aA aB p n a u w hg (by omega) (by omega) hu (fun w' hx=>by have:=iK aA aB p n a xs w' (hS.ext hx);rwa[b]at this) (fun k hk w'=> ?_) (fun w' hx=> ?_) (fun k hk w' hx=> ?_)
 ·have:=lC aA aB k p n a w' (by omega);rwa[decide_eq_true (⟨by omega,by omega⟩:0≤(k:Int)∧(k:Int)<n)]at this
 ·refine(aV0 aA aB p n a 0 (-1) xs w' (hS.ext hx) b (by omega)).mono ?_;rintro e w2 ⟨D,hD,hr⟩;exact⟨D,⟨hD.len,fun v hv=>aEz hg (aJr aA n) hD hv⟩,hr⟩
 have:=aLw aA aB k p n a xs w' (hS.ext hx) b (by omega) (by omega);rwa[nY]at this
theorem aS4 (c d A:Int)(p:OA)(n a:Nat)(w:World)(HV:xB 34 #[aH aA aB p n a] w true)(HF:Hid (∀w',U 157 #[aH aA aB p n a,c] w' (Z (.bool true) w')))(HT:Hid (∀w',U 157 #[aH aA aB p n a,d] w' (Z (.bool true) w')))(HA:Hid (∀w',U 158 #[aA,c,d] w' (Z (I A) w'))):
  U 209 #[aH aA aB p n a,c,d] w (Z (I A) w):=by
 go_enter func209,ntmps209;go_wp2_with fail;refine Ω (HV _ (Mem.b1 w).ext) fun w1 b=>?_
 have M1:=((Mem.b1 w).adv b)
 clear b;have h_:=(M1.bk 0).tri;go_wp2_with fail;clear h_;refine Ω (HF _) fun w2 f=>?_
 have M2:=(M1.adv f)
 clear M1 f;have h_:=(M2.bk 0).tri;go_wp2_with fail;clear h_;refine Ω (HT _) fun w3 g=>?_
 have M3:=(M2.adv g)
 clear M2 g;have h_:=(M3.bk 0).tri;go_wp2_with fail;clear h_;refine Ω (HA _) fun w4 h=>?_
 have M4:=(M3.adv h)
 clear M3 h;go_wp2;go_ret;exact⟨rfl,M4.ext⟩
theorem aOu (a:Nat)(w:World)(HV:xB 34 #[aH aA aB p n a] w true)(HF:Hid (∀w',U 157 #[aH aA aB p n a,f] w' (Z (.bool false) w'))):
  U 117 #[aH aA aB p n a,eV f t] w (Z (.bool false) w):=by
 go_enter func117,ntmps117;go_wp2_with fail;refine Ω (HV _ (Mem.b2 w).ext) fun w1 b=>?_
 have M1:=((Mem.b2 w).adv b)
 clear b;have h_:=(M1.bk 1).tri;have s0:=(M1.bk 0).cl 0;have s1:=(M1.bk 0).cl 1;go_wp2_with fail;clear h_ s0 s1;refine Ω (HF _) fun w2 c=>?_
 have M2:=(M1.adv c)
 clear M1 c;have h_:=(M2.bk 1).tri;have s0:=(M2.bk 0).cl 0;have s1:=(M2.bk 0).cl 1;go_wp2;go_ret;exact⟨rfl,M2.ext⟩
theorem aOt (a:Nat)(w:World)(HV:xB 34 #[aH aA aB p n a] w true)(HF:Hid (∀w',U 157 #[aH aA aB p n a,f] w' (Z (.bool true) w')))(HT:Hid (∀w',U 157 #[aH aA aB p n a,t] w' (Z (.bool false) w'))):
  U 117 #[aH aA aB p n a,eV f t] w (Z (.bool false) w):=by
 go_enter func117,ntmps117;go_wp2_with fail;refine Ω (HV _ (Mem.b2 w).ext) fun w1 b=>?_
 have M1:=((Mem.b2 w).adv b)
 clear b;have h_:=(M1.bk 1).tri;have s0:=(M1.bk 0).cl 0;have s1:=(M1.bk 0).cl 1;go_wp2_with fail;clear h_ s0 s1;refine Ω (HF _) fun w2 c=>?_
 have M2:=(M1.adv c)
 clear M1 c;have h_:=(M2.bk 1).tri;have s0:=(M2.bk 0).cl 0;have s1:=(M2.bk 0).cl 1;go_wp2_with fail;clear h_ s0 s1;refine Ω (HT _) fun w3 d=>?_
 have M3:=(M2.adv d)
 clear M2 d;have h_:=(M3.bk 1).tri;have s0:=(M3.bk 0).cl 0;have s1:=(M3.bk 0).cl 1;go_wp2;go_ret;exact⟨rfl,M3.ext⟩
theorem aOs (hi:i<n)(hj:j<n)(hb:b<w.heap.size)(h:Hid (w.cell? ⟨b,a+i,none⟩=some (I x)))(k:Hid (w.cell? ⟨b,a+j,none⟩=some (I y)))(d1:(x !=0)=false)(HV:xB 34 #[aH aA aB (some ⟨b,a,none⟩) n c] w true)(HF:Hid (∀w',U 157 #[aH aA aB (some ⟨b,a,none⟩) n c,i] w' (Z (.bool true) w')))(HT:Hid (∀w',U 157 #[aH aA aB (some ⟨b,a,none⟩) n c,j] w' (Z (.bool true) w'))):
  U 117 #[aH aA aB (some ⟨b,a,none⟩) n c,eV (i:Int) (j:Int)] w (Z (.bool false) w):=by
 have a1:=aYp i;have a3:=aYq i n;go_enter func117,ntmps117;go_wp2_with fail;refine Ω (HV _ (Mem.b2 w).ext) fun w1 d=>?_
 have M1:=((Mem.b2 w).adv d)
 clear d;have h_:=(M1.bk 1).tri;have s0:=(M1.bk 0).cl 0;have s1:=(M1.bk 0).cl 1;go_wp2_with fail;clear h_ s0 s1;refine Ω (HF _) fun w2 f=>?_
 have M2:=(M1.adv f)
 clear M1 f;have h_:=(M2.bk 1).tri;have s0:=(M2.bk 0).cl 0;have s1:=(M2.bk 0).cl 1;go_wp2_with fail;clear h_ s0 s1;refine Ω (HT _) fun w3 g=>?_
 have M3:=(M2.adv g)
 clear M2 g;have h_:=(M3.bk 1).tri;have s0:=(M3.bk 0).cl 0;have s1:=(M3.bk 0).cl 1;have g1:w3.cell? ⟨b,a+i,none⟩=some (I x):=(M3.ext.cells.1 _ _ hb).trans h.out;go_wp2;go_ret;exact⟨rfl,M3.ext⟩
theorem aOr (hi:i<n)(hj:j<n)(hb:b<w.heap.size)(h:Hid (w.cell? ⟨b,a+i,none⟩=some (I x)))(k:Hid (w.cell? ⟨b,a+j,none⟩=some (I y)))(d1:(x !=0)=true)(d2:(y==0)=false)(HV:xB 34 #[aH aA aB (some ⟨b,a,none⟩) n c] w true)(HF:Hid (∀w',U 157 #[aH aA aB (some ⟨b,a,none⟩) n c,i] w' (Z (.bool true) w')))(HT:Hid (∀w',U 157 #[aH aA aB (some ⟨b,a,none⟩) n c,j] w' (Z (.bool true) w'))):
  U 117 #[aH aA aB (some ⟨b,a,none⟩) n c,eV (i:Int) (j:Int)] w (Z (.bool false) w):=by
 have a1:=aYp i;have a2:=aYp j;have a3:=aYq i n;have a4:=aYq j n;go_enter func117,ntmps117;go_wp2_with fail;refine Ω (HV _ (Mem.b2 w).ext) fun w1 d=>?_
 have M1:=((Mem.b2 w).adv d)
 clear d;have h_:=(M1.bk 1).tri;have s0:=(M1.bk 0).cl 0;have s1:=(M1.bk 0).cl 1;go_wp2_with fail;clear h_ s0 s1;refine Ω (HF _) fun w2 f=>?_
 have M2:=(M1.adv f)
 clear M1 f;have h_:=(M2.bk 1).tri;have s0:=(M2.bk 0).cl 0;have s1:=(M2.bk 0).cl 1;go_wp2_with fail;clear h_ s0 s1;refine Ω (HT _) fun w3 g=>?_
 have M3:=(M2.adv g)
 clear M2 g;have h_:=(M3.bk 1).tri;have s0:=(M3.bk 0).cl 0;have s1:=(M3.bk 0).cl 1;have g1:w3.cell? ⟨b,a+i,none⟩=some (I x):=(M3.ext.cells.1 _ _ hb).trans h.out;have g2:w3.cell? ⟨b,a+j,none⟩=some (I y):=(M3.ext.cells.1 _ _ hb).trans k.out;go_wp2;go_ret;exact⟨rfl,M3.ext⟩
theorem aRt (A:Int)(w:World)(hi:i<n)(hj:j<n)(hb:b<w.heap.size)(k:Hid (w.cell? ⟨b,a+i,none⟩=some (I x)))(l:Hid (w.cell? ⟨b,a+j,none⟩=some (I y)))(d1:(x !=0)=true)(d2:(y==0)=true)(HV:xB 34 #[aH aA aB (some ⟨b,a,none⟩) n c] w true)(HF:Hid (∀w',U 157 #[aH aA aB (some ⟨b,a,none⟩) n c,i] w' (Z (.bool true) w')))(HT:Hid (∀w',U 157 #[aH aA aB (some ⟨b,a,none⟩) n c,j] w' (Z (.bool true) w')))(HA:Hid (∀w',U 158 #[aA,i,j] w' (Z (I A) w'))):
  U 117 #[aH aA aB (some ⟨b,a,none⟩) n c,eV (i:Int) (j:Int)] w (Z (.bool (A==1)) w):=by
 have a1:=aYp i;have a2:=aYp j;have a3:=aYq i n;have a4:=aYq j n;go_enter func117,ntmps117;go_wp2_with fail;refine Ω (HV _ (Mem.b2 w).ext) fun w1 d=>?_
 have M1:=((Mem.b2 w).adv d)
 clear d;have h_:=(M1.bk 1).tri;have s0:=(M1.bk 0).cl 0;have s1:=(M1.bk 0).cl 1;go_wp2_with fail;clear h_ s0 s1;refine Ω (HF _) fun w2 f=>?_
 have M2:=(M1.adv f)
 clear M1 f;have h_:=(M2.bk 1).tri;have s0:=(M2.bk 0).cl 0;have s1:=(M2.bk 0).cl 1;go_wp2_with fail;clear h_ s0 s1;refine Ω (HT _) fun w3 g=>?_
 have M3:=(M2.adv g)
 clear M2 g;have h_:=(M3.bk 1).tri;have s0:=(M3.bk 0).cl 0;have s1:=(M3.bk 0).cl 1;have g1:w3.cell? ⟨b,a+i,none⟩=some (I x):=(M3.ext.cells.1 _ _ hb).trans k.out;have g2:w3.cell? ⟨b,a+j,none⟩=some (I y):=(M3.ext.cells.1 _ _ hb).trans l.out;go_wp2_with fail;clear h_ s0 s1 g1 g2;refine Ω (HA _) fun w4 h=>?_
 have M4:=(M3.adv h)
 clear M3 h;go_wp2;go_ret;exact⟨rfl,M4.ext⟩
theorem aV9 (d:Nat)(p:OA)(n a:Nat)(xs:List Int)(w:World)(hS:Sl w p n a 1 (ivs xs))(b:aO aA aB xs=true)(hc:c<n)(hd:d<n):
  U 209 #[aH aA aB p n a,c,d] w (Z (I (bE aA c d)) w):=by
 have hl:=hS.ilen;obtain⟨g1,g2,g3,g4,g5,g6,g7,g8,g9⟩:=bS b;have HH: ∀(k:Nat),k<n→ ∀w',U 157 #[aH aA aB p n a,k] w' (Z (.bool true) w'):=fun k hk w'=>by have:=lC aA aB k p n a w' (by omega);rwa[decide_eq_true (⟨by omega,by omega⟩:0≤(k:Int)∧(k:Int)<n)]at this
 exact aS4 aA aB c d _ p n a w (fun w' hx=>by have:=iK aA aB p n a xs w' (hS.ext hx);rwa[b]at this) (HH c hc) (HH d hd) (fun w'=>pK aA c d w' (by omega) (by omega) (by omega) (by omega) (by omega) (by omega))
theorem aV1 (a:Nat)(xs:List Int)(w:World)(hS:Sl w p n a 1 (ivs xs))(g:aO aA aB xs=true):
  U 117 #[aH aA aB p n a,eV f t] w (Z (.bool (bM aA aB xs f t)) w):=by
 have hl:=hS.ilen;obtain⟨g1,g2,g3,g4,g5,g6,g7,g8,g9⟩:=bS g;have HV: ∀w',Ext w w'→U 34 #[aH aA aB p n a] w' (Z (.bool true) w'):=fun w' hx=>by have:=iK aA aB p n a xs w' (hS.ext hx);rwa[g]at this
 have HH: ∀(c:Int) w',U 157 #[aH aA aB p n a,c] w' (Z (.bool (decide (0≤c∧c<n))) w'):=fun c w'=>lC aA aB c p n a w' (by omega)
 by_cases hf:0≤f∧f<n
 ·have HF:=HH f;rw[decide_eq_true hf]at HF;by_cases ht:0≤t∧t<n
  ·have HT:=HH t;rw[decide_eq_true ht]at HT;obtain⟨i,rfl⟩: ∃i:Nat,f=(i:Int):=⟨f.toNat,by omega⟩
   obtain⟨j,rfl⟩: ∃j:Nat,t=(j:Int):=⟨t.toNat,by omega⟩
   have hi:i<n:=by omega
   have hj:j<n:=by omega
   obtain⟨b,d,rfl,hb,m⟩:=hS.rd (by omega);have o:xs[i]? =some (xs.getD i 0):=by rw[aW7,aW0 (by omega)];rfl
   have q:xs[j]? =some (xs.getD j 0):=by rw[aW7,aW0 (by omega)];rfl
   have k:w.cell? ⟨b,d+i,none⟩=some (I (xs.getD i 0)):=by rw[m i (by omega)];simp only[ivs,aWp,o,aX2]
   have l:w.cell? ⟨b,d+j,none⟩=some (I (xs.getD j 0)):=by rw[m j (by omega)];simp only[ivs,aWp,q,aX2]
   have s:0≤xs.getD i 0:=sZ g i;have r:eG aA aB xs (i:Int) (j:Int)=bE aA i j:=by unfold eG;rw[if_pos ⟨g,⟨by omega,by omega⟩,by omega,by omega⟩]
   unfold bM;rw[r,aXo,aXo];clear o q;generalize xs.getD i 0=x at*;generalize xs.getD j 0=y at*;by_cases hx0:x=0
   ·subst hx0;rw[show(decide (bE aA (i:Int) j=1)&&decide (0<(0:Int))&&decide (y=0))=false by simp];exact aOs aA aB b d n a i j _ _ w hi hj hb k l (by simp) HV HF HT
   have d1:(x !=0)=true:=by simp[hx0]
   by_cases hy0:y=0
   ·subst hy0;rw[show(decide (bE aA (i:Int) j=1)&&decide (0<x)&&decide ((0:Int)=0))=(bE aA (i:Int) j==1) by rw[decide_eq_true (show 0<x by omega)];by_cases ha:bE aA (i:Int) j=1<;>simp[ha]];exact aRt aA aB b d n a i j _ _ _ w hi hj hb k l d1 (by simp) HV HF HT (fun w'=>pK aA i j w' (by omega) (by omega) (by omega) (by omega) (by omega) (by omega))
   rw[show(decide (bE aA (i:Int) j=1)&&decide (0<x)&&decide (y=0))=false by simp[hy0]];exact aOr aA aB b d n a i j _ _ w hi hj hb k l d1 (by simp[hy0]) HV HF HT
  have HT:=HH t;rw[decide_eq_false ht]at HT
  rw[show bM aA aB xs f t=false by
   cases h:bM aA aB xs f t with
   |false=>rfl
   |true=>
    unfold bM at h;simp only[aWc,decide_eq_true_eq]at h
    have:=lS h.1.1;omega]
  exact aOt aA aB f t p n a w HV HF HT
 have HF:=HH f;rw[decide_eq_false hf]at HF
 rw[show bM aA aB xs f t=false by
  cases h:bM aA aB xs f t with
  |false=>rfl
  |true=>
   unfold bM at h;simp only[aWc,decide_eq_true_eq]at h
   have:=lS h.1.1;omega]
 exact aOu aA aB f t p n a w HV HF
end Go.Proofs.YthfmmibomhhmpabGreatDoor
