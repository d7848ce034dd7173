/-
  Texts of this proof, packed (@packed).
-/
import Derived.Test.YtbgkcehffiogcabGreatDoorX35
namespace Go.Proofs.YtbgkcehffiogcabGreatDoor
open Go.RowKit Go.Proofs.Tryz
set_option linter.unusedSimpArgs false
set_option linter.unusedVariables false
set_option maxHeartbeats 8000000
set_option maxRecDepth 100000
theorem aAt (ds:List Dd3)(m:Nat):(ds.flatMap eU).drop (m*3)=(ds.drop m).flatMap eU:=by
 induction ds generalizing m with
 |nil=>simp
 |cons d ds ih=>
  cases m with
  |zero=>simp
  |succ m=>obtain⟨a,b,c⟩:=d;rw[show(m+1)*3=m*3+1+1+1 by omega];simp[eU,ih]
def iW (s l:List UInt8):aS×Int×Bool:=match cZ s with
 |none=>(hZ,0,false)
 |some (h,en)=>if((rj 1 l).1.length:Int)≤en then(h,((rj 1 l).1.length:Int),true)else(tV h ((rj 1 l).1.drop en.toNat),((rj 1 l).1.length:Int),true)
theorem qQ {l:List UInt8}{h:aS}{en:Int}(hr:cZ l=some (h,en)):bJ h=true∧0≤en∧en≤99:=by
 obtain⟨a,ht⟩:=tG hr;have hl:l≠ []:=by rintro rfl;simp[cZ,cX,bH]at hr
 obtain⟨h0,h1,_⟩:=tU a hl ht;exact⟨a,h0,h1⟩
theorem zS (s l:List UInt8):(iW s l).1.cells.length≤1000∧(iW s l).1.vs.length≤1000:=by
 unfold iW;cases hr:cZ s with
 |none=>simp[hZ]
 |some x=>
  obtain⟨h,en⟩:=x;obtain⟨a,_,_⟩:=qQ hr;dsimp only;split
  ·have:=kL a;dsimp only;omega
  have:=kL (aE2 ((rj 1 l).1.drop en.toNat) a);dsimp only;omega
theorem aQr (g r:aS)(en:Int)(e1:Nat)(s b:ByteArray)(ds:List Dd3)(nd:Nat)(w:World)
  (HS:xC 21 #[.string s] w fun w' e w''=> ∃pa ca qa da,e= .returned (.tuple #[.agg #[g.aA,g.aB,.slice pa g.cells ca,g.free,g.step,g.aE,g.aF,g.aC,g.aG,.slice qa g.vs da],en,.bool false])∧w''.ownsRow w' TI 1 (.slice pa g.cells ca) g.cells.length (ivs g.cells)∧w''.ownsRow w' TV 4 (.slice qa g.vs da) g.vs.length (g.vs.flatMap aD)∧Ext w' w''):
  U 5 #[.string s,.string b] w (jB hZ 0 false w):=by
 go_enter func5,ntmps5;go_wp2_with fail;refine(HS _ ((Mem.start w).c0 aN zT).ext).mono ?_;rintro e w1 ⟨p1,c1,q1,d1,rfl,ho,hq,hx⟩;have M1:=(((Mem.start w).c0 aN zT).own2 hx ho hq (aT2 _) (by decide))
 have d:=M1.hi 2;clear hx ho hq HS;go_upto_region 3 with fail;obtain⟨X1,c⟩: ∃a,a=w1.heap.size:=⟨_,rfl⟩
 rw[←c];have M2:=(M1.blkNew aN #[g.aA,g.aB,.slice p1 g.cells c1,g.free,g.step,g.aE,g.aF,g.aC,g.aG,.slice q1 g.vs d1] X1 c.symm)
 generalize World.alloc _ _=v1 at M2⊢;clear M1 d c;have f:=M2.hi 0;have h:=M2.hi 3;obtain⟨f0,k,f1,l,f2,m,f3,n,f4,o,f5,p,f6,q,f7,t,f8,u,f9,x⟩:=(M2.bk 3).tenf;go_wp2;clear f0 k f1 l f2 m f3 n f4 o f5 p f6 q f7 t f8 u f9 x f h;have M3:=(M2.put10 (i:=3) rfl (I 0) (I 0) (.slice none 0 0) (I 0) (I 0) (I 0) (I 0) (I 0) (I 0) (.slice none 0 0))
 generalize j:World.setCell _ _ _=wz;rw[j]at M3;clear j M2;obtain⟨y0,y1,y2,y3,y4,y5,y6,y7,y8,y9⟩:=(M3.bk 3).ten;exact bodyPost_ret (v:= .tuple #[.agg #[(),(),((),()),(),(),(),(),(),(),((),())],(),.bool false]) (by simp[results,results5,go_sem, *]) rfl (show jB hZ 0 false w _ _ from⟨none,0,none,0,rfl,aTl _ _ _ _,aTl _ _ _ _,M3.ext⟩)
theorem aOe (g r:aS)(en:Int)(e1:Nat)(s b:ByteArray)(ds:List Dd3)(nd:Nat)(w:World)(hn:(nd:Int)≤en)
  (HS:xC 21 #[.string s] w fun w' e w''=> ∃pa ca qa da,e= .returned (.tuple #[.agg #[g.aA,g.aB,.slice pa g.cells ca,g.free,g.step,g.aE,g.aF,g.aC,g.aG,.slice qa g.vs da],en,.bool true])∧w''.ownsRow w' TI 1 (.slice pa g.cells ca) g.cells.length (ivs g.cells)∧w''.ownsRow w' TV 4 (.slice qa g.vs da) g.vs.length (g.vs.flatMap aD)∧Ext w' w'')
  (HJ:xC 22 #[I 1,.string b] w fun w' e w''=> ∃pj cj,e= .returned (.tuple #[.slice pj nd cj,I (rj 1 b.data.toList).2])∧w''.ownsRow w' TDd 3 (.slice pj nd cj) nd (ds.flatMap eU)∧Ext w' w''):
  U 5 #[.string s,.string b] w (jB g nd true w):=by
 go_enter func5,ntmps5;go_wp2_with fail;refine(HS _ ((Mem.start w).c0 aN zT).ext).mono ?_;rintro e w1 ⟨p1,c1,q1,d1,rfl,ho,hq,hx⟩;have M1:=(((Mem.start w).c0 aN zT).own2 hx ho hq (aT2 _) (by decide))
 have h:=M1.hi 2;clear hx ho hq HS;go_upto_region 3 with fail;obtain⟨X1,f⟩: ∃a,a=w1.heap.size:=⟨_,rfl⟩
 rw[←f];have M2:=(M1.blkNew aN #[g.aA,g.aB,.slice p1 g.cells c1,g.free,g.step,g.aE,g.aF,g.aC,g.aG,.slice q1 g.vs d1] X1 f.symm)
 generalize World.alloc _ _=v1 at M2⊢;clear M1 h f;have j:=M2.hi 0;have k:=M2.hi 3;go_wp2_with fail;refine(HJ _ M2.ext).mono ?_;rintro e w3 ⟨pj,cj,rfl,n,p⟩;have M3:=(M2.call p n)
 clear M2 j k p n HJ;have l:=M3.hi 1;have m:=M3.hi 4;have t0:decide (en<(nd:Int))=false:=by simp;omega
 have t1:decide ((nd:Int)≤en)=true:=by simp;omega
 obtain⟨v0,v1,v2,v3,v4,v5,v6,v7,v8,v9⟩:=(M3.bk 1).ten;obtain⟨f0,q,f1,t,f2,u,f3,x,f4,y,f5,z,f6,aa,f7,ab,f8,ad,f9,ae⟩:=(M3.bk 4).tenf;obtain⟨c,d⟩:=M3.nq 1 4;go_wp2;clear v0 v1 v2 v3 v4 v5 v6 v7 v8 v9 f0 q f1 t f2 u f3 x f4 y f5 z f6 aa f7 ab f8 ad f9 ae c d l m;have M4:=(M3.put10 (i:=4) rfl (I g.aA) (I g.aB) (.slice p1 g.cells c1) (I g.free) (I g.step) (I g.aE) (I g.aF) (I g.aC) (I g.aG) (.slice q1 g.vs d1))
 generalize o:World.setCell _ _ _=wz;rw[o]at M4;clear o M3;obtain⟨y0,y1,y2,y3,y4,y5,y6,y7,y8,y9⟩:=(M4.bk 4).ten;exact bodyPost_ret (v:= .tuple #[.agg #[g.aA,g.aB,.slice p1 g.cells c1,g.free,g.step,g.aE,g.aF,g.aC,g.aG,.slice q1 g.vs d1],nd,.bool true]) (by simp[results,results5,go_sem, *]) rfl (show jB g nd true w _ _ from⟨_,_,_,_,rfl,(M4.ow 2),(M4.ow 3),M4.ext⟩)
theorem aQq (g r:aS)(en:Int)(e1:Nat)(s b:ByteArray)(ds:List Dd3)(nd:Nat)(w:World)(he:en=(e1:Int))(hn:e1<nd)
  (HS:xC 21 #[.string s] w fun w' e w''=> ∃pa ca qa da,e= .returned (.tuple #[.agg #[g.aA,g.aB,.slice pa g.cells ca,g.free,g.step,g.aE,g.aF,g.aC,g.aG,.slice qa g.vs da],en,.bool true])∧w''.ownsRow w' TI 1 (.slice pa g.cells ca) g.cells.length (ivs g.cells)∧w''.ownsRow w' TV 4 (.slice qa g.vs da) g.vs.length (g.vs.flatMap aD)∧Ext w' w'')
  (HJ:xC 22 #[I 1,.string b] w fun w' e w''=> ∃pj cj,e= .returned (.tuple #[.slice pj nd cj,I (rj 1 b.data.toList).2])∧w''.ownsRow w' TDd 3 (.slice pj nd cj) nd (ds.flatMap eU)∧Ext w' w'')
  (HR:Hid (∀B p c q d pe ce w',B≤w'.heap.size→Ext w w'→IsHouse w' g p g.cells.length c q g.vs.length d→Sl w' pe (nd-e1) ce 3 ((ds.drop e1).flatMap eU)→U 23 #[.agg #[g.aA,g.aB,.slice p g.cells c,g.free,g.step,g.aE,g.aF,g.aC,g.aG,.slice q g.vs d],.slice pe (nd-e1) ce] w' fun e w''=> ∃pa ca qa da ps nq cs,e= .returned (.tuple #[.agg #[r.aA,r.aB,.slice pa r.cells ca,r.free,r.step,r.aE,r.aF,r.aC,r.aG,.slice qa r.vs da],.slice ps nq cs])∧w''.ownsRow B TI 1 (.slice pa r.cells ca) r.cells.length (ivs r.cells)∧w''.ownsRow B TV 4 (.slice qa r.vs da) r.vs.length (r.vs.flatMap aD)∧Ext w' w'')):
  U 5 #[.string s,.string b] w (jB r nd true w):=by
 go_enter func5,ntmps5;go_wp2_with fail;refine(HS _ ((Mem.start w).c0 aN zT).ext).mono ?_;rintro e w1 ⟨p1,c1,q1,d1,rfl,ho,hq,hx⟩;have M1:=(((Mem.start w).c0 aN zT).own2 hx ho hq (aT2 _) (by decide))
 have ar:=M1.hi 2;clear hx ho hq HS;go_upto_region 3 with fail;obtain⟨X1,ao⟩: ∃a,a=w1.heap.size:=⟨_,rfl⟩
 rw[←ao];have M2:=(M1.blkNew aN #[g.aA,g.aB,.slice p1 g.cells c1,g.free,g.step,g.aE,g.aF,g.aC,g.aG,.slice q1 g.vs d1] X1 ao.symm)
 generalize World.alloc _ _=v1 at M2⊢;clear M1 ar ao;have au:=M2.hi 0;have av:=M2.hi 3;go_wp2_with fail;refine(HJ _ M2.ext).mono ?_;rintro e w3 ⟨pj,cj,rfl,a5,a9⟩;have M3:=(M2.call a9 a5)
 clear M2 au av a9 a5 HJ;have aw:=M3.hi 1;have ax:=M3.hi 4;have t0:decide (en<(nd:Int))=true:=by simp;omega
 have t1:decide ((nd:Int)≤en)=false:=by simp;omega
 subst he;have t2:decide (e1<nd)=true:=by simp;omega
 have t3:decide (nd≤e1)=false:=by simp;omega
 have cx:e1<nd:=by omega
 obtain⟨gj,rfl,cu,cv⟩:=M3.so 0;have cw:=(M3.sq 0).le;have i0:(0:Int)≤(e1:Int):=by omega
 have i1:(e1:Int)≤(nd:Int):=by omega
 have i2: ¬cj=e1:=by omega
 have i3:(nd:Int)≤(cj:Int):=by omega
 have i4:(e1:Int)≤(cj:Int):=by omega
 have i5:(e1:Int).toNat=e1:=by omega
 have SD:=xQ (uQ (M3.sq 0) (by omega:e1≤nd));rw[aAt,aU2]at SD;have IG:=xQ (show IsHouse w3 g p1 _ c1 q1 _ d1 from⟨(M3.sq 2),(M3.sq 3)⟩);go_upto_region 7 with fail
 refine xN (gl [gEq (.agg #[(g.aA:Int),(g.aB:Int),.slice p1 g.cells c1,(g.free:Int),(g.step:Int),(g.aE:Int),(g.aF:Int),(g.aC:Int),(g.aG:Int),.slice q1 g.vs d1]),gEq (.slice (some ⟨gj,0,none⟩) nd cj),gEq (e1:Int),(fun v _=> ∃pd dd,v= .slice pd (nd-e1) dd∧Sl w3 pd (nd-e1) dd 3 ((ds.drop e1).flatMap eU)),(fun v w'=> ∃p c q d ps nq cs,v= .tuple #[.agg #[r.aA,r.aB,.slice p r.cells c,r.free,r.step,r.aE,r.aF,r.aC,r.aG,.slice q r.vs d],.slice ps nq cs]∧w'.ownsRow w3 TI 1 (.slice p r.cells c) r.cells.length (ivs r.cells)∧w'.ownsRow w3 TV 4 (.slice q r.vs d) r.vs.length (r.vs.flatMap aD)),(fun v w'=> ∃p c q d ps nq cs,v= .tuple #[.agg #[r.aA,r.aB,.slice p r.cells c,r.free,r.step,r.aE,r.aF,r.aC,r.aG,.slice q r.vs d],.slice ps nq cs]∧w'.ownsRow w3 TI 1 (.slice p r.cells c) r.cells.length (ivs r.cells)∧w'.ownsRow w3 TV 4 (.slice q r.vs d) r.vs.length (r.vs.flatMap aD)),(fun v w'=> ∃p c q d,v= .agg #[r.aA,r.aB,.slice p r.cells c,r.free,r.step,r.aE,r.aF,r.aC,r.aG,.slice q r.vs d]∧w'.ownsRow w3 TI 1 (.slice p r.cells c) r.cells.length (ivs r.cells)∧w'.ownsRow w3 TV 4 (.slice q r.vs d) r.vs.length (r.vs.flatMap aD)),(fun v _=> ∃ps nq cs,v= .slice ps nq cs),aRh w3 aN #[(),(),((),()),(),(),(),(),(),(),((),())]]) 9 7 (by kernel_rfl) rfl (by kernel_rfl) (by kernel_rfl) (by kernel_rfl) (by decide) (oA (bK (cC _) (bK (cC _) (bK (cC _) (bK (fun _ _ _ h _=>h) (bK (fun v w w' ⟨p,c,q,d,ps,nq,cs,e,o1,o2⟩ hx=>⟨p,c,q,d,ps,nq,cs,e,aP o1 hx,aP o2 hx⟩) (bK (fun v w w' ⟨p,c,q,d,ps,nq,cs,e,o1,o2⟩ hx=>⟨p,c,q,d,ps,nq,cs,e,aP o1 hx,aP o2 hx⟩) (bK (fun v w w' ⟨p,c,q,d,e,o1,o2⟩ hx=>⟨p,c,q,d,e,aP o1 hx,aP o2 hx⟩) (bK (fun _ _ _ h _=>h) (bK (aCx _ _ _) (rJ))))))))))) (k:=11) (by kernel_rfl) (by decide) (by kernel_rfl) (ls:= [(0,some 36),(1,some 37),(2,some 38),(3,some 39),(4,some 40),(5,some 35),(6,some 41),(7,some 42),(8,some 12)]) (by kernel_rfl) (ir:= [0,1,2,3,4,5,6,7,8]) (by kernel_rfl) rfl (fun _ _ _ _ h=>h) (lf:= [(5,some 35)]) (by kernel_rfl) ?flo ?steps (tl:=#[true,true,true,true,true,true,true,true,true,false,false]) (by kernel_rfl) ?fin
 case flo=>intro wi hx v5 h5;obtain⟨u,o,x,t,m,l,j,rfl,aa,ab⟩:=h5;exact⟨.slice m l j,.inl ⟨by rfl,fun w=>by go_simp⟩,⟨_,_,_,rfl⟩⟩
 case steps=>
  refine sC [] rfl (fun wi hx=> ?_) ?_
  ·intro K hK;have hX:Ext w3 wi:=xE;obtain⟨ch,ci,ck,cl,cm,cn,co,cp,cq,cr⟩:=((M3.bk 1).ext hX).ten;go_simp;exact hK _ _ ⟨.agg #[(g.aA:Int),(g.aB:Int),.slice p1 g.cells c1,(g.free:Int),(g.step:Int),(g.aE:Int),(g.aF:Int),(g.aC:Int),(g.aG:Int),.slice q1 g.vs d1],rfl,rfl,Ext.refl _⟩
  refine sS0 [] (sS0 [] ?_);refine sC [(1,some 37),(2,some 38)] rfl (fun wi hx=> ?_) ?_
  ·intro v1 h1 v2 h2 K hK;subst h1 h2;have bq:=SD.out;go_simp;exact hK _ _ ⟨_,rfl,⟨_,_,rfl,bq⟩,Ext.refl _⟩
  refine sC [(0,some 36),(3,some 39)] rfl (fun wi hx=> ?_) ?_
  ·intro v0 h0 v3 h3 K hK;obtain rfl:=h0;obtain⟨b4,br,rfl,a3⟩:=h3;go_simp;refine(HR w3 _ _ _ _ _ _ _ hx.sz (M3.ext.trans hx.of_drew) (IG.out.ext hx.of_drew) (a3.ext hx.of_drew)).mono ?_;rintro e w5 ⟨u,o,x,t,m,l,j,rfl,o5,v5,b3⟩;go_simp;exact hK _ _ ⟨_,rfl,⟨u,o,x,t,m,l,j,rfl,o5,v5⟩,b3⟩
  refine sC [(4,some 40)] rfl (fun wi hx=> ?_) ?_
  ·intro v4 h4 K hK;obtain⟨bb,a0,bd,a2,bc,ba,a1,rfl,ap,aq⟩:=h4;go_simp;exact hK _ _ ⟨_,rfl,⟨bb,a0,bd,a2,bc,ba,a1,rfl,ap,aq⟩,Ext.refl _⟩
  refine sC [(5,some 35)] rfl (fun wi hx=> ?_) ?_
  ·intro v5 h5 K hK;obtain⟨u,o,x,t,m,l,j,rfl,aa,ab⟩:=h5;go_simp;exact hK _ _ ⟨_,rfl,⟨u,o,x,t,rfl,aa,ab⟩,Ext.refl _⟩
  refine sC [(5,some 35)] rfl (fun wi hx=> ?_) ?_
  ·intro v5 h5 K hK;obtain⟨u,o,x,t,m,l,j,rfl,aa,ab⟩:=h5;go_simp;exact hK _ _ ⟨.slice m l j,rfl,⟨_,_,_,rfl⟩,Ext.refl _⟩
  refine sC [] rfl (fun wi hx=> ?_) StepsL.nil
  ·intro K hK;go_simp;exact hK _ _ ⟨.pointer (some ⟨wi,0,none⟩),rfl,⟨wi.heap.size,rfl,by have:=hx.sz;simp at this;omega,Blk.new _ _ _⟩,(Ext.refl _).alloc _⟩
 case fin=>
  intro wi hx v0 h0 v1 h1 v2 h2 v3 h3 v4 h4 v5 h5 v6 h6 v7 h7 v8 h8;subst h0 h1 h2;obtain⟨b4,br,rfl,a3⟩:=h3;obtain⟨bb,a0,bd,a2,bc,ba,a1,rfl,ap,aq⟩:=h4;obtain⟨u,o,x,t,m,l,j,rfl,aa,ab⟩:=h5;obtain⟨ay,am,az,an,rfl,a6,a7⟩:=h6;obtain⟨cz,cy,ct,rfl⟩:=h7;obtain⟨g8,rfl,a4,B8⟩:=h8;have a8:=hx.of_drew;obtain⟨w8,rfl⟩: ∃z,z=wi:=⟨_,rfl⟩
  have n:=(Mem.own2blk (M3) a8 B8 a4 a6 a7 (by decide) (by decide) (by decide))
  clear hx a8 B8 a4 ap aq aa ab a6 a7 aw ax IG SD M3;have ae:=n.hi 2;have af:=n.hi 4;have ag:=n.hi 7;obtain⟨b5,be,b6,bf,b7,bg,b8,bh,b9,bi,cb,bj,cc,bl,cd,bm,cf,bo,cg,bp⟩:=(n.bk 2).tenf;try go_frame
  refine wpAny_ready (rs:= [9]) (by kernel_rfl) (by simp) ?_;refine AllReady.cons rfl (fun K hK=> ?_) AllReady.nil;go_simp;refine hK _ _ ?_;clear hK K b5 be b6 bf b7 bg b8 bh b9 bi cb bj cc bl cd bm cf bo cg bp ae af ag;have f:=(n.put10 (i:=2) rfl (I r.aA) (I r.aB) (.slice ay r.cells am) (I r.free) (I r.step) (I r.aE) (I r.aF) (I r.aC) (I r.aG) (.slice az r.vs an))
  generalize ad:World.setCell _ _ _=c0;rw[ad]at f;clear ad n;refine wpAny_ready (rs:= [10]) (by kernel_rfl) (by simp) ?_;refine AllReady.cons rfl (fun K hK=> ?_) AllReady.nil;go_simp;refine hK _ _ ?_;clear hK K;refine wpAny_done (by kernel_rfl) ?_ _;try go_frame
  have ah:=f.hi 2;have ai:=f.hi 4;have aj:=f.hi 7;obtain⟨v0,v1,v2,v3,v4,v5,v6,v7,v8,v9⟩:=(f.bk 2).ten;obtain⟨f0,bs,f1,bt,f2,bu,f3,bv,f4,bw,f5,bx,f6,bz,f7,b0,f8,b1,f9,b2⟩:=(f.bk 7).tenf;obtain⟨ak,al⟩:=f.nq 2 7;go_wp2;clear v0 v1 v2 v3 v4 v5 v6 v7 v8 v9 f0 bs f1 bt f2 bu f3 bv f4 bw f5 bx f6 bz f7 b0 f8 b1 f9 b2 ak al ah ai aj;have y:=(f.put10 (i:=7) rfl (I r.aA) (I r.aB) (.slice ay r.cells am) (I r.free) (I r.step) (I r.aE) (I r.aF) (I r.aC) (I r.aG) (.slice az r.vs an))
  generalize ad:World.setCell _ _ _=wz;rw[ad]at y;clear ad f;obtain⟨y0,y1,y2,y3,y4,y5,y6,y7,y8,y9⟩:=(y.bk 7).ten;exact bodyPost_ret (v:= .tuple #[.agg #[r.aA,r.aB,.slice ay r.cells am,r.free,r.step,r.aE,r.aF,r.aC,r.aG,.slice az r.vs an],nd,.bool true]) (by simp[results,results5,go_sem, *]) rfl (show jB r nd true w _ _ from⟨_,_,_,_,rfl,(y.ow 0),(y.ow 1),y.ext⟩)
theorem aFt (s b:ByteArray)(w:World)(hs:s.size≤1048576)(hb:b.size≤2147483648):
  U 5 #[.string s,.string b] w (jB (iW s.data.toList b.data.toList).1 (iW s.data.toList b.data.toList).2.1 (iW s.data.toList b.data.toList).2.2 w):=by
 have g:s.data.toList.length≤1048576:=by rw[cH];exact hs
 have HS:=xQ fun(w':World) (hx:Ext w w')=>aDm s.data.toList w' g
 have HJ: ∀w',Ext w w'→U 22 #[I 1,.string b] w' fun e w''=> ∃pj cj,e= .returned (.tuple #[.slice pj (rj 1 b.data.toList).1.length cj,I (rj 1 b.data.toList).2])∧w''.ownsRow w' TDd 3 (.slice pj (rj 1 b.data.toList).1.length cj) (rj 1 b.data.toList).1.length ((rj 1 b.data.toList).1.flatMap eU)∧Ext w' w'':=fun w' hx=>by refine(aRu 1 b w' hb ⟨by omega,by omega⟩).mono ?_;rintro e w'' ⟨v,rfl,ho,a⟩;obtain⟨pj,cj,rfl⟩:=yS ho;exact⟨pj,cj,rfl,ho,a⟩
 unfold sV at HS;have i:=aRp 1 b.data.toList;unfold iW;cases hr:cZ s.data.toList with
 |none=>rw[hr]at HS;exact aQr hZ hZ 0 0 s b [] 0 w HS
 |some x=>
  obtain⟨h,en⟩:=x;rw[hr]at HS;obtain⟨f,h0,h1⟩:=qQ hr;dsimp only;by_cases hn:((rj 1 b.data.toList).1.length:Int)≤en
  ·rw[if_pos hn];exact aOe h h en 0 s b _ _ w hn HS HJ
  rw[if_neg hn];obtain⟨e1,rfl⟩:=aU8 h0;have hl:((rj 1 b.data.toList).1.drop e1).length=(rj 1 b.data.toList).1.length-e1:=aTw;refine aQq h _ _ e1 s b _ _ w rfl (by omega) HS HJ (fun B p c q d pe ce w' hB hx hi hS=> ?_);have:=aDr h p _ c q _ d pe ((rj 1 b.data.toList).1.drop e1).length ce ((rj 1 b.data.toList).1.drop e1) w' hi (hl.symm▸hS) (by omega);unfold aG8 at this;rw[if_pos f,hl]at this;refine this.mono ?_;rintro e w'' ⟨pa,ca,qa,da,ps,cs,rfl,o1,o2,_,a⟩;rw[sR,hl];exact⟨pa,ca,qa,da,ps,_,cs,rfl,gO o1 hB,gO o2 hB,a⟩
theorem aRa (g r:aS)(en:Int)(e1:Nat)(s b:ByteArray)(ds:List Dd3)(nd:Nat)(w:World)
  (HS:xC 24 #[.string s] w fun w' e w''=> ∃pa ca qa da,e= .returned (.tuple #[.agg #[g.aA,g.aB,.slice pa g.cells ca,g.free,g.step,g.aE,g.aF,g.aC,g.aG,.slice qa g.vs da],en,.bool false])∧w''.ownsRow w' TI 1 (.slice pa g.cells ca) g.cells.length (ivs g.cells)∧w''.ownsRow w' TV 4 (.slice qa g.vs da) g.vs.length (g.vs.flatMap aD)∧Ext w' w''):
  U 6 #[.string s,.string b] w (jB hZ 0 false w):=by
 go_enter func6,ntmps6;go_wp2_with fail;refine(HS _ ((Mem.start w).c0 aN zT).ext).mono ?_;rintro e w1 ⟨p1,c1,q1,d1,rfl,ho,hq,hx⟩;have M1:=(((Mem.start w).c0 aN zT).own2 hx ho hq (aT2 _) (by decide))
 have d:=M1.hi 2;clear hx ho hq HS;go_upto_region 3 with fail;obtain⟨X1,c⟩: ∃a,a=w1.heap.size:=⟨_,rfl⟩
 rw[←c];have M2:=(M1.blkNew aN #[g.aA,g.aB,.slice p1 g.cells c1,g.free,g.step,g.aE,g.aF,g.aC,g.aG,.slice q1 g.vs d1] X1 c.symm)
 generalize World.alloc _ _=v1 at M2⊢;clear M1 d c;have f:=M2.hi 0;have h:=M2.hi 3;obtain⟨f0,k,f1,l,f2,m,f3,n,f4,o,f5,p,f6,q,f7,t,f8,u,f9,x⟩:=(M2.bk 3).tenf;go_wp2;clear f0 k f1 l f2 m f3 n f4 o f5 p f6 q f7 t f8 u f9 x f h;have M3:=(M2.put10 (i:=3) rfl (I 0) (I 0) (.slice none 0 0) (I 0) (I 0) (I 0) (I 0) (I 0) (I 0) (.slice none 0 0))
 generalize j:World.setCell _ _ _=wz;rw[j]at M3;clear j M2;obtain⟨y0,y1,y2,y3,y4,y5,y6,y7,y8,y9⟩:=(M3.bk 3).ten;exact bodyPost_ret (v:= .tuple #[.agg #[(),(),((),()),(),(),(),(),(),(),((),())],(),.bool false]) (by simp[results,results6,go_sem, *]) rfl (show jB hZ 0 false w _ _ from⟨none,0,none,0,rfl,aTl _ _ _ _,aTl _ _ _ _,M3.ext⟩)
theorem aPl (g r:aS)(en:Int)(e1:Nat)(s b:ByteArray)(ds:List Dd3)(nd:Nat)(w:World)(hn:(nd:Int)≤en)
  (HS:xC 24 #[.string s] w fun w' e w''=> ∃pa ca qa da,e= .returned (.tuple #[.agg #[g.aA,g.aB,.slice pa g.cells ca,g.free,g.step,g.aE,g.aF,g.aC,g.aG,.slice qa g.vs da],en,.bool true])∧w''.ownsRow w' TI 1 (.slice pa g.cells ca) g.cells.length (ivs g.cells)∧w''.ownsRow w' TV 4 (.slice qa g.vs da) g.vs.length (g.vs.flatMap aD)∧Ext w' w'')
  (HJ:xC 17 #[I 1,.string b] w fun w' e w''=> ∃pj cj,e= .returned (.tuple #[.slice pj nd cj,I (rj 1 b.data.toList).2])∧w''.ownsRow w' TDd 3 (.slice pj nd cj) nd (ds.flatMap eU)∧Ext w' w''):
  U 6 #[.string s,.string b] w (jB g nd true w):=by
 go_enter func6,ntmps6;go_wp2_with fail;refine(HS _ ((Mem.start w).c0 aN zT).ext).mono ?_;rintro e w1 ⟨p1,c1,q1,d1,rfl,ho,hq,hx⟩;have M1:=(((Mem.start w).c0 aN zT).own2 hx ho hq (aT2 _) (by decide))
 have h:=M1.hi 2;clear hx ho hq HS;go_upto_region 3 with fail;obtain⟨X1,f⟩: ∃a,a=w1.heap.size:=⟨_,rfl⟩
 rw[←f];have M2:=(M1.blkNew aN #[g.aA,g.aB,.slice p1 g.cells c1,g.free,g.step,g.aE,g.aF,g.aC,g.aG,.slice q1 g.vs d1] X1 f.symm)
 generalize World.alloc _ _=v1 at M2⊢;clear M1 h f;have j:=M2.hi 0;have k:=M2.hi 3;go_wp2_with fail;refine(HJ _ M2.ext).mono ?_;rintro e w3 ⟨pj,cj,rfl,n,p⟩;have M3:=(M2.call p n)
 clear M2 j k p n HJ;have l:=M3.hi 1;have m:=M3.hi 4;have t0:decide (en<(nd:Int))=false:=by simp;omega
 have t1:decide ((nd:Int)≤en)=true:=by simp;omega
 obtain⟨v0,v1,v2,v3,v4,v5,v6,v7,v8,v9⟩:=(M3.bk 1).ten;obtain⟨f0,q,f1,t,f2,u,f3,x,f4,y,f5,z,f6,aa,f7,ab,f8,ad,f9,ae⟩:=(M3.bk 4).tenf;obtain⟨c,d⟩:=M3.nq 1 4;go_wp2;clear v0 v1 v2 v3 v4 v5 v6 v7 v8 v9 f0 q f1 t f2 u f3 x f4 y f5 z f6 aa f7 ab f8 ad f9 ae c d l m;have M4:=(M3.put10 (i:=4) rfl (I g.aA) (I g.aB) (.slice p1 g.cells c1) (I g.free) (I g.step) (I g.aE) (I g.aF) (I g.aC) (I g.aG) (.slice q1 g.vs d1))
 generalize o:World.setCell _ _ _=wz;rw[o]at M4;clear o M3;obtain⟨y0,y1,y2,y3,y4,y5,y6,y7,y8,y9⟩:=(M4.bk 4).ten;exact bodyPost_ret (v:= .tuple #[.agg #[g.aA,g.aB,.slice p1 g.cells c1,g.free,g.step,g.aE,g.aF,g.aC,g.aG,.slice q1 g.vs d1],nd,.bool true]) (by simp[results,results6,go_sem, *]) rfl (show jB g nd true w _ _ from⟨_,_,_,_,rfl,(M4.ow 2),(M4.ow 3),M4.ext⟩)
theorem aR9 (g r:aS)(en:Int)(e1:Nat)(s b:ByteArray)(ds:List Dd3)(nd:Nat)(w:World)(he:en=(e1:Int))(hn:e1<nd)
  (HS:xC 24 #[.string s] w fun w' e w''=> ∃pa ca qa da,e= .returned (.tuple #[.agg #[g.aA,g.aB,.slice pa g.cells ca,g.free,g.step,g.aE,g.aF,g.aC,g.aG,.slice qa g.vs da],en,.bool true])∧w''.ownsRow w' TI 1 (.slice pa g.cells ca) g.cells.length (ivs g.cells)∧w''.ownsRow w' TV 4 (.slice qa g.vs da) g.vs.length (g.vs.flatMap aD)∧Ext w' w'')
  (HJ:xC 17 #[I 1,.string b] w fun w' e w''=> ∃pj cj,e= .returned (.tuple #[.slice pj nd cj,I (rj 1 b.data.toList).2])∧w''.ownsRow w' TDd 3 (.slice pj nd cj) nd (ds.flatMap eU)∧Ext w' w'')
  (HR:Hid (∀B p c q d pe ce w',B≤w'.heap.size→Ext w w'→IsHouse w' g p g.cells.length c q g.vs.length d→Sl w' pe (nd-e1) ce 3 ((ds.drop e1).flatMap eU)→U 19 #[.agg #[g.aA,g.aB,.slice p g.cells c,g.free,g.step,g.aE,g.aF,g.aC,g.aG,.slice q g.vs d],.slice pe (nd-e1) ce] w' fun e w''=> ∃pa ca qa da ps nq cs,e= .returned (.tuple #[.agg #[r.aA,r.aB,.slice pa r.cells ca,r.free,r.step,r.aE,r.aF,r.aC,r.aG,.slice qa r.vs da],.slice ps nq cs])∧w''.ownsRow B TI 1 (.slice pa r.cells ca) r.cells.length (ivs r.cells)∧w''.ownsRow B TV 4 (.slice qa r.vs da) r.vs.length (r.vs.flatMap aD)∧Ext w' w'')):
  U 6 #[.string s,.string b] w (jB r nd true w):=by
 go_enter func6,ntmps6;go_wp2_with fail;refine(HS _ ((Mem.start w).c0 aN zT).ext).mono ?_;rintro e w1 ⟨p1,c1,q1,d1,rfl,ho,hq,hx⟩;have M1:=(((Mem.start w).c0 aN zT).own2 hx ho hq (aT2 _) (by decide))
 have ap:=M1.hi 2;clear hx ho hq HS;go_upto_region 3 with fail;obtain⟨X1,am⟩: ∃a,a=w1.heap.size:=⟨_,rfl⟩
 rw[←am];have M2:=(M1.blkNew aN #[g.aA,g.aB,.slice p1 g.cells c1,g.free,g.step,g.aE,g.aF,g.aC,g.aG,.slice q1 g.vs d1] X1 am.symm)
 generalize World.alloc _ _=v1 at M2⊢;clear M1 ap am;have aq:=M2.hi 0;have ar:=M2.hi 3;go_wp2_with fail;refine(HJ _ M2.ext).mono ?_;rintro e w3 ⟨pj,cj,rfl,a2,a6⟩;have M3:=(M2.call a6 a2)
 clear M2 aq ar a6 a2 HJ;have au:=M3.hi 1;have av:=M3.hi 4;have t0:decide (en<(nd:Int))=true:=by simp;omega
 have t1:decide ((nd:Int)≤en)=false:=by simp;omega
 subst he;have t2:decide (e1<nd)=true:=by simp;omega
 have t3:decide (nd≤e1)=false:=by simp;omega
 have cu:e1<nd:=by omega
 obtain⟨gj,rfl,cq,cr⟩:=M3.so 0;have ct:=(M3.sq 0).le;have i0:(0:Int)≤(e1:Int):=by omega
 have i1:(e1:Int)≤(nd:Int):=by omega
 have i2: ¬cj=e1:=by omega
 have i3:(nd:Int)≤(cj:Int):=by omega
 have i4:(e1:Int)≤(cj:Int):=by omega
 have i5:(e1:Int).toNat=e1:=by omega
 have SD:=xQ (uQ (M3.sq 0) (by omega:e1≤nd));rw[aAt,aU2]at SD;have IG:=xQ (show IsHouse w3 g p1 _ c1 q1 _ d1 from⟨(M3.sq 2),(M3.sq 3)⟩);go_upto_region 6 with fail
 refine xN (gl [gEq (.agg #[(g.aA:Int),(g.aB:Int),.slice p1 g.cells c1,(g.free:Int),(g.step:Int),(g.aE:Int),(g.aF:Int),(g.aC:Int),(g.aG:Int),.slice q1 g.vs d1]),gEq (.slice (some ⟨gj,0,none⟩) nd cj),gEq (e1:Int),(fun v _=> ∃pd dd,v= .slice pd (nd-e1) dd∧Sl w3 pd (nd-e1) dd 3 ((ds.drop e1).flatMap eU)),(fun v w'=> ∃p c q d ps nq cs,v= .tuple #[.agg #[r.aA,r.aB,.slice p r.cells c,r.free,r.step,r.aE,r.aF,r.aC,r.aG,.slice q r.vs d],.slice ps nq cs]∧w'.ownsRow w3 TI 1 (.slice p r.cells c) r.cells.length (ivs r.cells)∧w'.ownsRow w3 TV 4 (.slice q r.vs d) r.vs.length (r.vs.flatMap aD)),(fun v w'=> ∃p c q d ps nq cs,v= .tuple #[.agg #[r.aA,r.aB,.slice p r.cells c,r.free,r.step,r.aE,r.aF,r.aC,r.aG,.slice q r.vs d],.slice ps nq cs]∧w'.ownsRow w3 TI 1 (.slice p r.cells c) r.cells.length (ivs r.cells)∧w'.ownsRow w3 TV 4 (.slice q r.vs d) r.vs.length (r.vs.flatMap aD)),(fun v w'=> ∃p c q d,v= .agg #[r.aA,r.aB,.slice p r.cells c,r.free,r.step,r.aE,r.aF,r.aC,r.aG,.slice q r.vs d]∧w'.ownsRow w3 TI 1 (.slice p r.cells c) r.cells.length (ivs r.cells)∧w'.ownsRow w3 TV 4 (.slice q r.vs d) r.vs.length (r.vs.flatMap aD)),(fun v _=> ∃ps nq cs,v= .slice ps nq cs)]) 8 7 (by kernel_rfl) rfl (by kernel_rfl) (by kernel_rfl) (by kernel_rfl) (by decide) (oA (bK (cC _) (bK (cC _) (bK (cC _) (bK (fun _ _ _ h _=>h) (bK (fun v w w' ⟨p,c,q,d,ps,nq,cs,e,o1,o2⟩ hx=>⟨p,c,q,d,ps,nq,cs,e,aP o1 hx,aP o2 hx⟩) (bK (fun v w w' ⟨p,c,q,d,ps,nq,cs,e,o1,o2⟩ hx=>⟨p,c,q,d,ps,nq,cs,e,aP o1 hx,aP o2 hx⟩) (bK (fun v w w' ⟨p,c,q,d,e,o1,o2⟩ hx=>⟨p,c,q,d,e,aP o1 hx,aP o2 hx⟩) (bK (fun _ _ _ h _=>h) (rJ)))))))))) (k:=9) (by kernel_rfl) (by decide) (by kernel_rfl) (ls:= [(0,some 31),(1,some 32),(2,some 33),(3,some 34),(4,some 35),(5,some 30),(6,some 36),(7,some 37)]) (by kernel_rfl) (ir:= [0,1,2,3,4,5,6,7]) (by kernel_rfl) rfl (fun _ _ _ _ h=>h) (lf:= [(5,some 30)]) (by kernel_rfl) ?flo ?steps (tl:=#[true,true,true,true,true,true,true,true,false]) (by kernel_rfl) ?fin
 case flo=>intro wi hx v5 h5;obtain⟨t,n,u,o,m,l,j,rfl,aa,ab⟩:=h5;exact⟨.slice m l j,.inl ⟨by rfl,fun w=>by go_simp⟩,⟨_,_,_,rfl⟩⟩
 case steps=>
  refine sC [] rfl (fun wi hx=> ?_) ?_
  ·intro K hK;have hX:Ext w3 wi:=xE;obtain⟨cd,cf,cg,ch,ci,ck,cl,cm,cn,co⟩:=((M3.bk 1).ext hX).ten;go_simp;exact hK _ _ ⟨.agg #[(g.aA:Int),(g.aB:Int),.slice p1 g.cells c1,(g.free:Int),(g.step:Int),(g.aE:Int),(g.aF:Int),(g.aC:Int),(g.aG:Int),.slice q1 g.vs d1],rfl,rfl,Ext.refl _⟩
  refine sS0 [] (sS0 [] ?_);refine sC [(1,some 32),(2,some 33)] rfl (fun wi hx=> ?_) ?_
  ·intro v1 h1 v2 h2 K hK;subst h1 h2;have bm:=SD.out;go_simp;exact hK _ _ ⟨_,rfl,⟨_,_,rfl,bm⟩,Ext.refl _⟩
  refine sC [(0,some 31),(3,some 34)] rfl (fun wi hx=> ?_) ?_
  ·intro v0 h0 v3 h3 K hK;obtain rfl:=h0;obtain⟨b1,bo,rfl,a1⟩:=h3;go_simp;refine(HR w3 _ _ _ _ _ _ _ hx.sz (M3.ext.trans hx.of_drew) (IG.out.ext hx.of_drew) (a1.ext hx.of_drew)).mono ?_;rintro e w5 ⟨t,n,u,o,m,l,j,rfl,o5,v5,b0⟩;go_simp;exact hK _ _ ⟨_,rfl,⟨t,n,u,o,m,l,j,rfl,o5,v5⟩,b0⟩
  refine sC [(4,some 35)] rfl (fun wi hx=> ?_) ?_
  ·intro v4 h4 K hK;obtain⟨a8,ay,ba,a0,a9,a7,az,rfl,an,ao⟩:=h4;go_simp;exact hK _ _ ⟨_,rfl,⟨a8,ay,ba,a0,a9,a7,az,rfl,an,ao⟩,Ext.refl _⟩
  refine sC [(5,some 30)] rfl (fun wi hx=> ?_) ?_
  ·intro v5 h5 K hK;obtain⟨t,n,u,o,m,l,j,rfl,aa,ab⟩:=h5;go_simp;exact hK _ _ ⟨_,rfl,⟨t,n,u,o,rfl,aa,ab⟩,Ext.refl _⟩
  refine sC [(5,some 30)] rfl (fun wi hx=> ?_) StepsL.nil
  ·intro v5 h5 K hK;obtain⟨t,n,u,o,m,l,j,rfl,aa,ab⟩:=h5;go_simp;exact hK _ _ ⟨.slice m l j,rfl,⟨_,_,_,rfl⟩,Ext.refl _⟩
 case fin=>
  intro wi hx v0 h0 v1 h1 v2 h2 v3 h3 v4 h4 v5 h5 v6 h6 v7 h7;subst h0 h1 h2;obtain⟨b1,bo,rfl,a1⟩:=h3;obtain⟨a8,ay,ba,a0,a9,a7,az,rfl,an,ao⟩:=h4;obtain⟨t,n,u,o,m,l,j,rfl,aa,ab⟩:=h5;obtain⟨aw,ak,ax,al,rfl,a3,a4⟩:=h6;obtain⟨cw,cv,cp,rfl⟩:=h7;have a5:=hx.of_drew;obtain⟨w8,rfl⟩: ∃z,z=wi:=⟨_,rfl⟩
  have x:=(M3.own2 a5 a3 a4 (aT2 _) (by decide))
  clear hx a5 an ao aa ab a3 a4 IG SD M3 au av;have ae:=x.hi 3;have af:=x.hi 6;obtain⟨b2,bb,b3,bc,b4,bd,b5,be,b6,bf,b7,bg,b8,bh,b9,bi,cb,bj,cc,bl⟩:=(x.bk 3).tenf;try go_frame
  refine wpAny_ready (rs:= [8]) (by kernel_rfl) (by simp) ?_;refine AllReady.cons rfl (fun K hK=> ?_) AllReady.nil;go_simp;refine hK _ _ ?_;clear hK K b2 bb b3 bc b4 bd b5 be b6 bf b7 bg b8 bh b9 bi cb bj cc bl ae af;have f:=(x.put10 (i:=3) rfl (I r.aA) (I r.aB) (.slice aw r.cells ak) (I r.free) (I r.step) (I r.aE) (I r.aF) (I r.aC) (I r.aG) (.slice ax r.vs al))
  generalize ad:World.setCell _ _ _=v8;rw[ad]at f;clear ad x;refine wpAny_done (by kernel_rfl) ?_ _;try go_frame
  have ag:=f.hi 3;have ah:=f.hi 6;obtain⟨v0,v1,v2,v3,v4,v5,v6,v7,v8,v9⟩:=(f.bk 3).ten;obtain⟨f0,bp,f1,bq,f2,br,f3,bs,f4,bt,f5,bu,f6,bv,f7,bw,f8,bx,f9,bz⟩:=(f.bk 6).tenf;obtain⟨ai,aj⟩:=f.nq 3 6;go_wp2;clear v0 v1 v2 v3 v4 v5 v6 v7 v8 v9 f0 bp f1 bq f2 br f3 bs f4 bt f5 bu f6 bv f7 bw f8 bx f9 bz ai aj ag ah;have y:=(f.put10 (i:=6) rfl (I r.aA) (I r.aB) (.slice aw r.cells ak) (I r.free) (I r.step) (I r.aE) (I r.aF) (I r.aC) (I r.aG) (.slice ax r.vs al))
  generalize ad:World.setCell _ _ _=wz;rw[ad]at y;clear ad f;obtain⟨y0,y1,y2,y3,y4,y5,y6,y7,y8,y9⟩:=(y.bk 6).ten;exact bodyPost_ret (v:= .tuple #[.agg #[r.aA,r.aB,.slice aw r.cells ak,r.free,r.step,r.aE,r.aF,r.aC,r.aG,.slice ax r.vs al],nd,.bool true]) (by simp[results,results6,go_sem, *]) rfl (show jB r nd true w _ _ from⟨_,_,_,_,rfl,(y.ow 0),(y.ow 1),y.ext⟩)
theorem aGx (s b:ByteArray)(w:World)(hs:s.size≤1048576)(hb:b.size≤2147483648)(a:Env w)(hE:BitTab w):
  U 6 #[.string s,.string b] w (jB (iW s.data.toList b.data.toList).1 (iW s.data.toList b.data.toList).2.1 (iW s.data.toList b.data.toList).2.2 w):=by
 have i:s.data.toList.length≤1048576:=by rw[cH];exact hs
 have HS:=xQ fun(w':World) (hx:Ext w w')=>aEn s.data.toList w' i (a.ext hx)
 have HJ: ∀w',Ext w w'→U 17 #[I 1,.string b] w' fun e w''=> ∃pj cj,e= .returned (.tuple #[.slice pj (rj 1 b.data.toList).1.length cj,I (rj 1 b.data.toList).2])∧w''.ownsRow w' TDd 3 (.slice pj (rj 1 b.data.toList).1.length cj) (rj 1 b.data.toList).1.length ((rj 1 b.data.toList).1.flatMap eU)∧Ext w' w'':=fun w' hx=>by refine(aS7 1 b w' hb ⟨by omega,by omega⟩ (a.ext hx)).mono ?_;rintro e w'' ⟨v,rfl,ho,f⟩;obtain⟨pj,cj,rfl⟩:=yS ho;exact⟨pj,cj,rfl,ho,f⟩
 unfold sV at HS;have j:=aRp 1 b.data.toList;unfold iW;cases hr:cZ s.data.toList with
 |none=>rw[hr]at HS;exact aRa hZ hZ 0 0 s b [] 0 w HS
 |some x=>
  obtain⟨h,en⟩:=x;rw[hr]at HS;obtain⟨g,h0,h1⟩:=qQ hr;dsimp only;by_cases hn:((rj 1 b.data.toList).1.length:Int)≤en
  ·rw[if_pos hn];exact aPl h h en 0 s b _ _ w hn HS HJ
  rw[if_neg hn];obtain⟨e1,rfl⟩:=aU8 h0;have hl:((rj 1 b.data.toList).1.drop e1).length=(rj 1 b.data.toList).1.length-e1:=aTw;refine aR9 h _ _ e1 s b _ _ w rfl (by omega) HS HJ (fun B p c q d pe ce w' hB hx hi hS=> ?_);have:=aEt h p _ c q _ d pe ((rj 1 b.data.toList).1.drop e1).length ce ((rj 1 b.data.toList).1.drop e1) w' hi (hl.symm▸hS) (by omega) (hE.ext hx);unfold aG8 at this;rw[if_pos g,hl]at this;refine this.mono ?_;rintro e w'' ⟨pa,ca,qa,da,ps,cs,rfl,o1,o2,_,f⟩;rw[sR,hl];exact⟨pa,ca,qa,da,ps,_,cs,rfl,gO o1 hB,gO o2 hB,f⟩
end Go.Proofs.YtbgkcehffiogcabGreatDoor
