/-
  Texts of this proof, packed (@packed).
-/
import Derived.Test.YtbgkcehffiogcabGreatDoorX33
namespace Go.Proofs.YtbgkcehffiogcabGreatDoor
open Go.RowKit
set_option linter.unusedSimpArgs false
set_option linter.unusedVariables false
set_option maxHeartbeats 8000000
set_option maxRecDepth 100000
section
open Go.Proofs.Tryz
theorem aBa (l:List UInt8)(w:World)(hs:l.length≤1048576):U 56 #[str l] w (aKy ((bF l).getD lR) (bF l).isSome w):=by
 have HS:Hid (∀w,U 55 #[str l,.int .u8 59] w fun e w'=> ∃v,e= .returned v∧w'.ownsRow w qC 1 v (aK 59 l).length (eQ (aK 59 l))∧Ext w w'):=
  fun w=>lQ ⟨l.toArray⟩ 59 59 rfl w (by simp only[ByteArray.size,List.size_toArray];omega)
 have a5:=eC 59 l;have HL:Hid (∀p∈aK 59 l,p.length≤1048576):=fun p hp=>aTb (a5.1 p hp) hs
 have ee:=a5.2;have c8:0<(aK 59 l).length:=List.length_pos_iff.2 (eN 59 l);have cn:Hid (∀(q:List UInt8),q.length≤1048576→ ∀w,U 96 #[str q] w (vV q w)):=fun q hq w=>aO0 q w (by omega)
 have ct:Hid (∀(q:List UInt8) (x:Int),q.length≤1048576→fC q=x→ ∀w,U 97 #[str q] w (Z (I x) w)):=fun q x hq hx w=>by subst hx;exact xU q w (by unfold maxLen;omega)
 clear a5;go_enter func56,ntmps56;go_wp2_with fail;refine(HS _).mono ?_;rintro e w1 ⟨v,rfl,bh,h1⟩;have j:=xQ (show w1.ownsRow (w.heap.size+1) qC 1 v (aK 59 l).length (eQ (aK 59 l)) by simpa using bh);have c2:Ext w w1:=by exact .trans (.alloc (.refl _) _) h1
 have c:Hid (Blk w1 w kD #[(),(),((),()),(),(),(),(),(),(),((),())]):=(Blk.new w _ _).ext h1;have e5:(w:Nat)<w1:=c.out.lt;have av:=xQ c2;clear bh h1 c2;obtain⟨gr,cr,rfl⟩:=aTc j.out c8;generalize c0:(aK 59 l).length=R at*;have au:=xQ c0;clear c0;have X1:=xQ (Ext.refl w1);by_cases hR3:R<4
 ·have ao:Hid (bF l=none):=sO (by unfold eZ;rw[au.out];simp;omega);have cy:(R:Int)<4:=by omega
  obtain⟨z0,aa,z1,ab,z2,ad,z3,ae,z4,af,z5,ag,z6,ah,z7,ai,z8,aj,z9,ak⟩:=(c.out.ext (Ext.refl w1)).tenf;have a6:(w:Nat)<w1:=(c.out.ext (Ext.refl w1)).lt;go_wp2;generalize g:World.setCell _ _ _=w9;obtain⟨Y9,r,X9⟩:=(c.out.ext (Ext.refl w1)).putx (av.out.trans (Ext.refl w1)) g;clear g r z0 z1 z2 z3 z4 z5 z6 z7 z8 z9 aa ab ad ae af ag ah ai aj ak;obtain⟨y0,y1,y2,y3,y4,y5,y6,y7,y8,y9⟩:=Y9.ten;exact bodyPost_ret (v:= .tuple #[.agg #[(),(),((),()),(),(),(),(),(),(),((),())],.bool false]) (by simp[results,results56,go_sem, *]) rfl (fK ao.out X9)
 have cy: ¬(R:Int)<4:=by omega
 obtain⟨p0,bb⟩: ∃q,(aK 59 l)[0]? =some q:=⟨_,aT3 (by rw[au.out];omega)⟩
 have dj:=xQ bb;have bp:Hid (fS (aK 59 l) 0=p0):=kX bb;have ea:p0.length≤1048576:=HL p0 (aT4 bb);clear bb;obtain⟨p1,bc⟩: ∃q,(aK 59 l)[1]? =some q:=⟨_,aT3 (by rw[au.out];omega)⟩
 have dk:=xQ bc;have bq:Hid (fS (aK 59 l) 1=p1):=kX bc;have eb:p1.length≤1048576:=HL p1 (aT4 bc);clear bc;obtain⟨p2,bd⟩: ∃q,(aK 59 l)[2]? =some q:=⟨_,aT3 (by rw[au.out];omega)⟩
 have dl:=xQ bd;have d1:Hid (fS (aK 59 l) 2=p2):=kX bd;have ec:p2.length≤1048576:=HL p2 (aT4 bd);clear bd;obtain⟨p3,be⟩: ∃q,(aK 59 l)[3]? =some q:=⟨_,aT3 (by rw[au.out];omega)⟩
 have dm:=xQ be;have d2:Hid (fS (aK 59 l) 3=p3):=kX be;have ed:p3.length≤1048576:=HL p3 (aT4 be);clear be;obtain⟨W,D,xs,b0,H0,bi⟩: ∃(W D:Int) (xs:List Int) (b:Bool),Hid ((dA p0).getD (0,0,[])=(W,D,xs))∧Hid ((dA p0).isSome=b):=⟨_,_,_,_,rfl,rfl⟩
 have cs:Hid (∀w,U 95 #[str p0] w fun e w'=> ∃p n cap,n=xs.length∧e= .returned (.tuple #[aH W D p n cap,.bool b0])∧w'.ownsRow w TI 1 (.slice p n cap) n (ivs xs)∧Ext w w'):=by intro w;have h:=aDn p0 w ea;unfold pA at h;rw[H0.out,bi.out]at h;exact h
 have bg:gr<w1:=(j.out.lt gr rfl).2;have e0:w1.cell? ⟨gr,0,none⟩=some (str p0):=aW j.out 0 (by omega) _ dj.out;go_wp2_with fail;refine(cs _).mono ?_;rintro e w2 ⟨p,n,cap,c7,rfl,oh,c9⟩;have dv:=xQ c7;clear c7;have X2:=xQ (show Ext w1 w2 by exact c9);have dx:=xQ (bD oh (show w1.heap.size≤_ by simp));have z2:(w1:Nat)≤w2:=X2.out.sz;clear oh c9 e0;have c6:gr<w2:=aT1 bg X2.out.sz;have e1:w2.cell? ⟨gr,1,none⟩=some (str p1):=aW (aP j.out X2.out) 1 (by omega) _ dk.out;obtain⟨m4,am⟩: ∃m,(aK 44 p1).length=m:=⟨_,rfl⟩
 have bj:=am;have cm:Hid (∀w,U 96 #[str p1] w fun e w'=> ∃p n cap,n=m4∧e= .returned (.tuple #[.slice p n cap,.bool ((n:Int)==4)])∧w'.ownsRow w TI 1 (.slice p n cap) n (ivs (lJ p1))∧Ext w w'):=by intro w;have h:=cn p1 eb w;unfold vV at h;rw[am]at h;exact h
 clear am;go_wp2_with fail;refine(cm (w2.alloc (.cells #[W,D,.slice p n cap] mM))).mono ?_;rintro e w3 ⟨t1,n1,c1,ef,rfl,db,cc⟩;subst ef;have cj:=xQ ((Blk.new w2 mM #[W,D,.slice p n cap]).ext cc);have ce:Ext w2 w3:=by exact .trans (.alloc (.refl _) _) cc
 have X3:=xQ (X2.out.trans ce);have al:=xQ (bD db (show w1.heap.size≤_ by simp;omega));have dy:=xQ (aP dx ce);have z3:(w2:Nat)<w3:=cj.out.lt;clear cc ce db e1;cases b0 with
 |false=>have ao:Hid (bF l=none):=sO (aCy (.inl (by rw[bp.out,bi.out])));obtain⟨z0,aa,z1,ab,z2,ad,z3,ae,z4,af,z5,ag,z6,ah,z7,ai,z8,aj,z9,ak⟩:=(c.out.ext X3.out).tenf;have a6:(w:Nat)<w3:=(c.out.ext X3.out).lt;go_wp2;generalize g:World.setCell _ _ _=w9;obtain⟨Y9,r,X9⟩:=(c.out.ext X3.out).putx (av.out.trans X3.out) g;clear g r z0 z1 z2 z3 z4 z5 z6 z7 z8 z9 aa ab ad ae af ag ah ai aj ak;obtain⟨y0,y1,y2,y3,y4,y5,y6,y7,y8,y9⟩:=Y9.ten;exact bodyPost_ret (v:= .tuple #[.agg #[(),(),((),()),(),(),(),(),(),(),((),())],.bool false]) (by simp[results,results56,go_sem, *]) rfl (fK ao.out X9)
 |true=>
  by_cases am:n1=4
  ·subst am;obtain⟨f,s,pr,cp,q1⟩:=sM (show(lJ p1).length=4 by simp[lJ,bj]);have dn:=xQ q1;obtain⟨ck,bz⟩: ∃x,fC p2=x:=⟨_,rfl⟩
   obtain⟨bk,bx⟩: ∃x,fC p3=x:=⟨_,rfl⟩
   have dh:=xQ bz;have dg:=xQ bx;have ds:=xQ (ct p2 ck ec bz);have dt:=xQ (ct p3 bk ed bx);rw[q1]at al;clear q1 bz bx cs cm;obtain⟨g1,ey,a9⟩:=aTc al (by omega);injection a9 with a9 _ hg1';subst a9;subst hg1';have ev:gr<w3:=aT1 c6 (by omega);have a9:=(al.out.lt g1 rfl).2;have i2:(2:Int)<(R:Int):=by omega
   have i3:(3:Int)<(R:Int):=by omega
   go_wp2;refine rL (gl [gEq (.agg #[W,D,.slice p n cap]),gEq (.slice (some ⟨g1,0,none⟩) 4 c1),gEq (.pointer (some ⟨g1,0,none⟩)),gEq f,gEq (.slice (some ⟨g1,0,none⟩) 4 c1),gEq (.pointer (some ⟨g1,1,none⟩)),gEq s,gEq (.slice (some ⟨g1,0,none⟩) 4 c1),gEq (.pointer (some ⟨g1,2,none⟩)),gEq pr,gEq (.slice (some ⟨g1,0,none⟩) 4 c1),gEq (.pointer (some ⟨g1,3,none⟩)),gEq cp,gEq (.agg #[f,s,pr,cp]),gEq (.slice (some ⟨gr,0,none⟩) R cr),gEq (.pointer (some ⟨gr,2,none⟩)),gEq (str p2),gEq ck,gEq (.slice (some ⟨gr,0,none⟩) R cr),gEq (.pointer (some ⟨gr,3,none⟩)),gEq (str p3),gEq bk,gEq (.agg #[W,D,.slice p n cap,f,s,pr,cp,ck,bk,((),())]),aRh w3 kD #[(),(),((),()),(),(),(),(),(),(),((),())]]) 24 25 [(0,some 40),(1,some 41),(2,some 42),(3,some 43),(4,some 44),(5,some 45),(6,some 46),(7,some 47),(8,some 48),(9,some 49),(10,some 50),(11,some 51),(12,some 52),(13,some 53),(14,some 54),(15,some 55),(16,some 56),(17,some 57),(18,some 58),(19,some 59),(20,some 60),(21,some 61),(22,some 62),(23,some 9)] ?steps ?fin
   case steps=>
    refine sC [] rfl (fun wi hx=> ?_) ?_
    ·intro K hK;have hX:=hx.of_drew;obtain⟨v0,v1,v2⟩:=(cj.out.ext hX).tri;go_simp;exact hK _ _ ⟨.agg #[W,D,.slice p n cap],rfl,rfl,Ext.refl _⟩
    refine sS0 [] (sS1 [(1,some 41)] ?_);refine sC [(2,some 42)] rfl (fun wi hx=> ?_) ?_
    ·intro v2 h2 K hK;obtain rfl:=h2;have hX:=hx.of_drew;have t0:wi.cell? ⟨g1,0,none⟩=some (I f):=cR (aP al hX) 0 (by omega) _ rfl;go_simp;exact hK _ _ ⟨I f,rfl,rfl,Ext.refl _⟩
    refine sS0 [] (sS1 [(4,some 44)] ?_);refine sC [(5,some 45)] rfl (fun wi hx=> ?_) ?_
    ·intro v5 h5 K hK;obtain rfl:=h5;have hX:=hx.of_drew;have t0:wi.cell? ⟨g1,1,none⟩=some (I s):=cR (aP al hX) 1 (by omega) _ rfl;go_simp;exact hK _ _ ⟨I s,rfl,rfl,Ext.refl _⟩
    refine sS0 [] (sS1 [(7,some 47)] ?_);refine sC [(8,some 48)] rfl (fun wi hx=> ?_) ?_
    ·intro v8 h8 K hK;obtain rfl:=h8;have hX:=hx.of_drew;have t0:wi.cell? ⟨g1,2,none⟩=some (I pr):=cR (aP al hX) 2 (by omega) _ rfl;go_simp;exact hK _ _ ⟨I pr,rfl,rfl,Ext.refl _⟩
    refine sS0 [] (sS1 [(10,some 50)] ?_);refine sC [(11,some 51)] rfl (fun wi hx=> ?_) ?_
    ·intro dd ax K hK;obtain rfl:=ax;have hX:=hx.of_drew;have t0:wi.cell? ⟨g1,3,none⟩=some (I cp):=cR (aP al hX) 3 (by omega) _ rfl;go_simp;exact hK _ _ ⟨I cp,rfl,rfl,Ext.refl _⟩
    refine sC [(3,some 43),(6,some 46),(9,some 49),(12,some 52)] rfl (fun wi hx=> ?_) ?_
    ·intro v3 h3 v6 h6 v9 h9 cg ap K hK;subst h3 h6 h9;obtain rfl:=ap;go_simp;exact hK _ _ ⟨.agg #[f,s,pr,cp],rfl,rfl,Ext.refl _⟩
    refine sS0 [] (sS1 [(14,some 54)] ?_);refine sC [(15,some 55)] rfl (fun wi hx=> ?_) ?_
    ·intro ch aq K hK;obtain rfl:=aq;have hX:=hx.of_drew;have t0:wi.cell? ⟨gr,2,none⟩=some (str p2):=aW (aP j.out (X3.out.trans hX)) 2 (by omega) _ dl.out;go_simp;exact hK _ _ ⟨str p2,rfl,rfl,Ext.refl _⟩
    refine sC [(16,some 56)] rfl (fun wi hx=> ?_) ?_
    ·intro df az K hK;obtain rfl:=az;go_wp2_with fail;refine Ω (ds _) fun w6 cd=>?_
     go_simp;exact hK _ _ ⟨I ck,rfl,rfl,cd⟩
    refine sS0 [] (sS1 [(18,some 58)] ?_);refine sC [(19,some 59)] rfl (fun wi hx=> ?_) ?_
    ·intro ep bu K hK;obtain rfl:=bu;have hX:=hx.of_drew;have t0:wi.cell? ⟨gr,3,none⟩=some (str p3):=aW (aP j.out (X3.out.trans hX)) 3 (by omega) _ dm.out;go_simp;exact hK _ _ ⟨str p3,rfl,rfl,Ext.refl _⟩
    refine sC [(20,some 60)] rfl (fun wi hx=> ?_) ?_
    ·intro er bv K hK;obtain rfl:=bv;go_wp2_with fail;refine Ω (dt _) fun w6 cd=>?_
     go_simp;exact hK _ _ ⟨I bk,rfl,rfl,cd⟩
    refine sC [(0,some 40),(13,some 53),(17,some 57),(21,some 61)] rfl (fun wi hx=> ?_) ?_
    ·intro v0 h0 de ay eo bt es bw K hK;obtain rfl:=h0;obtain rfl:=ay;obtain rfl:=bt;obtain rfl:=bw;go_simp;exact hK _ _ ⟨.agg #[W,D,.slice p n cap,f,s,pr,cp,ck,bk,((),())],rfl,rfl,Ext.refl _⟩
    refine sC [] rfl (fun wi hx=> ?_) StepsL.nil
    ·intro K hK;go_simp;exact hK _ _ ⟨.pointer (some ⟨wi,0,none⟩),rfl,⟨wi.heap.size,rfl,by have:=hx.sz;simp at this;omega,Blk.new _ _ _⟩,(Ext.refl _).alloc _⟩
   case fin=>
    intro wi hx v0 h0 v1 h1 v2 h2 v3 h3 v4 h4 v5 h5 v6 h6 v7 h7 v8 h8 v9 h9 em br dd ax cg ap de ay en bs ch aq df az eo bt e8 d5 ep bu er bv es bw e9 d6 fa d7;subst h0 h1 h2 h3 h4 h5 h6 h7 h8 h9;obtain rfl:=br;obtain rfl:=ax;obtain rfl:=ap;obtain rfl:=ay;obtain rfl:=bs;obtain rfl:=aq;obtain rfl:=az;obtain rfl:=bt;obtain rfl:=d5;obtain rfl:=bu;obtain rfl:=bv;obtain rfl:=bw;obtain rfl:=d6;obtain⟨a,rfl,c5,a7⟩:=d7;have hX:=hx.of_drew;have ek:a<wi:=a7.lt;obtain⟨z0,aa,z1,ab,z2,ad,z3,ae,z4,af,z5,ag,z6,ah,z7,ai,z8,aj,z9,ak⟩:=a7.tenf;have BN:=(((((((((a7.set 0 (I W)).set 1 (I D)).set 2 (.slice p n cap)).set 3 (I f)).set 4 (I s)).set 5 (I pr)).set 6 (I cp)).set 7 (I ck)).set 8 (I bk)).set 9 (.slice none 0 0);simp only[aTh,aTe,aTf]at BN;refine wpAny_ready (rs:= [24]) (by kernel_rfl) (by simp) ?_;refine AllReady.cons rfl (fun K hK=> ?_) AllReady.nil;go_simp;refine hK _ _ ?_;clear hK K z0 z1 z2 z3 z4 z5 z6 z7 z8 z9 aa ab ad ae af ag ah ai aj ak;generalize cb:World.setCell _ _ _=w6;rw[cb]at BN;have cz:ExtR a wi w6:=by rw[←cb];exact((((((((((ExtR.refl a wi).setCell (p:=⟨a,0,none⟩) (.inl rfl) (I W)).setCell (p:=⟨a,1,none⟩) (.inl rfl) (I D)).setCell (p:=⟨a,2,none⟩) (.inl rfl) (.slice p n cap)).setCell (p:=⟨a,3,none⟩) (.inl rfl) (I f)).setCell (p:=⟨a,4,none⟩) (.inl rfl) (I s)).setCell (p:=⟨a,5,none⟩) (.inl rfl) (I pr)).setCell (p:=⟨a,6,none⟩) (.inl rfl) (I cp)).setCell (p:=⟨a,7,none⟩) (.inl rfl) (I ck)).setCell (p:=⟨a,8,none⟩) (.inl rfl) (I bk)).setCell (p:=⟨a,9,none⟩) (.inl rfl) (.slice none 0 0)
    clear cb;have du:=xQ (ExtR.new hX cz c5);have B6:=xQ BN;have z6:a<w6:=BN.lt;clear BN hX hx a7 cz ek;refine wpAny_done (by kernel_rfl) ?_ _;try go_frame
    obtain⟨N,rfl⟩: ∃N,R=N+4:=⟨R-4,by omega⟩
    have ar:Hid ((aK 59 l).length=N+4):=au.out;go_wp2;go_loopw [10] (fun i wr=> ∃(k:Nat) (q:OA) (d:Nat),k≤N∧i=I ((4+k:Nat))∧Ext w3 wr∧Blk wr a kD #[W,D,.slice p n cap,f,s,pr,cp,ck,bk,.slice q k d]∧wr.ownsRow (a+1) tC 4 (.slice q k d) k ((dV (aK 59 l) k).flatMap aD)∧ ∀q∈((aK 59 l).drop 4).take k,(aK 44 q).length=4) (fun i _=>N+4-(intOf i).toNat)
    case atStart=>exact⟨0,none,0,aT8 _,rfl,du.out,B6.out,aTl _ _ _ _,by simp⟩
    case round=>
     obtain⟨k,q,d,hk,rfl,cx,hB,hO,c3⟩:=hrel;have XR:=xQ cx;have BR:=xQ hB;have OR:=xQ hO;have HF:=xQ c3;have e7:a<wr:=hB.lt;clear cx hB hO c3;by_cases hlt:k<N
     ·obtain⟨x,hx⟩: ∃q,(aK 59 l)[4+k]? =some q:=⟨_,aT3 (by rw[ar.out];omega)⟩
      have bn:=xQ hx;have ej:x.length≤1048576:=HL x (aT4 hx);have cw:=xQ (X3.out.trans XR.out);have e1:wr.cell? ⟨gr,4+k,none⟩=some (str x):=aW (aP j.out cw.out) (4+k) (by omega) _ hx;have ew:gr<wr:=aT1 bg cw.out.sz;clear hx;have i1:(0:Int)≤((4+k:Nat):Int):=by omega
      have i2:((4+k:Nat):Int)<((N+4:Nat):Int):=by omega
      obtain⟨mv,ca⟩: ∃m,(aK 44 x).length=m:=⟨_,rfl⟩
      have bl:=ca;have cq:Hid (∀w,U 96 #[str x] w fun e w'=> ∃p n cap,n=mv∧e= .returned (.tuple #[.slice p n cap,.bool ((n:Int)==4)])∧w'.ownsRow w TI 1 (.slice p n cap) n (ivs (lJ x))∧Ext w w'):=by intro w;have h:=cn x ej w;unfold vV at h;rw[ca]at h;exact h
      clear ca;go_wp2_with fail;refine(cq wr).mono ?_;rintro e w7 ⟨tv,nv,cv,eg,rfl,dc,bf⟩;subst eg;have X7:=xQ (XR.out.trans bf);have B7:=xQ (BR.out.ext bf);have O7:=xQ (aP OR bf);have o:=xQ (bD dc (show a+1≤_ by omega));have e6:a<w7:=B7.out.lt;clear bf dc e1;by_cases am:nv=4
      ·subst am;obtain⟨a0,a1,a2,a3,q1⟩:=sM (show(lJ x).length=4 by simp[lJ,bl]);have dp:=xQ q1;rw[q1]at o;clear q1 cq;obtain⟨gv,ez,ba⟩:=aTc o (by omega);injection ba with ba _ hgv';subst ba;subst hgv';have t0:w7.cell? ⟨gv,0,none⟩=some (I a0):=cR o.out 0 (by omega) _ rfl;have t1:w7.cell? ⟨gv,1,none⟩=some (I a1):=cR o.out 1 (by omega) _ rfl;have t2:w7.cell? ⟨gv,2,none⟩=some (I a2):=cR o.out 2 (by omega) _ rfl;have t3:w7.cell? ⟨gv,3,none⟩=some (I a3):=cR o.out 3 (by omega) _ rfl;have v9:=B7.out.cl 9;have et:=B7.out.frozen 9;have ba:=(o.out.lt gv rfl).2;have e2: ¬gv=a:=by have:=(o.out.lt gv rfl).1;omega
       have e3:k≤1048577:=by omega
       go_wp2;refine rL (gl [gEq (.pointer (some ⟨a,9,none⟩)),gEq (.slice q k d),gEq (.slice (some ⟨gv,0,none⟩) 4 cv),gEq (.pointer (some ⟨gv,0,none⟩)),gEq a0,gEq (.slice (some ⟨gv,0,none⟩) 4 cv),gEq (.pointer (some ⟨gv,1,none⟩)),gEq a1,gEq (.slice (some ⟨gv,0,none⟩) 4 cv),gEq (.pointer (some ⟨gv,2,none⟩)),gEq a2,gEq (.slice (some ⟨gv,0,none⟩) 4 cv),gEq (.pointer (some ⟨gv,3,none⟩)),gEq a3,gEq (.agg #[a1,a2,a3]),gEq (.agg #[a0,a1,a2,a3]),aHg (0) tC #[a0,a1,a2,a3] 1]) 17 20 [(0,some 80),(1,some 81),(2,some 82),(3,some 83),(4,some 84),(5,some 85),(6,some 86),(7,some 87),(8,some 88),(9,some 89),(10,some 90),(11,some 91),(12,some 92),(13,some 93),(14,some 94),(15,some 95),(16,some 96)] ?steps ?fin
       case steps=>
        refine sS0 [] ?_;refine sC [(0,some 80)] rfl (fun wi hx=> ?_) ?_
        ·intro v0 h0 K hK;obtain rfl:=h0;have hX:=hx.of_drew;have v9:=(B7.out.ext hX).cl 9;go_simp;exact hK _ _ ⟨.slice q k d,rfl,rfl,Ext.refl _⟩
        refine sS0 [] (sS1 [(2,some 82)] ?_);refine sC [(3,some 83)] rfl (fun wi hx=> ?_) ?_
        ·intro v3 h3 K hK;obtain rfl:=h3;have hX:=hx.of_drew;have t0:wi.cell? ⟨gv,0,none⟩=some (I a0):=cR (aP o hX) 0 (by omega) _ rfl;go_simp;exact hK _ _ ⟨I a0,rfl,rfl,Ext.refl _⟩
        refine sS0 [] (sS1 [(5,some 85)] ?_);refine sC [(6,some 86)] rfl (fun wi hx=> ?_) ?_
        ·intro v6 h6 K hK;obtain rfl:=h6;have hX:=hx.of_drew;have t0:wi.cell? ⟨gv,1,none⟩=some (I a1):=cR (aP o hX) 1 (by omega) _ rfl;go_simp;exact hK _ _ ⟨I a1,rfl,rfl,Ext.refl _⟩
        refine sS0 [] (sS1 [(8,some 88)] ?_);refine sC [(9,some 89)] rfl (fun wi hx=> ?_) ?_
        ·intro v9 h9 K hK;obtain rfl:=h9;have hX:=hx.of_drew;have t0:wi.cell? ⟨gv,2,none⟩=some (I a2):=cR (aP o hX) 2 (by omega) _ rfl;go_simp;exact hK _ _ ⟨I a2,rfl,rfl,Ext.refl _⟩
        refine sS0 [] (sS1 [(11,some 91)] ?_);refine sC [(12,some 92)] rfl (fun wi hx=> ?_) ?_
        ·intro cg ap K hK;obtain rfl:=ap;have hX:=hx.of_drew;have t0:wi.cell? ⟨gv,3,none⟩=some (I a3):=cR (aP o hX) 3 (by omega) _ rfl;go_simp;exact hK _ _ ⟨I a3,rfl,rfl,Ext.refl _⟩
        refine sS3 [(7,some 87),(10,some 90),(13,some 93)] (sS2 [(4,some 84),(14,some 94)] ?_);refine sC [(15,some 95)] rfl (fun wi hx=> ?_) StepsL.nil
        ·intro ch aq K hK;obtain rfl:=aq;go_simp;exact hK _ _ ⟨.slice (some ⟨wi,0,none⟩) 1 1,rfl,⟨wi.heap.size,rfl,aT8 _,Blk.new _ _ _⟩,(Ext.refl _).alloc _⟩
       case fin=>
        intro wi hx v0 h0 v1 h1 v2 h2 v3 h3 v4 h4 v5 h5 v6 h6 v7 h7 v8 h8 v9 h9 em br dd ax cg ap de ay en bs ch aq df az;subst h0 h1 h2 h3 h4 h5 h6 h7 h8 h9;obtain rfl:=br;obtain rfl:=ax;obtain rfl:=ap;obtain rfl:=ay;obtain rfl:=bs;obtain rfl:=aq;obtain⟨d4,rfl,c4,ci⟩:=az;have hX:=hx.of_drew;have XF:Ext w3 wi:=X7.out.trans hX;have BF:=B7.out.ext hX;have OF:=aP O7 hX;have cu:=aP o hX;clear hX hx c4;go_frame;refine wpAny_ready (rs:= [17]) (by kernel_rfl) (by simp) ?_;refine AllReady.cons rfl (fun K hK=> ?_) AllReady.nil;refine fO _ aRr rfl (.tmp 81) (.tmp 96) rfl (a+1) (.slice q k d) k _ rfl OF (some ⟨d4,0,none⟩) 1 1 (aD (a0,a1,a2,a3)) rfl (Sl.blkS ci) (aK7 _) (by omega) (by have:=BF.lt;omega) (fun p2 cap2 w8 hown8 hgrow8=>hK _ _ ?_);clear hK K;obtain⟨X8,B8⟩:=aB5 XF BF (by decide) OF (by omega) hgrow8;have d0:=aB4 OF hgrow8 cu (by decide);clear hgrow8 XF BF OF cu ci;have x9:=B8.cl 9;have eu:=B8.frozen 9;have el:a<w8:=B8.lt;try go_frame
        refine wpAny_ready (rs:= [18]) (by kernel_rfl) (by simp) ?_;refine AllReady.cons rfl (fun K hK=> ?_) AllReady.nil;go_simp;refine hK _ _ ?_;clear hK K;refine wpAny_ready (rs:= [19]) (by kernel_rfl) (by simp) ?_;refine AllReady.cons rfl (fun K hK=> ?_) AllReady.nil;go_simp;refine hK _ _ ?_;clear hK K;refine wpAny_done (by kernel_rfl) ?_ _;have co:Hid (∀q∈((aK 59 l).drop 4).take (k+1),(aK 44 q).length=4):=by
         have e:((aK 59 l).drop 4)[k]? =some x:=by rw[List.getElem?_drop];exact bn.out
         rw[xQ (aZ e)];intro y hy;rcases aTi.1 hy with h|h
         ·exact HF y h
         obtain rfl:y=x:=by simpa using h
         exact bl
        have dr:Hid (dV (aK 59 l) (k+1)=dV (aK 59 l) k++ [(a0,a1,a2,a3)]):=by show _=_;rw[tD bn.out,dp.out];rfl
        have B9:=xQ (show Blk (w8.setCell ⟨a,9,none⟩ (.slice p2 (k+1) cap2)) a kD #[W,D,.slice p n cap,f,s,pr,cp,ck,bk,.slice p2 (k+1) cap2] by have:=B8.set 9 (.slice p2 (k+1) cap2);simpa using this)
        have O9:=xQ (show(w8.setCell ⟨a,9,none⟩ (.slice p2 (k+1) cap2)).ownsRow (a+1) tC 4 (.slice p2 (k+1) cap2) (k+1) ((dV (aK 59 l) (k+1)).flatMap aD) by
         rw[dr.out,aU3];have:=iM (i:=9) (u:= .slice p2 (k+1) cap2) B8 hown8 (by decide)
         simpa using this)
        have X9:Ext w3 (w8.setCell ⟨a,9,none⟩ (.slice p2 (k+1) cap2)):=X8.setCell (by omega) _;clear hown8 d0 B8 X8 t0 t1 t2 t3 v9 et x9 eu;go_wp2;go_roundw
        case rel=>
         first
          |exact⟨k+1,p2,cap2,by omega,by go_num,X9,B9.out,O9.out,co.out⟩
          |((repeat apply Exists.intro);refine⟨⟨k+1,p2,cap2,by omega,by go_num,X9,B9.out,O9.out,co.out⟩,rfl⟩)
        case measure=>simp[intOf];omega
      have ao:Hid (bF l=none):=sO (aJs bn (by rw[bl];exact am));have eh:((nv:Int)==4)=false:=by rw[beq_eq_false_iff_ne];omega
      have a8:=xQ (X3.out.trans X7.out);clear am;obtain⟨z0,aa,z1,ab,z2,ad,z3,ae,z4,af,z5,ag,z6,ah,z7,ai,z8,aj,z9,ak⟩:=(c.out.ext a8.out).tenf;have a6:(w:Nat)<w7:=(c.out.ext a8.out).lt;go_wp2;generalize g:World.setCell _ _ _=w9;obtain⟨Y9,r,X9⟩:=(c.out.ext a8.out).putx (av.out.trans a8.out) g;clear g r z0 z1 z2 z3 z4 z5 z6 z7 z8 z9 aa ab ad ae af ag ah ai aj ak;obtain⟨y0,y1,y2,y3,y4,y5,y6,y7,y8,y9⟩:=Y9.ten;exact bodyPost_ret (v:= .tuple #[.agg #[(),(),((),()),(),(),(),(),(),(),((),())],.bool false]) (by simp[results,results56,go_sem, *]) rfl (fK ao.out X9)
     obtain rfl:k=N:=by omega
     have HT:Hid (((aK 59 l).drop 4).take k=(aK 59 l).drop 4):=aT7 (by rw[aTw,ar.out];omega);have a4:eZ (aK 59 l)=true:=by
      have h2:=HF.out;rw[HT.out]at h2;unfold eZ;rw[ar.out,bp.out,bq.out,bj,bi.out];have h4:4≤k+4:=by omega
      have h5:((aK 59 l).drop 4).all (fun p=>decide ((aK 44 p).length=4))=true:=by rw[aTp];intro z hz;exact decide_eq_true (h2 z hz)
      simp[h4,h5]
     have di:Hid (dB (aK 59 l)=⟨W,D,xs,f,s,pr,cp,ck,bk,dV (aK 59 l) k⟩):=by show _=_;rw[aA2 (W:=W) (D:=D) (xs:=xs) ar (by rw[bp.out];exact H0.out) (t:= [f,s,pr,cp]) (by rw[bq.out];exact dn.out),d1.out,d2.out,dh.out,dg.out];rfl
     have bm:=xQ (zW (by rw[ar.out];omega) a4);rw[di.out]at bm;have dq:Hid (k=(dV (aK 59 l) k).length):=(uJ ar (aT2 _)).symm;clear a4 HF HT;generalize ei:dV (aK 59 l) k=vs at*;clear ei;have d3:=xQ (X3.out.trans XR.out);have bo:=xQ (aP dy XR.out);have HI:Hid (IsHouse wr ⟨W,D,xs,f,s,pr,cp,ck,bk,vs⟩ p n cap q k d):=⟨Sl.own bo.out,Sl.own OR.out⟩
     have HT:Hid (∀(w':World),Ext wr w'→U 73 #[.agg #[W,D,.slice p n cap,f,s,pr,cp,ck,bk,.slice q k d]] w' (Z (str (bI ⟨W,D,xs,f,s,pr,cp,ck,bk,vs⟩)) w')):=fun w' hx=>tE ⟨W,D,xs,f,s,pr,cp,ck,bk,vs⟩ p n cap q k d w' (HI.out.ext hx)
     generalize d9:bI ⟨W,D,xs,f,s,pr,cp,ck,bk,vs⟩=t at*;clear d9;obtain⟨b0,b1,b2,b3,b4,b5,b6,b7,b8,b9⟩:=BR.out.ten;go_wp2_with fail;refine Ω (HT _ (by exact .refl _)) fun w8 h8=>?_
     clear b0 b1 b2 b3 b4 b5 b6 b7 b8 b9;have cf:Ext wr w8:=by exact h8
     have B8:=xQ (BR.out.ext cf);have el:a<w8:=B8.out.lt;have aw:=xQ cf;have an:=xQ (d3.out.trans aw.out);clear h8 cf;by_cases ht:t=l
     ·have d8:(t==l)=true:=by simp[ht]
      have da:Hid (bF l=some ⟨W,D,xs,f,s,pr,cp,ck,bk,vs⟩):=by show _=_;rw[bm.out];simp[ht]
      clear ht;obtain⟨b0,b1,b2,b3,b4,b5,b6,b7,b8,b9⟩:=B8.out.ten;obtain⟨z0,aa,z1,ab,z2,ad,z3,ae,z4,af,z5,ag,z6,ah,z7,ai,z8,aj,z9,ak⟩:=(c.out.ext an.out).tenf;have a6:(w:Nat)<w8:=(c.out.ext an.out).lt;have e4: ¬w.heap.size=a:=by have:=X3.out.sz;omega
      go_wp2;generalize g:World.setCell _ _ _=w9;obtain⟨Y9,r,X9⟩:=(c.out.ext an.out).putx (av.out.trans an.out) g;have dw:w9.ownsRow w TI 1 (.slice p n cap) n (ivs xs):=bD ((aP bo aw.out).kept r (.inr (iE (aP bo aw.out) (c.out.ext an.out) (by decide)))) (by omega);have dz:w9.ownsRow w tC 4 (.slice q k d) k (vs.flatMap aD):=bD ((aP OR aw.out).kept r (.inr (iE (aP OR aw.out) (c.out.ext an.out) (by decide)))) (by have:=X3.out.sz;omega);clear g r z0 z1 z2 z3 z4 z5 z6 z7 z8 z9 aa ab ad ae af ag ah ai aj ak b0 b1 b2 b3 b4 b5 b6 b7 b8 b9;obtain⟨y0,y1,y2,y3,y4,y5,y6,y7,y8,y9⟩:=Y9.ten;exact bodyPost_ret (v:= .tuple #[.agg #[W,D,.slice p n cap,f,s,pr,cp,ck,bk,.slice q k d],.bool true]) (by simp[results,results56,go_sem, *]) rfl (zQ da.out dv dq.out dw dz X9)
     have d8:(t==l)=false:=by simp[ht]
     have ao:Hid (bF l=none):=by show _=_;rw[bm.out];simp[ht]
     clear ht;obtain⟨z0,aa,z1,ab,z2,ad,z3,ae,z4,af,z5,ag,z6,ah,z7,ai,z8,aj,z9,ak⟩:=(c.out.ext an.out).tenf;have a6:(w:Nat)<w8:=(c.out.ext an.out).lt;go_wp2;generalize g:World.setCell _ _ _=w9;obtain⟨Y9,r,X9⟩:=(c.out.ext an.out).putx (av.out.trans an.out) g;clear g r z0 z1 z2 z3 z4 z5 z6 z7 z8 z9 aa ab ad ae af ag ah ai aj ak;obtain⟨y0,y1,y2,y3,y4,y5,y6,y7,y8,y9⟩:=Y9.ten;exact bodyPost_ret (v:= .tuple #[.agg #[(),(),((),()),(),(),(),(),(),(),((),())],.bool false]) (by simp[results,results56,go_sem, *]) rfl (fK ao.out X9)
  have ao:Hid (bF l=none):=sO (aCy (.inr (by rw[bq.out,bj];exact am)));have eh:((n1:Int)==4)=false:=by rw[beq_eq_false_iff_ne];omega
  clear am;obtain⟨z0,aa,z1,ab,z2,ad,z3,ae,z4,af,z5,ag,z6,ah,z7,ai,z8,aj,z9,ak⟩:=(c.out.ext X3.out).tenf;have a6:(w:Nat)<w3:=(c.out.ext X3.out).lt;go_wp2;generalize g:World.setCell _ _ _=w9;obtain⟨Y9,r,X9⟩:=(c.out.ext X3.out).putx (av.out.trans X3.out) g;clear g r z0 z1 z2 z3 z4 z5 z6 z7 z8 z9 aa ab ad ae af ag ah ai aj ak;obtain⟨y0,y1,y2,y3,y4,y5,y6,y7,y8,y9⟩:=Y9.ten;exact bodyPost_ret (v:= .tuple #[.agg #[(),(),((),()),(),(),(),(),(),(),((),())],.bool false]) (by simp[results,results56,go_sem, *]) rfl (fK ao.out X9)
def eP (h:aS)(e:Int):List UInt8:=if bJ h=true∧0≤e∧e≤99 then jZ (dec e++ [124]++bI h)else []
theorem aFn (a b c:List UInt8):Value.string (⟨a.toArray⟩++⟨b.toArray⟩++⟨c.toArray⟩)=str (a++b++c):=by apply congrArg Value.string;apply ByteArray.ext;simp
theorem aEh (aA aB a b aE aF aC aG:Int)(p:OA)(n c:Nat)(q:OA)(m c2:Nat)(e:Int)(t r:List UInt8)(w:World)
  (HV:xB 16 #[.agg #[aA,aB,.slice p n c,a,b,aE,aF,aC,aG,.slice q m c2]] w false):
  U 20 #[.agg #[aA,aB,.slice p n c,a,b,aE,aF,aC,aG,.slice q m c2],e] w fun e' w'=>e'= .returned (str [])∧Ext w w':=by
 go_enter func20,ntmps20;go_wp2_with fail;refine(HV _ (by exact .alloc (.refl _) _)).mono ?_;rintro e' w0 ⟨rfl,d⟩;have B0:=xQ ((Blk.new w 29 #[aA,aB,.slice p n c,a,b,aE,aF,aC,aG,.slice q m c2]).ext d);have X0:Hid (Ext w w0):=by show Ext w w0;exact .trans (.alloc (.refl _) _) d
 have f:=X0.out;have g:(w:Nat)<w0:=B0.out.lt;clear d;go_wp2;go_ret;exact⟨rfl,X0.out⟩
theorem aEg (aA aB a b aE aF aC aG:Int)(p:OA)(n c:Nat)(q:OA)(m c2:Nat)(e:Int)(t r:List UInt8)(w:World)(h:e<0∨0≤e∧99<e)
  (HV:xB 16 #[.agg #[aA,aB,.slice p n c,a,b,aE,aF,aC,aG,.slice q m c2]] w true):
  U 20 #[.agg #[aA,aB,.slice p n c,a,b,aE,aF,aC,aG,.slice q m c2],e] w fun e' w'=>e'= .returned (str [])∧Ext w w':=by
 rcases h with h|⟨h,h2⟩
 all_goals
  (try (have g:decide (e≤99)=false:=by simp;omega));go_enter func20,ntmps20;go_wp2_with fail;refine(HV _ (by exact .alloc (.refl _) _)).mono ?_;rintro e' w0 ⟨rfl,d⟩;have B0:=xQ ((Blk.new w 29 #[aA,aB,.slice p n c,a,b,aE,aF,aC,aG,.slice q m c2]).ext d);have X0:Hid (Ext w w0):=by show Ext w w0;exact .trans (.alloc (.refl _) _) d
  have f:=X0.out;have i:(w:Nat)<w0:=B0.out.lt;clear d;go_wp2;go_ret;exact⟨rfl,X0.out⟩
theorem aDk (aA aB a b aE aF aC aG:Int)(p:OA)(n c:Nat)(q:OA)(m c2:Nat)(e:Int)(t r:List UInt8)(w:World)
  (HV:xB 15 #[.agg #[aA,aB,.slice p n c,a,b,aE,aF,aC,aG,.slice q m c2]] w false):
  U 35 #[.agg #[aA,aB,.slice p n c,a,b,aE,aF,aC,aG,.slice q m c2],e] w fun e' w'=>e'= .returned (str [])∧Ext w w':=by
 go_enter func35,ntmps35;go_wp2_with fail;refine(HV _ (by exact .alloc (.refl _) _)).mono ?_;rintro e' w0 ⟨rfl,d⟩;have B0:=xQ ((Blk.new w 29 #[aA,aB,.slice p n c,a,b,aE,aF,aC,aG,.slice q m c2]).ext d);have X0:Hid (Ext w w0):=by show Ext w w0;exact .trans (.alloc (.refl _) _) d
 have f:=X0.out;have g:(w:Nat)<w0:=B0.out.lt;clear d;go_wp2;go_ret;exact⟨rfl,X0.out⟩
theorem aDj (aA aB a b aE aF aC aG:Int)(p:OA)(n c:Nat)(q:OA)(m c2:Nat)(e:Int)(t r:List UInt8)(w:World)(h:e<0∨0≤e∧99<e)
  (HV:xB 15 #[.agg #[aA,aB,.slice p n c,a,b,aE,aF,aC,aG,.slice q m c2]] w true):
  U 35 #[.agg #[aA,aB,.slice p n c,a,b,aE,aF,aC,aG,.slice q m c2],e] w fun e' w'=>e'= .returned (str [])∧Ext w w':=by
 rcases h with h|⟨h,h2⟩
 all_goals
  (try (have g:decide (e≤99)=false:=by simp;omega));go_enter func35,ntmps35;go_wp2_with fail;refine(HV _ (by exact .alloc (.refl _) _)).mono ?_;rintro e' w0 ⟨rfl,d⟩;have B0:=xQ ((Blk.new w 29 #[aA,aB,.slice p n c,a,b,aE,aF,aC,aG,.slice q m c2]).ext d);have X0:Hid (Ext w w0):=by show Ext w w0;exact .trans (.alloc (.refl _) _) d
  have f:=X0.out;have i:(w:Nat)<w0:=B0.out.lt;clear d;go_wp2_with go_in;go_ret;exact⟨rfl,X0.out⟩
theorem aGw (aA aB a b aE aF aC aG:Int)(p:OA)(n c:Nat)(q:OA)(m c2:Nat)(e:Int)(t r:List UInt8)(w:World)(h0:0≤e)(h1:e≤99)(hd:(dec e).length≤21)(ht:t.length≤100000)
  (HV:xB 16 #[.agg #[aA,aB,.slice p n c,a,b,aE,aF,aC,aG,.slice q m c2]] w true)
  (HT:Hid (∀w',Ext w w'→U 54 #[.agg #[aA,aB,.slice p n c,a,b,aE,aF,aC,aG,.slice q m c2]] w' fun e' w''=>e'= .returned (str t)∧Ext w' w''))
  (HN:Hid (∀w',Ext w w'→U 53 #[e] w' fun e' w''=>e'= .returned (str (dec e))∧Ext w' w''))
  (HW:Hid (∀w',Ext w w'→U 52 #[.string ((⟨(dec e).toArray⟩:ByteArray)++(⟨#[124]⟩:ByteArray)++(⟨t.toArray⟩:ByteArray))] w' fun e' w''=>e'= .returned (str r)∧Ext w' w'')):
  U 20 #[.agg #[aA,aB,.slice p n c,a,b,aE,aF,aC,aG,.slice q m c2],e] w fun e' w'=>e'= .returned (str r)∧Ext w w':=by
 go_enter func20,ntmps20;go_wp2_with fail;refine(HV _ (by exact .alloc (.refl _) _)).mono ?_;rintro e' w0 ⟨rfl,g⟩;have B0:=xQ ((Blk.new w 29 #[aA,aB,.slice p n c,a,b,aE,aF,aC,aG,.slice q m c2]).ext g);have X0:Hid (Ext w w0):=by show Ext w w0;exact .trans (.alloc (.refl _) _) g
 have f:=X0.out;have y:(w:Nat)<w0:=B0.out.lt;clear g;go_wp2;refine rL (gl [gEq e,gEq (str (dec e)),gEq (.string ((⟨(dec e).toArray⟩:ByteArray)++(⟨#[124]⟩:ByteArray))),gEq (.agg #[aA,aB,.slice p n c,a,b,aE,aF,aC,aG,.slice q m c2]),gEq (str t),gEq (.string ((⟨(dec e).toArray⟩:ByteArray)++(⟨#[124]⟩:ByteArray)++(⟨t.toArray⟩:ByteArray))),gEq (str r)]) 7 8 [(0,some 16),(1,some 17),(2,some 18),(3,some 19),(4,some 20),(5,some 21),(6,some 22)] ?steps ?fin
 case steps=>
  refine sS0 [] ?_;refine sC [(0,some 16)] rfl (fun wi hx=> ?_) ?_
  ·intro v0 h0 K hK;obtain rfl:=h0;go_wp2_with fail;refine Ω (HN _ (by exact .trans (.drew f) hx)) fun w2 d=>?_
   go_simp;exact hK _ _ ⟨str (dec e),rfl,rfl,d⟩
  refine sC [(1,some 17)] rfl (fun wi hx=> ?_) ?_
  ·intro v1 h1 K hK;obtain rfl:=h1;have s1: ¬9223372036854775807<(dec e).length+1:=by omega
   go_simp;exact hK _ _ ⟨.string ((⟨(dec e).toArray⟩:ByteArray)++(⟨#[124]⟩:ByteArray)),rfl,rfl,Ext.refl _⟩
  refine sC [] rfl (fun wi hx=> ?_) ?_
  ·intro K hK;have B:=xQ (B0.out.ext hx.of_drew);obtain⟨h,i,j,k,l,o,s,u,v,x⟩:=B.out.ten;go_simp;exact hK _ _ ⟨.agg #[aA,aB,.slice p n c,a,b,aE,aF,aC,aG,.slice q m c2],rfl,rfl,Ext.refl _⟩
  refine sC [(3,some 19)] rfl (fun wi hx=> ?_) ?_
  ·intro v3 h3 K hK;obtain rfl:=h3;go_wp2_with fail;refine Ω (HT _ (by exact .trans (.drew f) hx)) fun w2 d=>?_
   go_simp;exact hK _ _ ⟨str t,rfl,rfl,d⟩
  refine sC [(2,some 18),(4,some 20)] rfl (fun wi hx=> ?_) ?_
  ·intro v2 h2 v4 h4 K hK;subst h2 h4;have s2: ¬9223372036854775807<(dec e).length+1+t.length:=by omega
   go_simp;exact hK _ _ ⟨.string ((⟨(dec e).toArray⟩:ByteArray)++(⟨#[124]⟩:ByteArray)++(⟨t.toArray⟩:ByteArray)),rfl,rfl,Ext.refl _⟩
  refine sC [(5,some 21)] rfl (fun wi hx=> ?_) StepsL.nil
  ·intro v5 h5 K hK;obtain rfl:=h5;go_wp2_with fail;refine Ω (HW _ (by exact .trans (.drew f) hx)) fun w2 d=>?_
   go_simp;exact hK _ _ ⟨str r,rfl,rfl,d⟩
 case fin=>intro wi hx v0 h0 v1 h1 v2 h2 v3 h3 v4 h4 v5 h5 v6 h6;subst h0 h1 h2 h3 h4 h5 h6;refine wpAny_ready (rs:= [7]) (by kernel_rfl) (by simp) ?_;refine AllReady.cons rfl (fun K hK=> ?_) AllReady.nil;go_simp;refine hK _ _ ?_;clear hK K;refine wpAny_done (by kernel_rfl) ?_ _;have X1:=xQ (X0.out.trans hx.of_drew);clear hx;go_wp2;go_ret;exact⟨rfl,X1.out⟩
theorem aFs (aA aB a b aE aF aC aG:Int)(p:OA)(n c:Nat)(q:OA)(m c2:Nat)(e:Int)(t r:List UInt8)(w:World)(h0:0≤e)(h1:e≤99)(hd:(dec e).length≤21)(ht:t.length≤100000)
  (HV:xB 15 #[.agg #[aA,aB,.slice p n c,a,b,aE,aF,aC,aG,.slice q m c2]] w true)
  (HT:Hid (∀w',Ext w w'→U 73 #[.agg #[aA,aB,.slice p n c,a,b,aE,aF,aC,aG,.slice q m c2]] w' fun e' w''=>e'= .returned (str t)∧Ext w' w''))
  (HN:Hid (∀w',Ext w w'→U 72 #[e] w' fun e' w''=>e'= .returned (str (dec e))∧Ext w' w'')):
  U 35 #[.agg #[aA,aB,.slice p n c,a,b,aE,aF,aC,aG,.slice q m c2],e] w fun e' w'=>e'= .returned (str (jZ (dec e++ [124]++t)))∧Ext w w':=by
 obtain⟨u,f⟩: ∃u,u=dec e++ [124]++t:=⟨_,rfl⟩
 have i:u.length≤200000:=by rw[f];simp only[aTa,aU1,List.length_nil];omega
 have hu:=xQ f;clear f;have q1:decide (e≤99)=true:=by simp[h1]
 go_enter func35,ntmps35;go_wp2_with fail;refine(HV _ (by exact .alloc (.refl _) _)).mono ?_;rintro e' w0 ⟨rfl,d⟩;have B0:=xQ ((Blk.new w 29 #[aA,aB,.slice p n c,a,b,aE,aF,aC,aG,.slice q m c2]).ext d);have X0:Hid (Ext w w0):=by show Ext w w0;exact .trans (.alloc (.refl _) _) d
 have h:=X0.out;have af:(w:Nat)<w0:=B0.out.lt;clear d;go_wp2_with go_in;refine rL (gl [gEq e,gEq (str (dec e)),gEq (.string ((⟨(dec e).toArray⟩:ByteArray)++(⟨#[124]⟩:ByteArray))),gEq (.agg #[aA,aB,.slice p n c,a,b,aE,aF,aC,aG,.slice q m c2]),gEq (str t),gEq (.string ((⟨(dec e).toArray⟩:ByteArray)++(⟨#[124]⟩:ByteArray)++(⟨t.toArray⟩:ByteArray)))]) 6 7 [(0,some 14),(1,some 15),(2,some 16),(3,some 17),(4,some 18),(5,some 19)] ?steps ?fin
 case steps=>
  refine sS0 [] ?_;refine sC [(0,some 14)] rfl (fun wi hx=> ?_) ?_
  ·intro v0 h0 K hK;obtain rfl:=h0;go_wp2_with fail;refine Ω (HN _ (by exact .trans (.drew h) hx)) fun w2 g=>?_
   go_simp;exact hK _ _ ⟨str (dec e),rfl,rfl,g⟩
  refine sC [(1,some 15)] rfl (fun wi hx=> ?_) ?_
  ·intro v1 h1 K hK;obtain rfl:=h1;have s1: ¬9223372036854775807<(dec e).length+1:=by omega
   go_simp;exact hK _ _ ⟨.string ((⟨(dec e).toArray⟩:ByteArray)++(⟨#[124]⟩:ByteArray)),rfl,rfl,Ext.refl _⟩
  refine sC [] rfl (fun wi hx=> ?_) ?_
  ·intro K hK;have B:=xQ (B0.out.ext hx.of_drew);obtain⟨k,l,o,s,v,x,y,z,aa,ab⟩:=B.out.ten;go_simp;exact hK _ _ ⟨.agg #[aA,aB,.slice p n c,a,b,aE,aF,aC,aG,.slice q m c2],rfl,rfl,Ext.refl _⟩
  refine sC [(3,some 17)] rfl (fun wi hx=> ?_) ?_
  ·intro v3 h3 K hK;obtain rfl:=h3;go_wp2_with fail;refine Ω (HT _ (by exact .trans (.drew h) hx)) fun w2 g=>?_
   go_simp;exact hK _ _ ⟨str t,rfl,rfl,g⟩
  refine sC [(2,some 16),(4,some 18)] rfl (fun wi hx=> ?_) StepsL.nil
  ·intro v2 h2 v4 h4 K hK;subst h2 h4;have s2: ¬9223372036854775807<(dec e).length+1+t.length:=by omega
   go_simp;exact hK _ _ ⟨.string ((⟨(dec e).toArray⟩:ByteArray)++(⟨#[124]⟩:ByteArray)++(⟨t.toArray⟩:ByteArray)),rfl,rfl,Ext.refl _⟩
 case fin=>
  intro wi hx v0 h0 v1 h1 v2 h2 v3 h3 v4 h4 v5 h5;subst h0 h1 h2 h3 h4 h5;refine wpAny_ready (rs:= [6]) (by kernel_rfl) (by simp) ?_;refine AllReady.cons rfl (fun K hK=> ?_) AllReady.nil;go_simp;refine hK _ _ ?_;clear hK K;refine wpAny_done (by kernel_rfl) ?_ _;have X1:=xQ (X0.out.trans hx.of_drew);clear hx;have eq:(Value.string (⟨(dec e).toArray⟩++⟨#[124]⟩++⟨t.toArray⟩))=str u:=by rw[hu.out];exact aFn _ _ _
  rw[eq];clear eq;have ae: ¬9223372036854775807<u.length+1:=by omega
  have ad:=uL u;have j: ¬9223372036854775807<u.length+1+(Lib.decDigits (lZ u).toNat).length:=by omega
  have hb:=rY u;go_wp2_with fail;refine(zG u _ (by unfold maxLen;omega)).mono ?_;rintro e2 w3 ⟨rfl,rfl⟩;go_wp2_with fail;refine Ω (lI (lZ u) _ (by omega) (by omega)) fun w4 h4=>?_
  go_wp2;go_ret;exact⟨by rw[←hu.out];exact kV rfl,X1.out.trans (by exact h4)⟩
theorem oI {h:aS}:(bI h).length≤100000:=by
 unfold bI;cases hok:bJ h with
 |false=>simp
 |true=>
  rw[if_pos rfl];obtain⟨g0,g1,g2,g3,g4,g5,g6,g7,g8,g9,b,c,d,e,a⟩:=pR hok;have l1:(cL h.aA h.aB h.cells).length≤400:=pS;have l2:=oR h.free h.step h.aE h.aF (by omega) (by omega) (by omega) (by omega);have l3:=eI h.aC (by omega);have l4:=eI h.aG (by omega);have lv: ∀v∈h.vs,(bC (bR v)).length≤90:=fun v hv=>by have:=a v hv;exact oR _ _ _ _ (by omega) (by omega) (by omega) (by omega)
  have HL:=aGp 59 400 (cL h.aA h.aB h.cells) (bC [h.free,h.step,h.aE,h.aF]::dec h.aC::dec h.aG::h.vs.map (fun v=>bC (bR v))) l1 (fun y hy=>by
   simp only[aTj]at hy;rcases hy with rfl|rfl|rfl|hy
   ·omega
   ·omega
   ·omega
   ·obtain⟨v,hv,rfl⟩:=List.mem_map.1 hy
    have:=lv v hv;omega)
  refine aTb HL ?_;simp only[aU1,aTk];omega
theorem aEi (h:aS)(e:Int)(p:OA)(n a:Nat)(q:OA)(m c2:Nat)(w:World)(hE:Env w)(hi:IsHouse w h p n a q m c2):
  U 20 #[cY h p n a q m c2,e] w fun e' w'=>e'= .returned (str (eP h e))∧Ext w w':=by
 have HV:=fun(w':World) (hx:Ext w w')=>mZ h p n a q m c2 w' (hi.ext hx)
 unfold eP;cases hok:bJ h with
 |false=>rw[hok]at HV;simpa using aEh h.aA h.aB h.free h.step h.aE h.aF h.aC h.aG p n a q m c2 e [] [] w HV
 |true=>
  rw[hok]at HV;by_cases hr:0≤e∧e≤99
  ·rw[if_pos ⟨rfl,hr⟩];exact aGw h.aA h.aB h.free h.step h.aE h.aF h.aC h.aG p n a q m c2 e (bI h) (jZ (dec e++ [124]++bI h)) w hr.1 hr.2 (eI e (by omega)) oI HV (fun w' hx=>tM h p n a q m c2 w' (hE.ext hx) (hi.ext hx)) (fun w' hx=>tL e w' hr.1 (by omega) (hE.ext hx)) (fun w' hx=>by rw[show(Value.string (⟨(dec e).toArray⟩++⟨#[124]⟩++⟨(bI h).toArray⟩))=str (dec e++ [124]++bI h)from aFn _ _ _];exact xW _ w' (by have:=oI (h:=h);have:=eI e (by omega);simp only[aTa,aU1,List.length_nil];omega) (hE.ext hx))
  rw[if_neg (fun hh=>hr hh.2)];exact aEg h.aA h.aB h.free h.step h.aE h.aF h.aC h.aG p n a q m c2 e [] [] w (by omega) HV
theorem aDl (h:aS)(e:Int)(p:OA)(n a:Nat)(q:OA)(m c2:Nat)(w:World)(hi:IsHouse w h p n a q m c2):
  U 35 #[cY h p n a q m c2,e] w fun e' w'=>e'= .returned (str (eP h e))∧Ext w w':=by
 have HV:=fun(w':World) (hx:Ext w w')=>oO h p n a q m c2 w' (hi.ext hx)
 unfold eP;cases hok:bJ h with
 |false=>rw[hok]at HV;simpa using aDk h.aA h.aB h.free h.step h.aE h.aF h.aC h.aG p n a q m c2 e [] [] w HV
 |true=>
  rw[hok]at HV;by_cases hr:0≤e∧e≤99
  ·rw[if_pos ⟨rfl,hr⟩];exact aFs h.aA h.aB h.free h.step h.aE h.aF h.aC h.aG p n a q m c2 e (bI h) (jZ (dec e++ [124]++bI h)) w hr.1 hr.2 (eI e (by omega)) oI HV (fun w' hx=>tE h p n a q m c2 w' (hi.ext hx)) (fun w' hx=>lI e w' hr.1 (by omega))
  rw[if_neg (fun hh=>hr hh.2)];exact aDj h.aA h.aB h.free h.step h.aE h.aF h.aC h.aG p n a q m c2 e [] [] w (by omega) HV
end
theorem wU {h:aS}{c:UInt8}(hc:dN c=false)(a:c≠44)(b:c≠46)(d:c≠47)(e:c≠59):c∉bI h:=by
 unfold bI;split
 ·refine aAd 59 c e _ ?_;intro p hp;simp only[eS,aTj,List.mem_map]at hp;rcases hp with rfl|rfl|rfl|rfl|⟨v,_,rfl⟩
  ·unfold cL;split
   ·suffices hh: ∀k,c∉aR h.aA h.cells k from hh _
    intro k;induction k with
    |zero=>simp[aR]
    |succ k ih=>
     simp only[aR,aTi,not_or];refine⟨⟨ih,?_⟩,oD hc b⟩;unfold dG;split
     ·simp
     split
     ·simpa using d
     simpa using a
   simp
  ·exact uZ c hc a _
  ·exact eW _ _ hc
  ·exact eW _ _ hc
  exact uZ c hc a _
 simp
def cZ (l:List UInt8):Option (aS×Int):=
 match bH 2 (cX 124 l),bF (cX 35 (fH 124 l))with
 |some n,some h=>if eP h n=l then some (h,n)else none
 |_,_=>none
def mW (l:List UInt8):Bool:=decide ((aK 35 l).length=2∧(aK 124 (fS (aK 35 l) 0)).length=2)
def nI (l:List UInt8):Option aS:=bF (fS (aK 124 (fS (aK 35 l) 0)) 1)
def oP (l:List UInt8):Int:=(bH 4 (fS (aK 124 (fS (aK 35 l) 0)) 0)).getD (-1)
theorem tU {h:aS}{e:Int}{l:List UInt8}(a:bJ h=true)(hl:l≠ [])(hs:eP h e=l):0≤e∧e≤99∧ ∃d:Nat,l=dec e++124::(bI h++35::Lib.decDigits d):=by
 unfold eP at hs;split at hs
 ·rename_i hc;refine⟨hc.2.1,hc.2.2,(lZ (dec e++ [124]++bI h)).toNat,?_⟩;rw[←hs];simp[jZ]
 exact absurd hs.symm hl
theorem aBk {h:aS}{e:Int}{l:List UInt8}(a:bJ h=true)(hl:l≠ [])(hs:eP h e=l):cZ l=some (h,e):=by
 obtain⟨h0,h1,d,hd⟩:=tU a hl hs;have c1:=eH 124 (dec e) (bI h++35::Lib.decDigits d) (eW _ _ (by decide));have c2:=eH 35 (bI h) (Lib.decDigits d) (wU (by decide) (by decide) (by decide) (by decide) (by decide));unfold cZ;rw[hd,c1.1,c1.2,c2.1,qS a,jE 2 e.toNat (by omega) (by omega) (by omega),←hd];have e2:((e.toNat:Nat):Int)=e:=by omega
 simp[e2,hs]
theorem aIp {h:aS}{e:Int}{l:List UInt8}(a:bJ h=true)(hl:l≠ [])(hs:eP h e=l):mW l=true∧nI l=some h∧oP l=e:=by
 obtain⟨h0,h1,d,hd⟩:=tU a hl hs;have b:(35:UInt8)∉dec e++124::bI h:=by simp only[aTi,aTj,not_or];exact⟨eW _ _ (by decide),by decide,wU (by decide) (by decide) (by decide) (by decide) (by decide)⟩
 have k1:aK 35 l= [dec e++124::bI h,Lib.decDigits d]:=by rw[hd,show dec e++124::(bI h++35::Lib.decDigits d)=(dec e++124::bI h)++35::Lib.decDigits d by simp,hU 35 _ _ b,kP 35 _ (eW _ _ (by decide))]
 have k2:aK 124 (dec e++124::bI h)= [dec e,bI h]:=by rw[hU 124 _ _ (eW _ _ (by decide)),kP 124 _ (wU (by decide) (by decide) (by decide) (by decide) (by decide))]
 have k3:fS (aK 35 l) 0=dec e++124::bI h:=by rw[k1];rfl
 refine⟨?_,?_,?_⟩
 ·unfold mW;rw[k3,k2,k1];rfl
 ·unfold nI;rw[k3,k2];exact qS a
 unfold oP;rw[k3,k2];show(bH 4 (dec e)).getD (-1)=e;rw[jE 4 e.toNat (by omega) (by omega) (by omega)];simp;omega
theorem tG {l:List UInt8}{h:aS}{e:Int}(hr:cZ l=some (h,e)):bJ h=true∧eP h e=l:=by
 unfold cZ at hr;split at hr
 ·rename_i n H hn hh;split at hr
  ·rename_i hs;cases hr;exact⟨(qT hh).1,hs⟩
  simp at hr
 simp at hr
theorem aIt (l:List UInt8):cZ l=if mW l=true then(match nI l with|some h=>if eP h (oP l)=l then some (h,oP l)else none|none=>none)else none:=by
 by_cases hl:l= []
 ·subst hl;have a:cZ []=none:=by unfold cZ;simp[cX,bH]
  rw[a];simp[mW,aK]
 cases hr:cZ l with
 |some x=>obtain⟨h,e⟩:=x;obtain⟨a,b⟩:=tG hr;obtain⟨q1,q2,q3⟩:=aIp a hl b;rw[if_pos q1,q2,q3];simp[b]
 |none=>
  by_cases hf:mW l=true
  ·rw[if_pos hf];cases hh:nI l with
   |none=>rfl
   |some h=>
    simp only;by_cases hs:eP h (oP l)=l
    ·have:=aBk (qT hh).1 hl hs;rw[hr]at this;simp at this
    rw[if_neg hs]
  rw[if_neg hf]
section
open Go
section
variable {w0 w w':World} {L:List Item}
theorem Mem.own2s {b n c sz n2 c2 sz2:Nat}{e e2:TypeId}{q q2:OA}{xs i:List Value}(h:Mem w0 w L)(hx:Ext w w')(a:w'.ownsRow b e sz (.slice q n c) n xs)(g:w'.ownsRow b e2 sz2 (.slice q2 n2 c2) n2 i)(hb:w.heap.size≤b)(ht:e≠e2):
  Mem w0 w' (aJ w0 e sz q n c xs::aJ w0 e2 sz2 q2 n2 c2 i::L):=by
 refine(h.ownNew hx g hb).cons (kK _ _ _ _ _ _ _) (gO a (aTb h.ext.sz hb)) (fun g' hg' j hj e'=> ?_);replace hg':(Value.slice q n c).ownBlock=Option.some g':=hg';have h1:=(aUo a g' hg').1;rcases aTj.1 hj with rfl|hj
 ·replace e':(Value.slice q2 n2 c2).ownBlock=Option.some g':=e';rcases a.2 with⟨h2,_⟩|⟨g2,cap',cur,h2,_,h3,_⟩
  ·rw[h2]at hg';cases hg'
  rcases g.2 with⟨k2,_⟩|⟨g3,cap3,cur3,k2,_,k3,_⟩
  ·rw[k2]at e';cases e'
  rw[h2]at hg';rw[k2]at e';injection hg' with hg';injection e' with e';have f:g2=g':=hg';have d:g3=g':=e';subst f;subst d;rw[h3]at k3;injection k3 with k3;injection k3 with _ k3;exact ht k3
 have h2:=((h.good j hj).lt w (h.ok j hj) g' e').2;omega
end
end
end Go.Proofs.YtbgkcehffiogcabGreatDoor
