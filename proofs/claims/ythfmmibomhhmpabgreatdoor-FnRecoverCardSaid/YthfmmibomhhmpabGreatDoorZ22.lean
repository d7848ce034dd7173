/- Lemmas (@packed). -/
import Derived.Test.YthfmmibomhhmpabGreatDoorZ21
namespace Go.Proofs.YthfmmibomhhmpabGreatDoor
open Go.RowKit Go.Proofs.Tryz
set_option linter.all false
set_option maxHeartbeats 8000000
set_option maxRecDepth 100000
variable(l:List UInt8)(h:aQ)(aA aB a b aE aF aD aG:Int)(p:OA)(n c:Nat)(q:OA)(m c2:Nat)(e:Int)(t:List UInt8)(w:World)
theorem aDg (hs:l.length≤1048576)(hE:Env w):U 56 #[str l] w (aNd ((bH l).getD eR) (bH l).isSome w):=by
 have HS:Hid (∀w,Env w→U 98 #[str l,.string ⟨#[59]⟩] w (aYx rR 1 (aL 59 l).length (eY (aL 59 l)) w)):=
  fun w hE=>tR ⟨l.toArray⟩ 59 w (by simp only[ByteArray.size,List.size_toArray];omega) hE
 have a8:=eK 59 l;have HL:Hid (∀p∈aL 59 l,p.length<4294967281):=fun p hp=>Nat.lt_of_le_of_lt (a8.1 p hp) (by omega)
 have HE:=xQ hE;have ew:=a8.2;have dq:0<(aL 59 l).length:=List.length_pos_iff.2 (eX 59 l);clear a8 hE;go_enter func56,ntmps56;go_wp2_with fail;refine(HS _ (HE.out.ext xE)).mono ?_;rintro e w1 ⟨v,rfl,bt,h1⟩;have j:=xQ (show w1.ownsRow (w.heap.size+1) rR 1 v (aL 59 l).length (eY (aL 59 l)) by simpa using bt);have dj:Ext w w1:=xE;have a:Hid (Blk w1 w mN #[(),(),((),()),(),(),(),(),(),(),((),())]):=(Blk.new w _ _).ext h1;have fu:(w:Nat)<w1:=a.out.lt;have ai:=xQ dj;clear bt h1 dj;obtain⟨gr,cr,rfl⟩:=aWb j.out dq;generalize di:(aL 59 l).length=R at*;have av:=xQ di;clear di;have X1:=xQ (Ext.refl w1);by_cases hR3:R<4
 ·have aj:Hid (bH l=none):=qG (by unfold eF;rw[av.out];simp;omega);have dh:(R:Int)<4:=by omega
  obtain⟨z0,m,z1,o,z2,r,z3,aa,z4,ab,z5,ad,z6,ae,z7,af,z8,ag,z9,ah⟩:=(a.out.ext (Ext.refl w1)).tenf;have ao:(w:Nat)<w1:=(a.out.ext (Ext.refl w1)).lt;go_wp2;generalize c:World.setCell _ _ _=w9;obtain⟨Y9,g,X9⟩:=(a.out.ext (Ext.refl w1)).putx (ai.out.trans (Ext.refl w1)) c;clear c g z0 z1 z2 z3 z4 z5 z6 z7 z8 z9 m o r aa ab ad ae af ag ah;obtain⟨y0,y1,y2,y3,y4,y5,y6,y7,y8,y9⟩:=Y9.ten;exact aYw (v:= .tuple #[.agg #[(),(),((),()),(),(),(),(),(),(),((),())],.bool false]) (fX aj.out X9)
 have dh: ¬(R:Int)<4:=by omega
 obtain⟨p0,bn⟩: ∃q,(aL 59 l)[0]? =some q:=⟨_,aW0 (by rw[av.out];omega)⟩
 have d4:=xQ bn;have ca:Hid (gK (aL 59 l) 0=p0):=lM bn;have es:p0.length<4294967281:=HL p0 (aW1 bn);clear bn;obtain⟨p1,bo⟩: ∃q,(aL 59 l)[1]? =some q:=⟨_,aW0 (by rw[av.out];omega)⟩
 have d5:=xQ bo;have cb:Hid (gK (aL 59 l) 1=p1):=lM bo;have et:p1.length<4294967281:=HL p1 (aW1 bo);clear bo;obtain⟨p2,bp⟩: ∃q,(aL 59 l)[2]? =some q:=⟨_,aW0 (by rw[av.out];omega)⟩
 have d6:=xQ bp;have cc:Hid (gK (aL 59 l) 2=p2):=lM bp;have eu:p2.length<4294967281:=HL p2 (aW1 bp);clear bp;obtain⟨p3,bq⟩: ∃q,(aL 59 l)[3]? =some q:=⟨_,aW0 (by rw[av.out];omega)⟩
 have d7:=xQ bq;have cd:Hid (gK (aL 59 l) 3=p3):=lM bq;have ev:p3.length<4294967281:=HL p3 (aW1 bq);clear bq;obtain⟨W,D,xs,b0,H0,bu⟩: ∃(W D:Int) (xs:List Int) (b:Bool),Hid ((dE p0).getD (0,0,[])=(W,D,xs))∧Hid ((dE p0).isSome=b):=⟨_,_,_,_,rfl,rfl⟩
 have c6:Hid (∀w,Env w→U 99 #[str p0] w fun e w'=> ∃p n cap,n=xs.length∧e= .returned (.tuple #[aH W D p n cap,.bool b0])∧w'.ownsRow w TI 1 (.slice p n cap) n (ivs xs)∧Ext w w'):=by intro w hE;have h:=aGg p0 w es hE;unfold qK at h;rw[H0.out,bu.out]at h;exact h
 obtain⟨y1,b1,N1,be⟩: ∃(y:List Int) (b:Bool),Hid ((bR 4 p1).getD []=y)∧Hid ((bR 4 p1).isSome=b):=⟨_,_,rfl,rfl⟩
 have cy:Hid (∀w,Env w→U 100 #[str p1,I 4] w fun e w'=> ∃p n cap,n=y1.length∧e= .returned (.tuple #[.slice p n cap,.bool b1])∧w'.ownsRow w TI 1 (.slice p n cap) n (ivs y1)∧Ext w w'):=by intro w hE;have h:=xK p1 4 w (by omega) (by omega) et hE;unfold uO at h;rw[N1.out,be.out]at h;exact h
 obtain⟨y2,b2,N2,bf⟩: ∃(y:List Int) (b:Bool),Hid ((bR 1 p2).getD []=y)∧Hid ((bR 1 p2).isSome=b):=⟨_,_,rfl,rfl⟩
 have cz:Hid (∀w,Env w→U 100 #[str p2,I 1] w fun e w'=> ∃p n cap,n=y2.length∧e= .returned (.tuple #[.slice p n cap,.bool b2])∧w'.ownsRow w TI 1 (.slice p n cap) n (ivs y2)∧Ext w w'):=by intro w hE;have h:=xK p2 1 w (by omega) (by omega) eu hE;unfold uO at h;rw[N2.out,bf.out]at h;exact h
 obtain⟨y3,b3,N3,bg⟩: ∃(y:List Int) (b:Bool),Hid ((bR 1 p3).getD []=y)∧Hid ((bR 1 p3).isSome=b):=⟨_,_,rfl,rfl⟩
 have c0:Hid (∀w,Env w→U 100 #[str p3,I 1] w fun e w'=> ∃p n cap,n=y3.length∧e= .returned (.tuple #[.slice p n cap,.bool b3])∧w'.ownsRow w TI 1 (.slice p n cap) n (ivs y3)∧Ext w w'):=by intro w hE;have h:=xK p3 1 w (by omega) (by omega) ev hE;unfold uO at h;rw[N3.out,bg.out]at h;exact h
 have au:gr<w1:=(j.out.lt gr rfl).2;have e0:w1.cell? ⟨gr,0,none⟩=some (str p0):=aY j.out 0 (by omega) _ d4.out;go_wp2_with fail;refine(c6 _ (HE.out.ext (ai.out.trans xE))).mono ?_;rintro e w2 ⟨p,n,cap,dn,rfl,oh,cn⟩;have eb:=xQ dn;clear dn;have X2:=xQ (show Ext w1 w2 from xE);have ed:=xQ (bF oh (show w1.heap.size≤_ by simp));have z2:(w1:Nat)≤w2:=X2.out.sz;clear oh cn e0;have ff:gr<w2:=aVy au X2.out.sz;have e1:w2.cell? ⟨gr,1,none⟩=some (str p1):=aY (aM j.out X2.out) 1 (by omega) _ d5.out;go_wp2_with fail;refine(cy (w2.alloc (.cells #[W,D,.slice p n cap] nH)) (HE.out.ext (ai.out.trans (X2.out.trans ((Ext.refl _).alloc _))))).mono ?_;rintro e w3 ⟨t1,n1,c1,a9,rfl,dt,dr⟩;have c8:=xQ a9;clear a9;have cu:=xQ ((Blk.new w2 nH #[W,D,.slice p n cap]).ext dr);have aw:Ext w2 w3:=xE;have X3:=xQ (X2.out.trans aw);have dc:=xQ (bF dt (show w1.heap.size≤_ by first|(simp;omega)|omega));have ee:=xQ (aM ed aw);have z3:(w2:Nat)≤w3:=aw.sz;clear dr aw dt e1;have fj:(w2:Nat)<w3:=cu.out.lt;have fg:gr<w3:=aVy au X3.out.sz;have e2:w3.cell? ⟨gr,2,none⟩=some (str p2):=aY (aM j.out X3.out) 2 (by omega) _ d6.out;go_wp2_with fail;refine(cz w3 (HE.out.ext (ai.out.trans (X3.out.trans (Ext.refl _))))).mono ?_;rintro e w4 ⟨t2,n2,c2,ba,rfl,du,cn⟩;have c9:=xQ ba;clear ba;have ax:Ext w3 w4:=xE;have dx:=xQ (cu.out.ext ax);have dd:=xQ (aM dc ax);have X4:=xQ (X3.out.trans ax);have de:=xQ (bF du (show w1.heap.size≤_ by first|(simp;omega)|omega));have ef:=xQ (aM ee ax);have z4:(w3:Nat)≤w4:=ax.sz;clear cn ax du e2;have fh:gr<w4:=aVy au X4.out.sz;have e3:w4.cell? ⟨gr,3,none⟩=some (str p3):=aY (aM j.out X4.out) 3 (by omega) _ d7.out;go_wp2_with fail;refine(c0 w4 (HE.out.ext (ai.out.trans (X4.out.trans (Ext.refl _))))).mono ?_;rintro e w5 ⟨t3,n3,c3,bb,rfl,dv,ez⟩;have da:=xQ bb;clear bb;have ap:Ext w4 w5:=xE
 have cw:=xQ (dx.out.ext ap);have am:=xQ (aM dd ap);have aq:=xQ (aM de ap);have X5:=xQ (X4.out.trans ap);have ar:=xQ (bF dv (show w1.heap.size≤_ by first|(simp;omega)|omega));have eg:=xQ (aM ef ap);have z5:(w4:Nat)≤w5:=ap.sz;clear ez ap dv e3;have fk:(w2:Nat)<w5:=cw.out.lt;cases b0 with
 |false=>have aj:Hid (bH l=none):=qG (xT (.inl (by rw[ca.out,bu.out])));obtain⟨z0,m,z1,o,z2,r,z3,aa,z4,ab,z5,ad,z6,ae,z7,af,z8,ag,z9,ah⟩:=(a.out.ext X5.out).tenf;have ao:(w:Nat)<w5:=(a.out.ext X5.out).lt;go_wp2;generalize c:World.setCell _ _ _=w9;obtain⟨Y9,g,X9⟩:=(a.out.ext X5.out).putx (ai.out.trans X5.out) c;clear c g z0 z1 z2 z3 z4 z5 z6 z7 z8 z9 m o r aa ab ad ae af ag ah;obtain⟨y0,y1,y2,y3,y4,y5,y6,y7,y8,y9⟩:=Y9.ten;exact aYw (v:= .tuple #[.agg #[(),(),((),()),(),(),(),(),(),(),((),())],.bool false]) (fX aj.out X9)
 |true=>
  cases b1 with
  |false=>have aj:Hid (bH l=none):=qG (xT (.inr (.inl (by rw[cb.out,be.out]))));obtain⟨z0,m,z1,o,z2,r,z3,aa,z4,ab,z5,ad,z6,ae,z7,af,z8,ag,z9,ah⟩:=(a.out.ext X5.out).tenf;have ao:(w:Nat)<w5:=(a.out.ext X5.out).lt;go_wp2;generalize c:World.setCell _ _ _=w9;obtain⟨Y9,g,X9⟩:=(a.out.ext X5.out).putx (ai.out.trans X5.out) c;clear c g z0 z1 z2 z3 z4 z5 z6 z7 z8 z9 m o r aa ab ad ae af ag ah;obtain⟨y0,y1,y2,y3,y4,y5,y6,y7,y8,y9⟩:=Y9.ten;exact aYw (v:= .tuple #[.agg #[(),(),((),()),(),(),(),(),(),(),((),())],.bool false]) (fX aj.out X9)
  |true=>
   cases b2 with
   |false=>have aj:Hid (bH l=none):=qG (xT (.inr (.inr (.inl (by rw[cc.out,bf.out])))));obtain⟨z0,m,z1,o,z2,r,z3,aa,z4,ab,z5,ad,z6,ae,z7,af,z8,ag,z9,ah⟩:=(a.out.ext X5.out).tenf;have ao:(w:Nat)<w5:=(a.out.ext X5.out).lt;go_wp2;generalize c:World.setCell _ _ _=w9;obtain⟨Y9,g,X9⟩:=(a.out.ext X5.out).putx (ai.out.trans X5.out) c;clear c g z0 z1 z2 z3 z4 z5 z6 z7 z8 z9 m o r aa ab ad ae af ag ah;obtain⟨y0,y1,y2,y3,y4,y5,y6,y7,y8,y9⟩:=Y9.ten;exact aYw (v:= .tuple #[.agg #[(),(),((),()),(),(),(),(),(),(),((),())],.bool false]) (fX aj.out X9)
   |true=>
    cases b3 with
    |false=>have aj:Hid (bH l=none):=qG (xT (.inr (.inr (.inr (by rw[cd.out,bg.out])))));obtain⟨z0,m,z1,o,z2,r,z3,aa,z4,ab,z5,ad,z6,ae,z7,af,z8,ag,z9,ah⟩:=(a.out.ext X5.out).tenf;have ao:(w:Nat)<w5:=(a.out.ext X5.out).lt;go_wp2;generalize c:World.setCell _ _ _=w9;obtain⟨Y9,g,X9⟩:=(a.out.ext X5.out).putx (ai.out.trans X5.out) c;clear c g z0 z1 z2 z3 z4 z5 z6 z7 z8 z9 m o r aa ab ad ae af ag ah;obtain⟨y0,y1,y2,y3,y4,y5,y6,y7,y8,y9⟩:=Y9.ten;exact aYw (v:= .tuple #[.agg #[(),(),((),()),(),(),(),(),(),(),((),())],.bool false]) (fX aj.out X9)
    |true=>
     obtain⟨o0,dp⟩:=Option.isSome_iff_exists.1 bu.out;have d1:=xQ dp;obtain⟨fc,bj⟩:=Option.isSome_iff_exists.1 be.out;obtain⟨fd,bl⟩:=Option.isSome_iff_exists.1 bf.out;obtain⟨fe,bm⟩:=Option.isSome_iff_exists.1 bg.out;have co:fc=y1:=by have:=N1.out;rw[bj]at this;exact this
     have e5:fd=y2:=by have:=N2.out;rw[bl]at this;exact this
     have aw:fe=y3:=by have:=N3.out;rw[bm]at this;exact this
     subst co;subst e5;subst aw;have q2:=aI6 bl;have q3:=aI6 bm;obtain⟨f,s,pr,cp,q1⟩:=uB (aI9 bj);subst q1;subst q2;subst q3;have c5:=xQ bj;have d2:=xQ bl;have d3:=xQ bm;obtain⟨ck,cj⟩: ∃x,fP p2=x:=⟨_,rfl⟩
     obtain⟨bk,ci⟩: ∃x,fP p3=x:=⟨_,rfl⟩
     have dz:=xQ cj;have dy:=xQ ci;rw[cj]at aq;rw[ci]at ar;clear dp bj bl bm cj ci N1 be N2 bf N3 bg cy cz c0 c6;have a9:=c8.out;have ba:=c9.out;have bb:=da.out;clear c8 c9 da;simp only[aX0,List.length_nil,aWz]at a9 ba bb;subst a9;subst ba;subst bb;obtain⟨g1,fl,a5⟩:=aWb am (by omega);obtain⟨g2,fm,a6⟩:=aWb aq (by omega);obtain⟨g3,fn,a7⟩:=aWb ar (by omega);injection a5 with a5 _ hg1';injection a6 with a6 _ hg2';injection a7 with a7 _ hg3';subst a5;subst a6;subst a7;subst hg1';subst hg2';subst hg3';have t0:w5.cell? ⟨g1,0,none⟩=some (I f):=cW am.out 0 (by omega) _ rfl;have t1:w5.cell? ⟨g1,1,none⟩=some (I s):=cW am.out 1 (by omega) _ rfl;have t2:w5.cell? ⟨g1,2,none⟩=some (I pr):=cW am.out 2 (by omega) _ rfl;have t3:w5.cell? ⟨g1,3,none⟩=some (I cp):=cW am.out 3 (by omega) _ rfl;have t4:w5.cell? ⟨g2,0,none⟩=some (I ck):=cW aq.out 0 (by omega) _ rfl;have t5:w5.cell? ⟨g3,0,none⟩=some (I bk):=cW ar.out 0 (by omega) _ rfl;obtain⟨v0,v1,v2⟩:=cw.out.tri;have a5:=(am.out.lt g1 rfl).2;have a6:=(aq.out.lt g2 rfl).2;have a7:=(ar.out.lt g3 rfl).2;have fs:R≤cr:=(Sl.own j.out).le;go_wp2;go_region_held3 (fun w'=>w'.cell? ⟨g1,0,none⟩=some (I f)∧w'.cell? ⟨g1,1,none⟩=some (I s)∧w'.cell? ⟨g1,2,none⟩=some (I pr)∧w'.cell? ⟨g1,3,none⟩=some (I cp)∧w'.cell? ⟨g2,0,none⟩=some (I ck)∧w'.cell? ⟨g3,0,none⟩=some (I bk)∧w'.cell? ⟨w2,0,none⟩=some (I W)∧w'.cell? ⟨w2,1,none⟩=some (I D)∧w'.cell? ⟨w2,2,none⟩=some (.slice p n cap)) (first|(refine⟨?_,?_,?_,?_,?_,?_,?_,?_,?_⟩<;>assumption)|go_keep) (fail);generalize cm:World.drew _=w6;have B6:Hid (Blk w6 w5 mN #[W,D,.slice p n cap,f,s,pr,cp,ck,bk,((),())]):=by show Blk _ _ _ _;rw[←cm];exact(Blk.new _ _ _).ext (Ext.drew (Ext.refl _))
     have X6:Ext w5 w6:=by rw[←cm];exact((Ext.refl w5).alloc _).drew
     clear cm t0 t1 t2 t3 t4 t5 v0 v1 v2 a5 a6 a7;have ea:=xQ X6;have z6:(w5:Nat)<w6:=B6.out.lt;obtain⟨N,rfl⟩: ∃N,R=N+4:=⟨R-4,by omega⟩
     obtain⟨C,rfl⟩: ∃C,cr=C+4:=⟨cr-4,by omega⟩
     have fp:N≤C:=by omega
     go_wp2
     all_goals
      have ay:Hid ((aL 59 l).length=N+4):=av.out;go_loopw [91] (fun i wr=> ∃(k:Nat) (q:OA) (d:Nat),k≤N∧i=I k∧Ext w5 wr∧Blk wr w5 mN #[W,D,.slice p n cap,f,s,pr,cp,ck,bk,.slice q k d]∧wr.ownsRow (w5.heap.size+1) uV 4 (.slice q k d) k ((eD (aL 59 l) k).flatMap aC)∧ ∀q∈((aL 59 l).drop 4).take k,(bR 4 q).isSome=true) (fun i _=>N-(intOf i).toNat)
      case atStart=>exact⟨0,none,0,aW6 _,rfl,ea.out,B6.out,aW9 _ _ _ _,by simp⟩
      case round=>
       obtain⟨k,q,d,hk,rfl,dg,hB,hO,dk⟩:=hrel;have XR:=xQ dg;have BR:=xQ hB;have OR:=xQ hO;have HF:=xQ dk;have fv:(w5:Nat)<wr:=hB.lt;clear dg hB hO dk;by_cases hlt:k<N
       ·first
         |(exfalso;omega)
         |(skip
           obtain⟨x,hx⟩: ∃q,(aL 59 l)[4+k]? =some q:=⟨_,aW0 (by rw[ay.out];omega)⟩
           have bw:=xQ hx;have e4:x.length<4294967281:=HL x (aW1 hx);have cf:=xQ (X5.out.trans XR.out);have e1:wr.cell? ⟨gr,4+k,none⟩=some (str x):=aY (aM j.out cf.out) (4+k) (by omega) _ hx;have fi:gr<wr:=aVy au cf.out.sz;clear hx;have i1:=aYp k;have i2:=aYq k N;obtain⟨yv,bv,NV,bh⟩: ∃(y:List Int) (b:Bool),Hid ((bR 4 x).getD []=y)∧Hid ((bR 4 x).isSome=b):=⟨_,_,rfl,rfl⟩
           have c4:Hid (∀w,Env w→U 100 #[str x,I 4] w fun e w'=> ∃p n cap,n=yv.length∧e= .returned (.tuple #[.slice p n cap,.bool bv])∧w'.ownsRow w TI 1 (.slice p n cap) n (ivs yv)∧Ext w w'):=by intro w hE;have h:=xK x 4 w (by omega) (by omega) e4 hE;unfold uO at h;rw[NV.out,bh.out]at h;exact h
           go_wp2_with fail;refine(c4 wr (HE.out.ext (ai.out.trans cf.out))).mono ?_;rintro e w7 ⟨tv,nv,cv,bc,rfl,dw,br⟩;have db:=xQ bc;have X7:=xQ (XR.out.trans br);have B7:=xQ (BR.out.ext br);have O7:=xQ (aM OR br);have ak:=xQ (bF dw (show w5.heap.size+1≤_ by omega));have e6:(w5:Nat)<w7:=B7.out.lt;clear bc br dw e1;cases bv with
           |false=>have aj:Hid (bH l=none):=qG (aPb bw (by have:=bh.out;cases hq:bR 4 x with|none=>rfl|some z=>rw[hq]at this;simp at this));have an:=xQ (X5.out.trans X7.out);obtain⟨z0,m,z1,o,z2,r,z3,aa,z4,ab,z5,ad,z6,ae,z7,af,z8,ag,z9,ah⟩:=(a.out.ext an.out).tenf;have ao:(w:Nat)<w7:=(a.out.ext an.out).lt;go_wp2;generalize c:World.setCell _ _ _=w9;obtain⟨Y9,g,X9⟩:=(a.out.ext an.out).putx (ai.out.trans an.out) c;clear c g z0 z1 z2 z3 z4 z5 z6 z7 z8 z9 m o r aa ab ad ae af ag ah;obtain⟨y0,y1,y2,y3,y4,y5,y6,y7,y8,y9⟩:=Y9.ten;exact aYw (v:= .tuple #[.agg #[(),(),((),()),(),(),(),(),(),(),((),())],.bool false]) (fX aj.out X9)
           |true=>
            obtain⟨yy,bs⟩:=Option.isSome_iff_exists.1 bh.out;have co:yy=yv:=by have:=NV.out;rw[bs]at this;exact this
            subst co;obtain⟨a0,a1,a2,a3,q1⟩:=uB (aI9 bs);subst q1;have c7:=xQ bs;have bc:=db.out;clear bs db NV bh c4;simp only[aX0,List.length_nil,aWz]at bc;subst bc;obtain⟨gv,fo,bi⟩:=aWb ak (by omega);injection bi with bi _ hgv';subst bi;subst hgv';have t0:w7.cell? ⟨gv,0,none⟩=some (I a0):=cW ak.out 0 (by omega) _ rfl;have t1:w7.cell? ⟨gv,1,none⟩=some (I a1):=cW ak.out 1 (by omega) _ rfl;have t2:w7.cell? ⟨gv,2,none⟩=some (I a2):=cW ak.out 2 (by omega) _ rfl;have t3:w7.cell? ⟨gv,3,none⟩=some (I a3):=cW ak.out 3 (by omega) _ rfl;have v9:=B7.out.cl 9;have fa:=B7.out.frozen 9;have bi:=(ak.out.lt gv rfl).2;have fq: ¬gv=w5.heap.size:=by have:=(ak.out.lt gv rfl).1;omega
            have fr:k≤1048577:=by omega
            go_wp2;refine rL (gl [gEq (.pointer (some ⟨w5,9,none⟩)),gEq (.slice q k d),gEq (.slice (some ⟨gv,0,none⟩) 4 cv),gEq (.pointer (some ⟨gv,0,none⟩)),gEq a0,gEq (.slice (some ⟨gv,0,none⟩) 4 cv),gEq (.pointer (some ⟨gv,1,none⟩)),gEq a1,gEq (.slice (some ⟨gv,0,none⟩) 4 cv),gEq (.pointer (some ⟨gv,2,none⟩)),gEq a2,gEq (.slice (some ⟨gv,0,none⟩) 4 cv),gEq (.pointer (some ⟨gv,3,none⟩)),gEq a3,gEq (.agg #[a1,a2,a3]),gEq (.agg #[a0,a1,a2,a3]),aDn (0) uV #[a0,a1,a2,a3] 1]) 17 20 [(0,some 103),(1,some 104),(2,some 105),(3,some 106),(4,some 107),(5,some 108),(6,some 109),(7,some 110),(8,some 111),(9,some 112),(10,some 113),(11,some 114),(12,some 115),(13,some 116),(14,some 117),(15,some 118),(16,some 119)] ?steps ?fin
            case steps=>
             refine sS0 [] ?_;refine sC [(0,some 103)] rfl (fun wi hx=> ?_) ?_
             ·intro v0 h0 K hK;obtain rfl:=h0;have hX:Ext w7 wi:=xE;have v9:=(B7.out.ext hX).cl 9;go_simp;exact hK _ _ ⟨.slice q k d,rfl,rfl,Ext.refl _⟩
             refine sS0 [] (sS1 [(2,some 105)] ?_);refine sC [(3,some 106)] rfl (fun wi hx=> ?_) ?_
             ·intro v3 h3 K hK;obtain rfl:=h3;have hX:Ext w7 wi:=xE;have t0:wi.cell? ⟨gv,0,none⟩=some (I a0):=cW (aM ak hX) 0 (by omega) _ rfl;go_simp;exact hK _ _ ⟨I a0,rfl,rfl,Ext.refl _⟩
             refine sS0 [] (sS1 [(5,some 108)] ?_);refine sC [(6,some 109)] rfl (fun wi hx=> ?_) ?_
             ·intro v6 h6 K hK;obtain rfl:=h6;have hX:Ext w7 wi:=xE;have t0:wi.cell? ⟨gv,1,none⟩=some (I a1):=cW (aM ak hX) 1 (by omega) _ rfl;go_simp;exact hK _ _ ⟨I a1,rfl,rfl,Ext.refl _⟩
             refine sS0 [] (sS1 [(8,some 111)] ?_);refine sC [(9,some 112)] rfl (fun wi hx=> ?_) ?_
             ·intro v9 h9 K hK;obtain rfl:=h9;have hX:Ext w7 wi:=xE;have t0:wi.cell? ⟨gv,2,none⟩=some (I a2):=cW (aM ak hX) 2 (by omega) _ rfl;go_simp;exact hK _ _ ⟨I a2,rfl,rfl,Ext.refl _⟩
             refine sS0 [] (sS1 [(11,some 114)] ?_);refine sC [(12,some 115)] rfl (fun wi hx=> ?_) ?_
             ·intro e8 cg K hK;obtain rfl:=cg;have hX:Ext w7 wi:=xE;have t0:wi.cell? ⟨gv,3,none⟩=some (I a3):=cW (aM ak hX) 3 (by omega) _ rfl;go_simp;exact hK _ _ ⟨I a3,rfl,rfl,Ext.refl _⟩
             refine sS3 [(7,some 110),(10,some 113),(13,some 116)] (sS2 [(4,some 107),(14,some 117)] ?_);refine sC [(15,some 118)] rfl (fun wi hx=> ?_) StepsL.nil
             ·intro e9 ch K hK;obtain rfl:=ch;go_simp;exact hK _ _ ⟨.slice (some ⟨wi,0,none⟩) 1 1,rfl,⟨wi.heap.size,rfl,aW6 _,Blk.new _ _ _⟩,(Ext.refl _).alloc _⟩
            case fin=>
             intro wi hx v0 h0 v1 h1 v2 h2 v3 h3 v4 h4 v5 h5 v6 h6 v7 h7 v8 h8 v9 h9 fw ek fx el e8 cg fy em fz en e9 ch f0 eo;subst h0 h1 h2 h3 h4 h5 h6 h7 h8 h9;obtain rfl:=ek;obtain rfl:=el;obtain rfl:=cg;obtain rfl:=em;obtain rfl:=en;obtain rfl:=ch;obtain⟨ej,rfl,dl,ct⟩:=eo;have hX:Ext w7 wi:=xE;have XF:Ext w5 wi:=X7.out.trans hX;have BF:=B7.out.ext hX;have OF:=aM O7 hX;have df:=aM ak hX;clear hX hx dl;go_frame;refine wpAny_ready (rs:= [17]) (by kernel_rfl) (by simp) ?_;refine AllReady.cons rfl (fun K hK=> ?_) AllReady.nil;refine gG _ aUj rfl (.tmp 104) (.tmp 119) rfl (w5.heap.size+1) (.slice q k d) k _ rfl OF (some ⟨ej,0,none⟩) 1 1 (aC (a0,a1,a2,a3)) rfl (Sl.blkS ct) (aMk _) (by omega) (by have:=BF.lt;omega) (fun p2 cap2 w8 hown8 hgrow8=>hK _ _ ?_);clear hK K;obtain⟨X8,B8⟩:=aCs XF BF (by decide) OF (by omega) hgrow8;have ei:=aCr OF hgrow8 df (by decide);clear hgrow8 XF BF OF df ct;have x9:=B8.cl 9;have fb:=B8.frozen 9;have e7:(w5:Nat)<w8:=B8.lt;try go_frame
             refine wpAny_ready (rs:= [18]) (by kernel_rfl) (by simp) ?_;refine AllReady.cons rfl (fun K hK=> ?_) AllReady.nil;go_simp;refine hK _ _ ?_;clear hK K;refine wpAny_ready (rs:= [19]) (by kernel_rfl) (by simp) ?_;refine AllReady.cons rfl (fun K hK=> ?_) AllReady.nil;go_simp;refine hK _ _ ?_;clear hK K;refine wpAny_done (by kernel_rfl) ?_ _;have cx:Hid (∀q∈((aL 59 l).drop 4).take (k+1),(bR 4 q).isSome=true):=by
              have e:((aL 59 l).drop 4)[k]? =some x:=by rw[List.getElem?_drop];exact bw.out
              rw[xQ (aX e)];intro y hy;rcases aWh.1 hy with h|h
              ·exact HF y h
              obtain rfl:y=x:=by simpa using h
              rw[c7.out];rfl
             have d9:Hid (eD (aL 59 l) (k+1)=eD (aL 59 l) k++ [(a0,a1,a2,a3)]):=by show _=_;rw[uW bw.out,(nV c7.out).1];rfl
             have B9:=xQ (show Blk (w8.setCell ⟨w5,9,none⟩ (.slice p2 (k+1) cap2)) w5 mN #[W,D,.slice p n cap,f,s,pr,cp,ck,bk,.slice p2 (k+1) cap2] by have:=B8.set 9 (.slice p2 (k+1) cap2);simpa using this)
             have O9:=xQ (show(w8.setCell ⟨w5,9,none⟩ (.slice p2 (k+1) cap2)).ownsRow (w5.heap.size+1) uV 4 (.slice p2 (k+1) cap2) (k+1) ((eD (aL 59 l) (k+1)).flatMap aC) by
              rw[d9.out,aX4];have:=jI (i:=9) (u:= .slice p2 (k+1) cap2) B8 hown8 (by decide)
              simpa using this)
             have X9:Ext w5 (w8.setCell ⟨w5,9,none⟩ (.slice p2 (k+1) cap2)):=X8.setCell (aVz _) _;clear hown8 ei B8 X8 t0 t1 t2 t3 v9 fa x9 fb;go_wp2;go_roundw
             case rel=>
              first
               |exact⟨k+1,p2,cap2,by omega,by go_num,X9,B9.out,O9.out,cx.out⟩
               |((repeat apply Exists.intro);refine⟨⟨k+1,p2,cap2,by omega,by go_num,X9,B9.out,O9.out,cx.out⟩,rfl⟩)
             case measure=>simp[intOf];omega)
       obtain rfl:k=N:=by omega
       have HT:Hid (((aL 59 l).drop 4).take k=(aL 59 l).drop 4):=aW4 (by rw[aWt,ay.out];omega);have a4:eF (aL 59 l)=true:=by rw[aSi (by rw[ay.out];omega) (by rw[ca.out];exact d1.out) (by rw[cb.out];exact c5.out) (by rw[cc.out];exact d2.out) (by rw[cd.out];exact d3.out),aWo];have:=HF.out;rwa[HT.out]at this
       have d0:Hid (dG (aL 59 l)=⟨W,D,xs,f,s,pr,cp,ck,bk,eD (aL 59 l) k⟩):=by show _=_;rw[aBo (W:=W) (D:=D) (xs:=xs) ay (by rw[ca.out];exact H0.out) (t:= [f,s,pr,cp]) (by rw[cb.out];exact(nV c5.out).1),cc.out,cd.out,dz.out,dy.out];rfl
       have bd:=xQ (aBi a4);rw[d0.out]at bd;have d8:Hid (k=(eD (aL 59 l) k).length):=(wH ay (aVz _)).symm;clear a4 HF HT;generalize ey:eD (aL 59 l) k=vs at*;clear ey;have ce:=xQ (X5.out.trans XR.out);have bz:=xQ (aM eg XR.out);have HI:Hid (IsHouse wr ⟨W,D,xs,f,s,pr,cp,ck,bk,vs⟩ p n cap q k d):=⟨Sl.own bz.out,Sl.own OR.out⟩
       have HV:Hid (∀(w':World),Ext wr w'→U 12 #[.agg #[W,D,.slice p n cap,f,s,pr,cp,ck,bk,.slice q k d]] w' (Z (.bool (bC ⟨W,D,xs,f,s,pr,cp,ck,bk,vs⟩)) w')):=fun w' hx=>lB ⟨W,D,xs,f,s,pr,cp,ck,bk,vs⟩ p n cap q k d w' (HI.out.ext hx)
       have HT:Hid (∀(w':World),Ext wr w'→Env w'→U 43 #[.agg #[W,D,.slice p n cap,f,s,pr,cp,ck,bk,.slice q k d]] w' (Z (str (bI ⟨W,D,xs,f,s,pr,cp,ck,bk,vs⟩)) w')):=fun w' hx hE=>vH ⟨W,D,xs,f,s,pr,cp,ck,bk,vs⟩ p n cap q k d w' hE (HI.out.ext hx)
       generalize dm:bC ⟨W,D,xs,f,s,pr,cp,ck,bk,vs⟩=ok at*;generalize er:bI ⟨W,D,xs,f,s,pr,cp,ck,bk,vs⟩=t at*;clear dm er;obtain⟨b0,b1,b2,b3,b4,b5,b6,b7,b8,b9⟩:=BR.out.ten;cases ok with
       |false=>
        have aj:Hid (bH l=none):=by show _=_;rw[bd.out];simp
        go_wp2_with fail;refine Ω (HV _ xE) fun w7 h7=>?_
        clear b0 b1 b2 b3 b4 b5 b6 b7 b8 b9;have an:=xQ (ce.out.trans (show Ext wr w7 from xE));clear h7;obtain⟨z0,m,z1,o,z2,r,z3,aa,z4,ab,z5,ad,z6,ae,z7,af,z8,ag,z9,ah⟩:=(a.out.ext an.out).tenf;have ao:(w:Nat)<w7:=(a.out.ext an.out).lt;go_wp2;generalize c:World.setCell _ _ _=w9;obtain⟨Y9,g,X9⟩:=(a.out.ext an.out).putx (ai.out.trans an.out) c;clear c g z0 z1 z2 z3 z4 z5 z6 z7 z8 z9 m o r aa ab ad ae af ag ah;obtain⟨y0,y1,y2,y3,y4,y5,y6,y7,y8,y9⟩:=Y9.ten;exact aYw (v:= .tuple #[.agg #[(),(),((),()),(),(),(),(),(),(),((),())],.bool false]) (fX aj.out X9)
       |true=>
        go_wp2_with fail;refine Ω (HV _ xE) fun w7 h7=>?_
        clear b0 b1 b2 b3 b4 b5 b6 b7 b8 b9;have cq:Ext wr w7:=xE;have B7:=xQ (BR.out.ext cq);have e6:(w5:Nat)<w7:=B7.out.lt;have bx:=xQ cq;clear h7 cq;obtain⟨b0,b1,b2,b3,b4,b5,b6,b7,b8,b9⟩:=B7.out.ten;go_wp2_with fail;refine Ω (HT _ (bx.out.trans xE) (HE.out.ext (ai.out.trans (ce.out.trans (bx.out.trans xE))))) fun w8 h8=>?_
        clear b0 b1 b2 b3 b4 b5 b6 b7 b8 b9;have cs:Ext w7 w8:=xE;have B8:=xQ (B7.out.ext cs);have e7:(w5:Nat)<w8:=B8.out.lt;have az:=xQ (bx.out.trans cs);have al:=xQ (ce.out.trans az.out);clear h8 cs;by_cases ht:t=l
        ·have ep:(t==l)=true:=by simp[ht]
         have ds:Hid (bH l=some ⟨W,D,xs,f,s,pr,cp,ck,bk,vs⟩):=by show _=_;rw[bd.out];simp[ht]
         clear ht;obtain⟨b0,b1,b2,b3,b4,b5,b6,b7,b8,b9⟩:=B8.out.ten;obtain⟨z0,m,z1,o,z2,r,z3,aa,z4,ab,z5,ad,z6,ae,z7,af,z8,ag,z9,ah⟩:=(a.out.ext al.out).tenf;have ao:(w:Nat)<w8:=(a.out.ext al.out).lt;have ft: ¬w.heap.size=w5.heap.size:=by have:=X5.out.sz;omega
         go_wp2;generalize c:World.setCell _ _ _=w9;obtain⟨Y9,g,X9⟩:=(a.out.ext al.out).putx (ai.out.trans al.out) c;have ec:w9.ownsRow w TI 1 (.slice p n cap) n (ivs xs):=bF ((aM bz az.out).kept g (.inr (iW (aM bz az.out) (a.out.ext al.out) (by decide)))) (by omega);have eh:w9.ownsRow w uV 4 (.slice q k d) k (vs.flatMap aC):=bF ((aM OR az.out).kept g (.inr (iW (aM OR az.out) (a.out.ext al.out) (by decide)))) (by have:=X5.out.sz;omega);clear c g z0 z1 z2 z3 z4 z5 z6 z7 z8 z9 m o r aa ab ad ae af ag ah b0 b1 b2 b3 b4 b5 b6 b7 b8 b9;obtain⟨y0,y1,y2,y3,y4,y5,y6,y7,y8,y9⟩:=Y9.ten;exact aYw (v:= .tuple #[.agg #[W,D,.slice p n cap,f,s,pr,cp,ck,bk,.slice q k d],.bool true]) (aBd ds.out eb d8.out ec eh X9)
        have ep:(t==l)=false:=by simp[ht]
        have aj:Hid (bH l=none):=by show _=_;rw[bd.out];simp[ht]
        clear ht;obtain⟨z0,m,z1,o,z2,r,z3,aa,z4,ab,z5,ad,z6,ae,z7,af,z8,ag,z9,ah⟩:=(a.out.ext al.out).tenf;have ao:(w:Nat)<w8:=(a.out.ext al.out).lt;go_wp2;generalize c:World.setCell _ _ _=w9;obtain⟨Y9,g,X9⟩:=(a.out.ext al.out).putx (ai.out.trans al.out) c;clear c g z0 z1 z2 z3 z4 z5 z6 z7 z8 z9 m o r aa ab ad ae af ag ah;obtain⟨y0,y1,y2,y3,y4,y5,y6,y7,y8,y9⟩:=Y9.ten;exact aYw (v:= .tuple #[.agg #[(),(),((),()),(),(),(),(),(),(),((),())],.bool false]) (fX aj.out X9)
theorem aCy (hs:l.length≤1048576):U 58 #[str l] w (aNd ((bH l).getD eR) (bH l).isSome w):=by
 have HS:Hid (∀w,U 57 #[str l,.int .u8 59] w (aYx rR 1 (aL 59 l).length (eY (aL 59 l)) w)):=
  fun w=>mI ⟨l.toArray⟩ 59 59 rfl w (by simp only[ByteArray.size,List.size_toArray];omega)
 have a5:=eK 59 l;have HL:Hid (∀p∈aL 59 l,p.length≤1048576):=fun p hp=>aW8 (a5.1 p hp) hs
 have ee:=a5.2;have c8:0<(aL 59 l).length:=List.length_pos_iff.2 (eX 59 l);have cn:Hid (∀(q:List UInt8),q.length≤1048576→ ∀w,U 102 #[str q] w (yC q w)):=fun q hq w=>aQh q w (by omega)
 have ct:Hid (∀(q:List UInt8) (x:Int),q.length≤1048576→fP q=x→ ∀w,U 103 #[str q] w (Z (I x) w)):=fun q x hq hx w=>by subst hx;exact aA0 q w (by unfold maxLen;omega)
 clear a5;go_enter func58,ntmps58;go_wp2_with fail;refine(HS _).mono ?_;rintro e w1 ⟨v,rfl,bh,h1⟩;have j:=xQ (show w1.ownsRow (w.heap.size+1) rR 1 v (aL 59 l).length (eY (aL 59 l)) by simpa using bh);have c2:Ext w w1:=by exact .trans (.alloc (.refl _) _) h1
 have c:Hid (Blk w1 w mN #[(),(),((),()),(),(),(),(),(),(),((),())]):=(Blk.new w _ _).ext h1;have e5:(w:Nat)<w1:=c.out.lt;have av:=xQ c2;clear bh h1 c2;obtain⟨gr,cr,rfl⟩:=aWb j.out c8;generalize c0:(aL 59 l).length=R at*;have au:=xQ c0;clear c0;have X1:=xQ (Ext.refl w1);by_cases hR3:R<4
 ·have ao:Hid (bH l=none):=uD (by unfold fM;rw[au.out];simp;omega);have cy:(R:Int)<4:=by omega
  obtain⟨z0,aa,z1,ab,z2,ad,z3,ae,z4,af,z5,ag,z6,ah,z7,ai,z8,aj,z9,ak⟩:=(c.out.ext (Ext.refl w1)).tenf;have a6:(w:Nat)<w1:=(c.out.ext (Ext.refl w1)).lt;go_wp2;generalize g:World.setCell _ _ _=w9;obtain⟨Y9,r,X9⟩:=(c.out.ext (Ext.refl w1)).putx (av.out.trans (Ext.refl w1)) g;clear g r z0 z1 z2 z3 z4 z5 z6 z7 z8 z9 aa ab ad ae af ag ah ai aj ak;have y_:=Y9.ten;exact aYw (v:= .tuple #[.agg #[(),(),((),()),(),(),(),(),(),(),((),())],.bool false]) (fX ao.out X9)
 have cy: ¬(R:Int)<4:=by omega
 obtain⟨p0,bb⟩: ∃q,(aL 59 l)[0]? =some q:=⟨_,aW0 (by rw[au.out];omega)⟩
 have dj:=xQ bb;have bp:Hid (gK (aL 59 l) 0=p0):=lM bb;have ea:p0.length≤1048576:=HL p0 (aW1 bb);clear bb;obtain⟨p1,bc⟩: ∃q,(aL 59 l)[1]? =some q:=⟨_,aW0 (by rw[au.out];omega)⟩
 have dk:=xQ bc;have bq:Hid (gK (aL 59 l) 1=p1):=lM bc;have eb:p1.length≤1048576:=HL p1 (aW1 bc);clear bc;obtain⟨p2,bd⟩: ∃q,(aL 59 l)[2]? =some q:=⟨_,aW0 (by rw[au.out];omega)⟩
 have dl:=xQ bd;have d1:Hid (gK (aL 59 l) 2=p2):=lM bd;have ec:p2.length≤1048576:=HL p2 (aW1 bd);clear bd;obtain⟨p3,be⟩: ∃q,(aL 59 l)[3]? =some q:=⟨_,aW0 (by rw[au.out];omega)⟩
 have dm:=xQ be;have d2:Hid (gK (aL 59 l) 3=p3):=lM be;have ed:p3.length≤1048576:=HL p3 (aW1 be);clear be;obtain⟨W,D,xs,b0,H0,bi⟩: ∃(W D:Int) (xs:List Int) (b:Bool),Hid ((dE p0).getD (0,0,[])=(W,D,xs))∧Hid ((dE p0).isSome=b):=⟨_,_,_,_,rfl,rfl⟩
 have cs:Hid (∀w,U 101 #[str p0] w fun e w'=> ∃p n cap,n=xs.length∧e= .returned (.tuple #[aH W D p n cap,.bool b0])∧w'.ownsRow w TI 1 (.slice p n cap) n (ivs xs)∧Ext w w'):=by intro w;have h:=aFe p0 w ea;unfold qK at h;rw[H0.out,bi.out]at h;exact h
 have bg:gr<w1:=(j.out.lt gr rfl).2;have e0:w1.cell? ⟨gr,0,none⟩=some (str p0):=aY j.out 0 (by omega) _ dj.out;go_wp2_with fail;refine(cs _).mono ?_;rintro e w2 ⟨p,n,cap,c7,rfl,oh,c9⟩;have dv:=xQ c7;clear c7;have X2:=xQ (show Ext w1 w2 by exact c9);have dx:=xQ (bF oh (show w1.heap.size≤_ by simp));have z2:(w1:Nat)≤w2:=X2.out.sz;clear oh c9 e0;have c6:gr<w2:=aVy bg X2.out.sz;have e1:w2.cell? ⟨gr,1,none⟩=some (str p1):=aY (aM j.out X2.out) 1 (by omega) _ dk.out;obtain⟨m4,am⟩: ∃m,(aL 44 p1).length=m:=⟨_,rfl⟩
 have bj:=am;have cm:Hid (∀w,U 102 #[str p1] w fun e w'=> ∃p n cap,n=m4∧e= .returned (.tuple #[.slice p n cap,.bool ((n:Int)==4)])∧w'.ownsRow w TI 1 (.slice p n cap) n (ivs (mA p1))∧Ext w w'):=by intro w;have h:=cn p1 eb w;unfold yC at h;rw[am]at h;exact h
 clear am;go_wp2_with fail;refine(cm (w2.alloc (.cells #[W,D,.slice p n cap] nH))).mono ?_;rintro e w3 ⟨t1,n1,c1,ef,rfl,db,cc⟩;subst ef;have cj:=xQ ((Blk.new w2 nH #[W,D,.slice p n cap]).ext cc);have ce:Ext w2 w3:=by exact .trans (.alloc (.refl _) _) cc
 have X3:=xQ (X2.out.trans ce);have al:=xQ (bF db (show w1.heap.size≤_ by simp;omega));have dy:=xQ (aM dx ce);have z3:(w2:Nat)<w3:=cj.out.lt;clear cc ce db e1;cases b0 with
 |false=>have ao:Hid (bH l=none):=uD (aEt (.inl (by rw[bp.out,bi.out])));obtain⟨z0,aa,z1,ab,z2,ad,z3,ae,z4,af,z5,ag,z6,ah,z7,ai,z8,aj,z9,ak⟩:=(c.out.ext X3.out).tenf;have a6:(w:Nat)<w3:=(c.out.ext X3.out).lt;go_wp2;generalize g:World.setCell _ _ _=w9;obtain⟨Y9,r,X9⟩:=(c.out.ext X3.out).putx (av.out.trans X3.out) g;clear g r z0 z1 z2 z3 z4 z5 z6 z7 z8 z9 aa ab ad ae af ag ah ai aj ak;have y_:=Y9.ten;exact aYw (v:= .tuple #[.agg #[(),(),((),()),(),(),(),(),(),(),((),())],.bool false]) (fX ao.out X9)
 |true=>
  by_cases am:n1=4
  ·subst am;obtain⟨f,s,pr,cp,q1⟩:=uB (show(mA p1).length=4 by simp[mA,bj]);have dn:=xQ q1;obtain⟨ck,bz⟩: ∃x,fP p2=x:=⟨_,rfl⟩
   obtain⟨bk,bx⟩: ∃x,fP p3=x:=⟨_,rfl⟩
   have dh:=xQ bz;have dg:=xQ bx;have ds:=xQ (ct p2 ck ec bz);have dt:=xQ (ct p3 bk ed bx);rw[q1]at al;clear q1 bz bx cs cm;obtain⟨g1,ey,a9⟩:=aWb al (by omega);injection a9 with a9 _ hg1';subst a9;subst hg1';have ev:gr<w3:=aVy c6 (by omega);have a9:=(al.out.lt g1 rfl).2;have i2:(2:Int)<(R:Int):=by omega
   have i3:(3:Int)<(R:Int):=by omega
   go_wp2;refine rL (gl [gEq (.agg #[W,D,.slice p n cap]),gEq (.slice (some ⟨g1,0,none⟩) 4 c1),gEq (.pointer (some ⟨g1,0,none⟩)),gEq f,gEq (.slice (some ⟨g1,0,none⟩) 4 c1),gEq (.pointer (some ⟨g1,1,none⟩)),gEq s,gEq (.slice (some ⟨g1,0,none⟩) 4 c1),gEq (.pointer (some ⟨g1,2,none⟩)),gEq pr,gEq (.slice (some ⟨g1,0,none⟩) 4 c1),gEq (.pointer (some ⟨g1,3,none⟩)),gEq cp,gEq (.agg #[f,s,pr,cp]),gEq (.slice (some ⟨gr,0,none⟩) R cr),gEq (.pointer (some ⟨gr,2,none⟩)),gEq (str p2),gEq ck,gEq (.slice (some ⟨gr,0,none⟩) R cr),gEq (.pointer (some ⟨gr,3,none⟩)),gEq (str p3),gEq bk,gEq (.agg #[W,D,.slice p n cap,f,s,pr,cp,ck,bk,((),())]),aJa w3 mN #[(),(),((),()),(),(),(),(),(),(),((),())]]) 24 25 [(0,some 40),(1,some 41),(2,some 42),(3,some 43),(4,some 44),(5,some 45),(6,some 46),(7,some 47),(8,some 48),(9,some 49),(10,some 50),(11,some 51),(12,some 52),(13,some 53),(14,some 54),(15,some 55),(16,some 56),(17,some 57),(18,some 58),(19,some 59),(20,some 60),(21,some 61),(22,some 62),(23,some 9)] ?steps ?fin
   case steps=>
    refine sC [] rfl (fun wi hx=> ?_) ?_
    ·intro K hK;have hX:=hx.of_drew;obtain⟨v0,v1,v2⟩:=(cj.out.ext hX).tri;go_simp;exact hK _ _ ⟨.agg #[W,D,.slice p n cap],rfl,rfl,Ext.refl _⟩
    refine sS0 [] (sS1 [(1,some 41)] ?_);refine sC [(2,some 42)] rfl (fun wi hx=> ?_) ?_
    ·intro v2 h2 K hK;obtain rfl:=h2;have hX:=hx.of_drew;have t0:wi.cell? ⟨g1,0,none⟩=some (I f):=cW (aM al hX) 0 (by omega) _ rfl;go_simp;exact hK _ _ ⟨I f,rfl,rfl,Ext.refl _⟩
    refine sS0 [] (sS1 [(4,some 44)] ?_);refine sC [(5,some 45)] rfl (fun wi hx=> ?_) ?_
    ·intro v5 h5 K hK;obtain rfl:=h5;have hX:=hx.of_drew;have t0:wi.cell? ⟨g1,1,none⟩=some (I s):=cW (aM al hX) 1 (by omega) _ rfl;go_simp;exact hK _ _ ⟨I s,rfl,rfl,Ext.refl _⟩
    refine sS0 [] (sS1 [(7,some 47)] ?_);refine sC [(8,some 48)] rfl (fun wi hx=> ?_) ?_
    ·intro v8 h8 K hK;obtain rfl:=h8;have hX:=hx.of_drew;have t0:wi.cell? ⟨g1,2,none⟩=some (I pr):=cW (aM al hX) 2 (by omega) _ rfl;go_simp;exact hK _ _ ⟨I pr,rfl,rfl,Ext.refl _⟩
    refine sS0 [] (sS1 [(10,some 50)] ?_);refine sC [(11,some 51)] rfl (fun wi hx=> ?_) ?_
    ·intro dd ax K hK;obtain rfl:=ax;have hX:=hx.of_drew;have t0:wi.cell? ⟨g1,3,none⟩=some (I cp):=cW (aM al hX) 3 (by omega) _ rfl;go_simp;exact hK _ _ ⟨I cp,rfl,rfl,Ext.refl _⟩
    refine sC [(3,some 43),(6,some 46),(9,some 49),(12,some 52)] rfl (fun wi hx=> ?_) ?_
    ·intro v3 h3 v6 h6 v9 h9 cg ap K hK;subst h3 h6 h9;obtain rfl:=ap;go_simp;exact hK _ _ ⟨.agg #[f,s,pr,cp],rfl,rfl,Ext.refl _⟩
    refine sS0 [] (sS1 [(14,some 54)] ?_);refine sC [(15,some 55)] rfl (fun wi hx=> ?_) ?_
    ·intro ch aq K hK;obtain rfl:=aq;have hX:=hx.of_drew;have t0:wi.cell? ⟨gr,2,none⟩=some (str p2):=aY (aM j.out (X3.out.trans hX)) 2 (by omega) _ dl.out;go_simp;exact hK _ _ ⟨str p2,rfl,rfl,Ext.refl _⟩
    refine sC [(16,some 56)] rfl (fun wi hx=> ?_) ?_
    ·intro df az K hK;obtain rfl:=az;go_wp2_with fail;refine Ω (ds _) fun w6 cd=>?_
     go_simp;exact hK _ _ ⟨I ck,rfl,rfl,cd⟩
    refine sS0 [] (sS1 [(18,some 58)] ?_);refine sC [(19,some 59)] rfl (fun wi hx=> ?_) ?_
    ·intro ep bu K hK;obtain rfl:=bu;have hX:=hx.of_drew;have t0:wi.cell? ⟨gr,3,none⟩=some (str p3):=aY (aM j.out (X3.out.trans hX)) 3 (by omega) _ dm.out;go_simp;exact hK _ _ ⟨str p3,rfl,rfl,Ext.refl _⟩
    refine sC [(20,some 60)] rfl (fun wi hx=> ?_) ?_
    ·intro er bv K hK;obtain rfl:=bv;go_wp2_with fail;refine Ω (dt _) fun w6 cd=>?_
     go_simp;exact hK _ _ ⟨I bk,rfl,rfl,cd⟩
    refine sC [(0,some 40),(13,some 53),(17,some 57),(21,some 61)] rfl (fun wi hx=> ?_) ?_
    ·intro v0 h0 de ay eo bt es bw K hK;obtain rfl:=h0;obtain rfl:=ay;obtain rfl:=bt;obtain rfl:=bw;go_simp;exact hK _ _ ⟨.agg #[W,D,.slice p n cap,f,s,pr,cp,ck,bk,((),())],rfl,rfl,Ext.refl _⟩
    refine sC [] rfl (fun wi hx=> ?_) StepsL.nil
    ·intro K hK;go_simp;exact hK _ _ ⟨.pointer (some ⟨wi,0,none⟩),rfl,⟨wi.heap.size,rfl,by have:=hx.sz;simp at this;omega,Blk.new _ _ _⟩,(Ext.refl _).alloc _⟩
   case fin=>
    intro wi hx v0 h0 v1 h1 v2 h2 v3 h3 v4 h4 v5 h5 v6 h6 v7 h7 v8 h8 v9 h9 em br dd ax cg ap de ay en bs ch aq df az eo bt e8 d5 ep bu er bv es bw e9 d6 fa d7;subst h0 h1 h2 h3 h4 h5 h6 h7 h8 h9;obtain rfl:=br;obtain rfl:=ax;obtain rfl:=ap;obtain rfl:=ay;obtain rfl:=bs;obtain rfl:=aq;obtain rfl:=az;obtain rfl:=bt;obtain rfl:=d5;obtain rfl:=bu;obtain rfl:=bv;obtain rfl:=bw;obtain rfl:=d6;obtain⟨a,rfl,c5,a7⟩:=d7;have hX:=hx.of_drew;have ek:a<wi:=a7.lt;obtain⟨z0,aa,z1,ab,z2,ad,z3,ae,z4,af,z5,ag,z6,ah,z7,ai,z8,aj,z9,ak⟩:=a7.tenf;have BN:=(((((((((a7.set 0 (I W)).set 1 (I D)).set 2 (.slice p n cap)).set 3 (I f)).set 4 (I s)).set 5 (I pr)).set 6 (I cp)).set 7 (I ck)).set 8 (I bk)).set 9 (.slice none 0 0);simp only[aWg,aWe,aWf]at BN;refine wpAny_ready (rs:= [24]) (by kernel_rfl) (by simp) ?_;refine AllReady.cons rfl (fun K hK=> ?_) AllReady.nil;go_simp;refine hK _ _ ?_;clear hK K z0 z1 z2 z3 z4 z5 z6 z7 z8 z9 aa ab ad ae af ag ah ai aj ak;generalize cb:World.setCell _ _ _=w6;rw[cb]at BN;have cz:ExtR a wi w6:=by rw[←cb];exact((((((((((ExtR.refl a wi).setCell (p:=⟨a,0,none⟩) (.inl rfl) (I W)).setCell (p:=⟨a,1,none⟩) (.inl rfl) (I D)).setCell (p:=⟨a,2,none⟩) (.inl rfl) (.slice p n cap)).setCell (p:=⟨a,3,none⟩) (.inl rfl) (I f)).setCell (p:=⟨a,4,none⟩) (.inl rfl) (I s)).setCell (p:=⟨a,5,none⟩) (.inl rfl) (I pr)).setCell (p:=⟨a,6,none⟩) (.inl rfl) (I cp)).setCell (p:=⟨a,7,none⟩) (.inl rfl) (I ck)).setCell (p:=⟨a,8,none⟩) (.inl rfl) (I bk)).setCell (p:=⟨a,9,none⟩) (.inl rfl) (.slice none 0 0)
    clear cb;have du:=xQ (ExtR.new hX cz c5);have B6:=xQ BN;have z6:a<w6:=BN.lt;clear BN hX hx a7 cz ek;refine wpAny_done (by kernel_rfl) ?_ _;try go_frame
    obtain⟨N,rfl⟩: ∃N,R=N+4:=⟨R-4,by omega⟩
    have ar:Hid ((aL 59 l).length=N+4):=au.out;go_wp2;go_loopw [10] (fun i wr=> ∃(k:Nat) (q:OA) (d:Nat),k≤N∧i=I ((4+k:Nat))∧Ext w3 wr∧Blk wr a mN #[W,D,.slice p n cap,f,s,pr,cp,ck,bk,.slice q k d]∧wr.ownsRow (a+1) uV 4 (.slice q k d) k ((eD (aL 59 l) k).flatMap aC)∧ ∀q∈((aL 59 l).drop 4).take k,(aL 44 q).length=4) (fun i _=>N+4-(intOf i).toNat)
    case atStart=>exact⟨0,none,0,aW6 _,rfl,du.out,B6.out,aW9 _ _ _ _,by simp⟩
    case round=>
     obtain⟨k,q,d,hk,rfl,cx,hB,hO,c3⟩:=hrel;have XR:=xQ cx;have BR:=xQ hB;have OR:=xQ hO;have HF:=xQ c3;have e7:a<wr:=hB.lt;clear cx hB hO c3;by_cases hlt:k<N
     ·obtain⟨x,hx⟩: ∃q,(aL 59 l)[4+k]? =some q:=⟨_,aW0 (by rw[ar.out];omega)⟩
      have bn:=xQ hx;have ej:x.length≤1048576:=HL x (aW1 hx);have cw:=xQ (X3.out.trans XR.out);have e1:wr.cell? ⟨gr,4+k,none⟩=some (str x):=aY (aM j.out cw.out) (4+k) (by omega) _ hx;have ew:gr<wr:=aVy bg cw.out.sz;clear hx;have i1:(0:Int)≤((4+k:Nat):Int):=by omega
      have i2:((4+k:Nat):Int)<((N+4:Nat):Int):=by omega
      obtain⟨mv,ca⟩: ∃m,(aL 44 x).length=m:=⟨_,rfl⟩
      have bl:=ca;have cq:Hid (∀w,U 102 #[str x] w fun e w'=> ∃p n cap,n=mv∧e= .returned (.tuple #[.slice p n cap,.bool ((n:Int)==4)])∧w'.ownsRow w TI 1 (.slice p n cap) n (ivs (mA x))∧Ext w w'):=by intro w;have h:=cn x ej w;unfold yC at h;rw[ca]at h;exact h
      clear ca;go_wp2_with fail;refine(cq wr).mono ?_;rintro e w7 ⟨tv,nv,cv,eg,rfl,dc,bf⟩;subst eg;have X7:=xQ (XR.out.trans bf);have B7:=xQ (BR.out.ext bf);have O7:=xQ (aM OR bf);have o:=xQ (bF dc (show a+1≤_ by omega));have e6:a<w7:=B7.out.lt;clear bf dc e1;by_cases am:nv=4
      ·subst am;obtain⟨a0,a1,a2,a3,q1⟩:=uB (show(mA x).length=4 by simp[mA,bl]);have dp:=xQ q1;rw[q1]at o;clear q1 cq;obtain⟨gv,ez,ba⟩:=aWb o (by omega);injection ba with ba _ hgv';subst ba;subst hgv';have t0:w7.cell? ⟨gv,0,none⟩=some (I a0):=cW o.out 0 (by omega) _ rfl;have t1:w7.cell? ⟨gv,1,none⟩=some (I a1):=cW o.out 1 (by omega) _ rfl;have t2:w7.cell? ⟨gv,2,none⟩=some (I a2):=cW o.out 2 (by omega) _ rfl;have t3:w7.cell? ⟨gv,3,none⟩=some (I a3):=cW o.out 3 (by omega) _ rfl;have v9:=B7.out.cl 9;have et:=B7.out.frozen 9;have ba:=(o.out.lt gv rfl).2;have e2: ¬gv=a:=by have:=(o.out.lt gv rfl).1;omega
       have e3:k≤1048577:=by omega
       go_wp2;refine rL (gl [gEq (.pointer (some ⟨a,9,none⟩)),gEq (.slice q k d),gEq (.slice (some ⟨gv,0,none⟩) 4 cv),gEq (.pointer (some ⟨gv,0,none⟩)),gEq a0,gEq (.slice (some ⟨gv,0,none⟩) 4 cv),gEq (.pointer (some ⟨gv,1,none⟩)),gEq a1,gEq (.slice (some ⟨gv,0,none⟩) 4 cv),gEq (.pointer (some ⟨gv,2,none⟩)),gEq a2,gEq (.slice (some ⟨gv,0,none⟩) 4 cv),gEq (.pointer (some ⟨gv,3,none⟩)),gEq a3,gEq (.agg #[a1,a2,a3]),gEq (.agg #[a0,a1,a2,a3]),aDn (0) uV #[a0,a1,a2,a3] 1]) 17 20 [(0,some 80),(1,some 81),(2,some 82),(3,some 83),(4,some 84),(5,some 85),(6,some 86),(7,some 87),(8,some 88),(9,some 89),(10,some 90),(11,some 91),(12,some 92),(13,some 93),(14,some 94),(15,some 95),(16,some 96)] ?steps ?fin
       case steps=>
        refine sS0 [] ?_;refine sC [(0,some 80)] rfl (fun wi hx=> ?_) ?_
        ·intro v0 h0 K hK;obtain rfl:=h0;have hX:=hx.of_drew;have v9:=(B7.out.ext hX).cl 9;go_simp;exact hK _ _ ⟨.slice q k d,rfl,rfl,Ext.refl _⟩
        refine sS0 [] (sS1 [(2,some 82)] ?_);refine sC [(3,some 83)] rfl (fun wi hx=> ?_) ?_
        ·intro v3 h3 K hK;obtain rfl:=h3;have hX:=hx.of_drew;have t0:wi.cell? ⟨gv,0,none⟩=some (I a0):=cW (aM o hX) 0 (by omega) _ rfl;go_simp;exact hK _ _ ⟨I a0,rfl,rfl,Ext.refl _⟩
        refine sS0 [] (sS1 [(5,some 85)] ?_);refine sC [(6,some 86)] rfl (fun wi hx=> ?_) ?_
        ·intro v6 h6 K hK;obtain rfl:=h6;have hX:=hx.of_drew;have t0:wi.cell? ⟨gv,1,none⟩=some (I a1):=cW (aM o hX) 1 (by omega) _ rfl;go_simp;exact hK _ _ ⟨I a1,rfl,rfl,Ext.refl _⟩
        refine sS0 [] (sS1 [(8,some 88)] ?_);refine sC [(9,some 89)] rfl (fun wi hx=> ?_) ?_
        ·intro v9 h9 K hK;obtain rfl:=h9;have hX:=hx.of_drew;have t0:wi.cell? ⟨gv,2,none⟩=some (I a2):=cW (aM o hX) 2 (by omega) _ rfl;go_simp;exact hK _ _ ⟨I a2,rfl,rfl,Ext.refl _⟩
        refine sS0 [] (sS1 [(11,some 91)] ?_);refine sC [(12,some 92)] rfl (fun wi hx=> ?_) ?_
        ·intro cg ap K hK;obtain rfl:=ap;have hX:=hx.of_drew;have t0:wi.cell? ⟨gv,3,none⟩=some (I a3):=cW (aM o hX) 3 (by omega) _ rfl;go_simp;exact hK _ _ ⟨I a3,rfl,rfl,Ext.refl _⟩
        refine sS3 [(7,some 87),(10,some 90),(13,some 93)] (sS2 [(4,some 84),(14,some 94)] ?_);refine sC [(15,some 95)] rfl (fun wi hx=> ?_) StepsL.nil
        ·intro ch aq K hK;obtain rfl:=aq;go_simp;exact hK _ _ ⟨.slice (some ⟨wi,0,none⟩) 1 1,rfl,⟨wi.heap.size,rfl,aW6 _,Blk.new _ _ _⟩,(Ext.refl _).alloc _⟩
       case fin=>
        intro wi hx v0 h0 v1 h1 v2 h2 v3 h3 v4 h4 v5 h5 v6 h6 v7 h7 v8 h8 v9 h9 em br dd ax cg ap de ay en bs ch aq df az;subst h0 h1 h2 h3 h4 h5 h6 h7 h8 h9;obtain rfl:=br;obtain rfl:=ax;obtain rfl:=ap;obtain rfl:=ay;obtain rfl:=bs;obtain rfl:=aq;obtain⟨d4,rfl,c4,ci⟩:=az;have hX:=hx.of_drew;have XF:Ext w3 wi:=X7.out.trans hX;have BF:=B7.out.ext hX;have OF:=aM O7 hX;have cu:=aM o hX;clear hX hx c4;go_frame;refine wpAny_ready (rs:= [17]) (by kernel_rfl) (by simp) ?_;refine AllReady.cons rfl (fun K hK=> ?_) AllReady.nil;refine gG _ aUj rfl (.tmp 81) (.tmp 96) rfl (a+1) (.slice q k d) k _ rfl OF (some ⟨d4,0,none⟩) 1 1 (aC (a0,a1,a2,a3)) rfl (Sl.blkS ci) (aMk _) (by omega) (by have:=BF.lt;omega) (fun p2 cap2 w8 hown8 hgrow8=>hK _ _ ?_);clear hK K;obtain⟨X8,B8⟩:=aCs XF BF (by decide) OF (by omega) hgrow8;have d0:=aCr OF hgrow8 cu (by decide);clear hgrow8 XF BF OF cu ci;have x9:=B8.cl 9;have eu:=B8.frozen 9;have el:a<w8:=B8.lt;try go_frame
        refine wpAny_ready (rs:= [18]) (by kernel_rfl) (by simp) ?_;refine AllReady.cons rfl (fun K hK=> ?_) AllReady.nil;go_simp;refine hK _ _ ?_;clear hK K;refine wpAny_ready (rs:= [19]) (by kernel_rfl) (by simp) ?_;refine AllReady.cons rfl (fun K hK=> ?_) AllReady.nil;go_simp;refine hK _ _ ?_;clear hK K;refine wpAny_done (by kernel_rfl) ?_ _;have co:Hid (∀q∈((aL 59 l).drop 4).take (k+1),(aL 44 q).length=4):=by
         have e:((aL 59 l).drop 4)[k]? =some x:=by rw[List.getElem?_drop];exact bn.out
         rw[xQ (aX e)];intro y hy;rcases aWh.1 hy with h|h
         ·exact HF y h
         obtain rfl:y=x:=by simpa using h
         exact bl
        have dr:Hid (eD (aL 59 l) (k+1)=eD (aL 59 l) k++ [(a0,a1,a2,a3)]):=by show _=_;rw[uW bn.out,dp.out];rfl
        have B9:=xQ (show Blk (w8.setCell ⟨a,9,none⟩ (.slice p2 (k+1) cap2)) a mN #[W,D,.slice p n cap,f,s,pr,cp,ck,bk,.slice p2 (k+1) cap2] by have:=B8.set 9 (.slice p2 (k+1) cap2);simpa using this)
        have O9:=xQ (show(w8.setCell ⟨a,9,none⟩ (.slice p2 (k+1) cap2)).ownsRow (a+1) uV 4 (.slice p2 (k+1) cap2) (k+1) ((eD (aL 59 l) (k+1)).flatMap aC) by
         rw[dr.out,aX4];have:=jI (i:=9) (u:= .slice p2 (k+1) cap2) B8 hown8 (by decide)
         simpa using this)
        have X9:Ext w3 (w8.setCell ⟨a,9,none⟩ (.slice p2 (k+1) cap2)):=X8.setCell (by omega) _;clear hown8 d0 B8 X8 t0 t1 t2 t3 v9 et x9 eu;go_wp2;go_roundw
        case rel=>
         first
          |exact⟨k+1,p2,cap2,by omega,by go_num,X9,B9.out,O9.out,co.out⟩
          |((repeat apply Exists.intro);refine⟨⟨k+1,p2,cap2,by omega,by go_num,X9,B9.out,O9.out,co.out⟩,rfl⟩)
        case measure=>simp[intOf];omega
      have ao:Hid (bH l=none):=uD (aM5 bn (by rw[bl];exact am));have eh:((nv:Int)==4)=false:=by rw[beq_eq_false_iff_ne];omega
      have a8:=xQ (X3.out.trans X7.out);clear am;obtain⟨z0,aa,z1,ab,z2,ad,z3,ae,z4,af,z5,ag,z6,ah,z7,ai,z8,aj,z9,ak⟩:=(c.out.ext a8.out).tenf;have a6:(w:Nat)<w7:=(c.out.ext a8.out).lt;go_wp2;generalize g:World.setCell _ _ _=w9;obtain⟨Y9,r,X9⟩:=(c.out.ext a8.out).putx (av.out.trans a8.out) g;clear g r z0 z1 z2 z3 z4 z5 z6 z7 z8 z9 aa ab ad ae af ag ah ai aj ak;have y_:=Y9.ten;exact aYw (v:= .tuple #[.agg #[(),(),((),()),(),(),(),(),(),(),((),())],.bool false]) (fX ao.out X9)
     obtain rfl:k=N:=by omega
     have HT:Hid (((aL 59 l).drop 4).take k=(aL 59 l).drop 4):=aW4 (by rw[aWt,ar.out];omega);have a4:fM (aL 59 l)=true:=by
      have h2:=HF.out;rw[HT.out]at h2;unfold fM;rw[ar.out,bp.out,bq.out,bj,bi.out];have h4:4≤k+4:=by omega
      have h5:((aL 59 l).drop 4).all (fun p=>decide ((aL 44 p).length=4))=true:=by rw[aWo];intro z hz;exact decide_eq_true (h2 z hz)
      simp[h4,h5]
     have di:Hid (dG (aL 59 l)=⟨W,D,xs,f,s,pr,cp,ck,bk,eD (aL 59 l) k⟩):=by show _=_;rw[aBo (W:=W) (D:=D) (xs:=xs) ar (by rw[bp.out];exact H0.out) (t:= [f,s,pr,cp]) (by rw[bq.out];exact dn.out),d1.out,d2.out,dh.out,dg.out];rfl
     have bm:=xQ (aBh (by rw[ar.out];omega) a4);rw[di.out]at bm;have dq:Hid (k=(eD (aL 59 l) k).length):=(wH ar (aVz _)).symm;clear a4 HF HT;generalize ei:eD (aL 59 l) k=vs at*;clear ei;have d3:=xQ (X3.out.trans XR.out);have bo:=xQ (aM dy XR.out);have HI:Hid (IsHouse wr ⟨W,D,xs,f,s,pr,cp,ck,bk,vs⟩ p n cap q k d):=⟨Sl.own bo.out,Sl.own OR.out⟩
     have HT:Hid (∀(w':World),Ext wr w'→U 52 #[.agg #[W,D,.slice p n cap,f,s,pr,cp,ck,bk,.slice q k d]] w' (Z (str (bI ⟨W,D,xs,f,s,pr,cp,ck,bk,vs⟩)) w')):=fun w' hx=>uX ⟨W,D,xs,f,s,pr,cp,ck,bk,vs⟩ p n cap q k d w' (HI.out.ext hx)
     generalize d9:bI ⟨W,D,xs,f,s,pr,cp,ck,bk,vs⟩=t at*;clear d9;obtain⟨b0,b1,b2,b3,b4,b5,b6,b7,b8,b9⟩:=BR.out.ten;go_wp2_with fail;refine Ω (HT _ (by exact .refl _)) fun w8 h8=>?_
     clear b0 b1 b2 b3 b4 b5 b6 b7 b8 b9;have cf:Ext wr w8:=by exact h8
     have B8:=xQ (BR.out.ext cf);have el:a<w8:=B8.out.lt;have aw:=xQ cf;have an:=xQ (d3.out.trans aw.out);clear h8 cf;by_cases ht:t=l
     ·have d8:(t==l)=true:=by simp[ht]
      have da:Hid (bH l=some ⟨W,D,xs,f,s,pr,cp,ck,bk,vs⟩):=by show _=_;rw[bm.out];simp[ht]
      clear ht;obtain⟨b0,b1,b2,b3,b4,b5,b6,b7,b8,b9⟩:=B8.out.ten;obtain⟨z0,aa,z1,ab,z2,ad,z3,ae,z4,af,z5,ag,z6,ah,z7,ai,z8,aj,z9,ak⟩:=(c.out.ext an.out).tenf;have a6:(w:Nat)<w8:=(c.out.ext an.out).lt;have e4: ¬w.heap.size=a:=by have:=X3.out.sz;omega
      go_wp2;generalize g:World.setCell _ _ _=w9;obtain⟨Y9,r,X9⟩:=(c.out.ext an.out).putx (av.out.trans an.out) g;have dw:w9.ownsRow w TI 1 (.slice p n cap) n (ivs xs):=bF ((aM bo aw.out).kept r (.inr (iW (aM bo aw.out) (c.out.ext an.out) (by decide)))) (by omega);have dz:w9.ownsRow w uV 4 (.slice q k d) k (vs.flatMap aC):=bF ((aM OR aw.out).kept r (.inr (iW (aM OR aw.out) (c.out.ext an.out) (by decide)))) (by have:=X3.out.sz;omega);clear g r z0 z1 z2 z3 z4 z5 z6 z7 z8 z9 aa ab ad ae af ag ah ai aj ak b0 b1 b2 b3 b4 b5 b6 b7 b8 b9;have y_:=Y9.ten;exact aYw (v:= .tuple #[.agg #[W,D,.slice p n cap,f,s,pr,cp,ck,bk,.slice q k d],.bool true]) (aBd da.out dv dq.out dw dz X9)
     have d8:(t==l)=false:=by simp[ht]
     have ao:Hid (bH l=none):=by show _=_;rw[bm.out];simp[ht]
     clear ht;obtain⟨z0,aa,z1,ab,z2,ad,z3,ae,z4,af,z5,ag,z6,ah,z7,ai,z8,aj,z9,ak⟩:=(c.out.ext an.out).tenf;have a6:(w:Nat)<w8:=(c.out.ext an.out).lt;go_wp2;generalize g:World.setCell _ _ _=w9;obtain⟨Y9,r,X9⟩:=(c.out.ext an.out).putx (av.out.trans an.out) g;clear g r z0 z1 z2 z3 z4 z5 z6 z7 z8 z9 aa ab ad ae af ag ah ai aj ak;have y_:=Y9.ten;exact aYw (v:= .tuple #[.agg #[(),(),((),()),(),(),(),(),(),(),((),())],.bool false]) (fX ao.out X9)
  have ao:Hid (bH l=none):=uD (aEt (.inr (by rw[bq.out,bj];exact am)));have eh:((n1:Int)==4)=false:=by rw[beq_eq_false_iff_ne];omega
  clear am;obtain⟨z0,aa,z1,ab,z2,ad,z3,ae,z4,af,z5,ag,z6,ah,z7,ai,z8,aj,z9,ak⟩:=(c.out.ext X3.out).tenf;have a6:(w:Nat)<w3:=(c.out.ext X3.out).lt;go_wp2;generalize g:World.setCell _ _ _=w9;obtain⟨Y9,r,X9⟩:=(c.out.ext X3.out).putx (av.out.trans X3.out) g;clear g r z0 z1 z2 z3 z4 z5 z6 z7 z8 z9 aa ab ad ae af ag ah ai aj ak;have y_:=Y9.ten;exact aYw (v:= .tuple #[.agg #[(),(),((),()),(),(),(),(),(),(),((),())],.bool false]) (fX ao.out X9)
def dJ (h:aQ)(e:Int):List UInt8:=if bC h=true∧0≤e∧e≤99 then jH (dec e++ [124]++bI h)else []
theorem aHf (a b c:List UInt8):Value.string (⟨a.toArray⟩++⟨b.toArray⟩++⟨c.toArray⟩)=str (a++b++c):=by apply congrArg Value.string;apply ByteArray.ext;simp
theorem aGa (t r:List UInt8)(w:World)(HV:xB 12 #[.agg #[aA,aB,.slice p n c,a,b,aE,aF,aD,aG,.slice q m c2]] w false):
  U 16 #[.agg #[aA,aB,.slice p n c,a,b,aE,aF,aD,aG,.slice q m c2],e] w fun e' w'=>e'= .returned (str [])∧Ext w w':=by
 go_enter func16,ntmps16;go_wp2_with fail;refine(HV _ (by exact .alloc (.refl _) _)).mono ?_;rintro e' w0 ⟨rfl,d⟩;have B0:=xQ ((Blk.new w 32 #[aA,aB,.slice p n c,a,b,aE,aF,aD,aG,.slice q m c2]).ext d);have X0:Hid (Ext w w0):=by show Ext w w0;exact .trans (.alloc (.refl _) _) d
 have f:=X0.out;have g:(w:Nat)<w0:=B0.out.lt;clear d;go_wp2;go_ret;exact⟨rfl,X0.out⟩
theorem aG9 (t r:List UInt8)(w:World)(h:e<0∨0≤e∧99<e)(HV:xB 12 #[.agg #[aA,aB,.slice p n c,a,b,aE,aF,aD,aG,.slice q m c2]] w true):
  U 16 #[.agg #[aA,aB,.slice p n c,a,b,aE,aF,aD,aG,.slice q m c2],e] w fun e' w'=>e'= .returned (str [])∧Ext w w':=by
 rcases h with h|⟨h,h2⟩
 all_goals
  (try (have g:decide (e≤99)=false:=by simp;omega));go_enter func16,ntmps16;go_wp2_with fail;refine(HV _ (by exact .alloc (.refl _) _)).mono ?_;rintro e' w0 ⟨rfl,d⟩;have B0:=xQ ((Blk.new w 32 #[aA,aB,.slice p n c,a,b,aE,aF,aD,aG,.slice q m c2]).ext d);have X0:Hid (Ext w w0):=by show Ext w w0;exact .trans (.alloc (.refl _) _) d
  have f:=X0.out;have i:(w:Nat)<w0:=B0.out.lt;clear d;go_wp2;go_ret;exact⟨rfl,X0.out⟩
theorem aFc (t r:List UInt8)(w:World)(HV:xB 11 #[.agg #[aA,aB,.slice p n c,a,b,aE,aF,aD,aG,.slice q m c2]] w false):
  U 22 #[.agg #[aA,aB,.slice p n c,a,b,aE,aF,aD,aG,.slice q m c2],e] w fun e' w'=>e'= .returned (str [])∧Ext w w':=by
 go_enter func22,ntmps22;go_wp2_with fail;refine(HV _ (by exact .alloc (.refl _) _)).mono ?_;rintro e' w0 ⟨rfl,d⟩;have B0:=xQ ((Blk.new w 32 #[aA,aB,.slice p n c,a,b,aE,aF,aD,aG,.slice q m c2]).ext d);have X0:Hid (Ext w w0):=by show Ext w w0;exact .trans (.alloc (.refl _) _) d
 have f:=X0.out;have g:(w:Nat)<w0:=B0.out.lt;clear d;go_wp2;go_ret;exact⟨rfl,X0.out⟩
theorem aFb (t r:List UInt8)(w:World)(h:e<0∨0≤e∧99<e)(HV:xB 11 #[.agg #[aA,aB,.slice p n c,a,b,aE,aF,aD,aG,.slice q m c2]] w true):
  U 22 #[.agg #[aA,aB,.slice p n c,a,b,aE,aF,aD,aG,.slice q m c2],e] w fun e' w'=>e'= .returned (str [])∧Ext w w':=by
 rcases h with h|⟨h,h2⟩
 all_goals
  (try (have g:decide (e≤99)=false:=by simp;omega));go_enter func22,ntmps22;go_wp2_with fail;refine(HV _ (by exact .alloc (.refl _) _)).mono ?_;rintro e' w0 ⟨rfl,d⟩;have B0:=xQ ((Blk.new w 32 #[aA,aB,.slice p n c,a,b,aE,aF,aD,aG,.slice q m c2]).ext d);have X0:Hid (Ext w w0):=by show Ext w w0;exact .trans (.alloc (.refl _) _) d
  have f:=X0.out;have i:(w:Nat)<w0:=B0.out.lt;clear d;go_wp2_with go_in;go_ret;exact⟨rfl,X0.out⟩
theorem aIp (r:List UInt8)(w:World)(h0:0≤e)(h1:e≤99)(hd:(dec e).length≤21)(ht:t.length≤100000)(HV:xB 12 #[.agg #[aA,aB,.slice p n c,a,b,aE,aF,aD,aG,.slice q m c2]] w true)(HT:Hid (∀w',Ext w w'→U 43 #[.agg #[aA,aB,.slice p n c,a,b,aE,aF,aD,aG,.slice q m c2]] w' fun e' w''=>e'= .returned (str t)∧Ext w' w''))(HN:Hid (∀w',Ext w w'→U 42 #[e] w' fun e' w''=>e'= .returned (str (dec e))∧Ext w' w''))(HW:Hid (∀w',Ext w w'→U 41 #[.string ((⟨(dec e).toArray⟩:ByteArray)++(⟨#[124]⟩:ByteArray)++(⟨t.toArray⟩:ByteArray))] w' fun e' w''=>e'= .returned (str r)∧Ext w' w'')):
  U 16 #[.agg #[aA,aB,.slice p n c,a,b,aE,aF,aD,aG,.slice q m c2],e] w fun e' w'=>e'= .returned (str r)∧Ext w w':=by
 go_enter func16,ntmps16;go_wp2_with fail;refine(HV _ (by exact .alloc (.refl _) _)).mono ?_;rintro e' w0 ⟨rfl,g⟩;have B0:=xQ ((Blk.new w 32 #[aA,aB,.slice p n c,a,b,aE,aF,aD,aG,.slice q m c2]).ext g);have X0:Hid (Ext w w0):=by show Ext w w0;exact .trans (.alloc (.refl _) _) g
 have f:=X0.out;have i:(w:Nat)<w0:=B0.out.lt;clear g;go_wp2;refine rL (gl [gEq e,gEq (str (dec e)),gEq (.string ((⟨(dec e).toArray⟩:ByteArray)++(⟨#[124]⟩:ByteArray))),gEq (.agg #[aA,aB,.slice p n c,a,b,aE,aF,aD,aG,.slice q m c2]),gEq (str t),gEq (.string ((⟨(dec e).toArray⟩:ByteArray)++(⟨#[124]⟩:ByteArray)++(⟨t.toArray⟩:ByteArray))),gEq (str r)]) 7 8 [(0,some 16),(1,some 17),(2,some 18),(3,some 19),(4,some 20),(5,some 21),(6,some 22)] ?steps ?fin
 case steps=>
  refine sS0 [] ?_;refine sC [(0,some 16)] rfl (fun wi hx=> ?_) ?_
  ·intro v0 h0 K hK;obtain rfl:=h0;go_wp2_with fail;refine Ω (HN _ (by exact .trans (.drew f) hx)) fun w2 d=>?_
   go_simp;exact hK _ _ ⟨str (dec e),rfl,rfl,d⟩
  refine sC [(1,some 17)] rfl (fun wi hx=> ?_) ?_
  ·intro v1 h1 K hK;obtain rfl:=h1;have s1:=aYt ((dec e).length+1);go_simp;exact hK _ _ ⟨.string ((⟨(dec e).toArray⟩:ByteArray)++(⟨#[124]⟩:ByteArray)),rfl,rfl,Ext.refl _⟩
  refine sC [] rfl (fun wi hx=> ?_) ?_
  ·intro K hK;have B:=xQ (B0.out.ext hx.of_drew);have h:=B.out.ten;go_simp;exact hK _ _ ⟨.agg #[aA,aB,.slice p n c,a,b,aE,aF,aD,aG,.slice q m c2],rfl,rfl,Ext.refl _⟩
  refine sC [(3,some 19)] rfl (fun wi hx=> ?_) ?_
  ·intro v3 h3 K hK;obtain rfl:=h3;go_wp2_with fail;refine Ω (HT _ (by exact .trans (.drew f) hx)) fun w2 d=>?_
   go_simp;exact hK _ _ ⟨str t,rfl,rfl,d⟩
  refine sC [(2,some 18),(4,some 20)] rfl (fun wi hx=> ?_) ?_
  ·intro v2 h2 v4 h4 K hK;subst h2 h4;have s2:=aYt ((dec e).length+1+t.length);go_simp;exact hK _ _ ⟨.string ((⟨(dec e).toArray⟩:ByteArray)++(⟨#[124]⟩:ByteArray)++(⟨t.toArray⟩:ByteArray)),rfl,rfl,Ext.refl _⟩
  refine sC [(5,some 21)] rfl (fun wi hx=> ?_) StepsL.nil
  ·intro v5 h5 K hK;obtain rfl:=h5;go_wp2_with fail;refine Ω (HW _ (by exact .trans (.drew f) hx)) fun w2 d=>?_
   go_simp;exact hK _ _ ⟨str r,rfl,rfl,d⟩
 case fin=>intro wi hx v0 h0 v1 h1 v2 h2 v3 h3 v4 h4 v5 h5 v6 h6;subst h0 h1 h2 h3 h4 h5 h6;refine wpAny_ready (rs:= [7]) (by kernel_rfl) (by simp) ?_;refine AllReady.cons rfl (fun K hK=> ?_) AllReady.nil;go_simp;refine hK _ _ ?_;clear hK K;refine wpAny_done (by kernel_rfl) ?_ _;have X1:=xQ (X0.out.trans hx.of_drew);clear hx;go_wp2;go_ret;exact⟨rfl,X1.out⟩
theorem aHl (r:List UInt8)(w:World)(h0:0≤e)(h1:e≤99)(hd:(dec e).length≤21)(ht:t.length≤100000)(HV:xB 11 #[.agg #[aA,aB,.slice p n c,a,b,aE,aF,aD,aG,.slice q m c2]] w true)(HT:Hid (∀w',Ext w w'→U 52 #[.agg #[aA,aB,.slice p n c,a,b,aE,aF,aD,aG,.slice q m c2]] w' fun e' w''=>e'= .returned (str t)∧Ext w' w''))(HN:Hid (∀w',Ext w w'→U 51 #[e] w' fun e' w''=>e'= .returned (str (dec e))∧Ext w' w'')):
  U 22 #[.agg #[aA,aB,.slice p n c,a,b,aE,aF,aD,aG,.slice q m c2],e] w fun e' w'=>e'= .returned (str (jH (dec e++ [124]++t)))∧Ext w w':=by
 obtain⟨u,f⟩: ∃u,u=dec e++ [124]++t:=⟨_,rfl⟩
 have i:u.length≤200000:=by rw[f];simp only[aW5,aX0,List.length_nil];omega
 have hu:=xQ f;clear f;have q1:decide (e≤99)=true:=by simp[h1]
 go_enter func22,ntmps22;go_wp2_with fail;refine(HV _ (by exact .alloc (.refl _) _)).mono ?_;rintro e' w0 ⟨rfl,d⟩;have B0:=xQ ((Blk.new w 32 #[aA,aB,.slice p n c,a,b,aE,aF,aD,aG,.slice q m c2]).ext d);have X0:Hid (Ext w w0):=by show Ext w w0;exact .trans (.alloc (.refl _) _) d
 have h:=X0.out;have s:(w:Nat)<w0:=B0.out.lt;clear d;go_wp2_with go_in;refine rL (gl [gEq e,gEq (str (dec e)),gEq (.string ((⟨(dec e).toArray⟩:ByteArray)++(⟨#[124]⟩:ByteArray))),gEq (.agg #[aA,aB,.slice p n c,a,b,aE,aF,aD,aG,.slice q m c2]),gEq (str t),gEq (.string ((⟨(dec e).toArray⟩:ByteArray)++(⟨#[124]⟩:ByteArray)++(⟨t.toArray⟩:ByteArray)))]) 6 7 [(0,some 14),(1,some 15),(2,some 16),(3,some 17),(4,some 18),(5,some 19)] ?steps ?fin
 case steps=>
  refine sS0 [] ?_;refine sC [(0,some 14)] rfl (fun wi hx=> ?_) ?_
  ·intro v0 h0 K hK;obtain rfl:=h0;go_wp2_with fail;refine Ω (HN _ (by exact .trans (.drew h) hx)) fun w2 g=>?_
   go_simp;exact hK _ _ ⟨str (dec e),rfl,rfl,g⟩
  refine sC [(1,some 15)] rfl (fun wi hx=> ?_) ?_
  ·intro v1 h1 K hK;obtain rfl:=h1;have s1:=aYt ((dec e).length+1);go_simp;exact hK _ _ ⟨.string ((⟨(dec e).toArray⟩:ByteArray)++(⟨#[124]⟩:ByteArray)),rfl,rfl,Ext.refl _⟩
  refine sC [] rfl (fun wi hx=> ?_) ?_
  ·intro K hK;have B:=xQ (B0.out.ext hx.of_drew);have k:=B.out.ten;go_simp;exact hK _ _ ⟨.agg #[aA,aB,.slice p n c,a,b,aE,aF,aD,aG,.slice q m c2],rfl,rfl,Ext.refl _⟩
  refine sC [(3,some 17)] rfl (fun wi hx=> ?_) ?_
  ·intro v3 h3 K hK;obtain rfl:=h3;go_wp2_with fail;refine Ω (HT _ (by exact .trans (.drew h) hx)) fun w2 g=>?_
   go_simp;exact hK _ _ ⟨str t,rfl,rfl,g⟩
  refine sC [(2,some 16),(4,some 18)] rfl (fun wi hx=> ?_) StepsL.nil
  ·intro v2 h2 v4 h4 K hK;subst h2 h4;have s2:=aYt ((dec e).length+1+t.length);go_simp;exact hK _ _ ⟨.string ((⟨(dec e).toArray⟩:ByteArray)++(⟨#[124]⟩:ByteArray)++(⟨t.toArray⟩:ByteArray)),rfl,rfl,Ext.refl _⟩
 case fin=>
  intro wi hx v0 h0 v1 h1 v2 h2 v3 h3 v4 h4 v5 h5;subst h0 h1 h2 h3 h4 h5;refine wpAny_ready (rs:= [6]) (by kernel_rfl) (by simp) ?_;refine AllReady.cons rfl (fun K hK=> ?_) AllReady.nil;go_simp;refine hK _ _ ?_;clear hK K;refine wpAny_done (by kernel_rfl) ?_ _;have X1:=xQ (X0.out.trans hx.of_drew);clear hx;have eq:(Value.string (⟨(dec e).toArray⟩++⟨#[124]⟩++⟨t.toArray⟩))=str u:=by rw[hu.out];exact aHf _ _ _
  rw[eq];clear eq;have o:=aYt (u.length+1);have l:=wJ u;have j:=aYt (u.length+1+(Lib.decDigits (mD u).toNat).length);have hb:=qM u;go_wp2_with fail;refine(aB4 u _ (by unfold maxLen;omega)).mono ?_;rintro e2 w3 ⟨rfl,rfl⟩;go_wp2_with fail;refine Ω (lZ (mD u) _ (by omega) (by omega)) fun w4 h4=>?_
  go_wp2;go_ret;exact⟨by rw[←hu.out];exact jZ rfl,X1.out.trans (by exact h4)⟩
theorem mP {h:aQ}:(bI h).length≤100000:=by
 unfold bI;cases hok:bC h with
 |false=>simp
 |true=>
  rw[if_pos rfl];obtain⟨g0,g1,g2,g3,g4,g5,g6,g7,g8,g9,b,c,d,e,a⟩:=rH hok;have l1:(cE h.aA h.aB h.cells).length≤400:=rI;have l2:=pX h.free h.step h.aE h.aF (by omega) (by omega) (by omega) (by omega);have l3:=eM h.aD (by omega);have l4:=eM h.aG (by omega);have lv: ∀v∈h.vs,(bG (bU v)).length≤90:=fun v hv=>by have:=a v hv;exact pX _ _ _ _ (by omega) (by omega) (by omega) (by omega)
  have HL:=aIi 59 400 (cE h.aA h.aB h.cells) (bG [h.free,h.step,h.aE,h.aF]::dec h.aD::dec h.aG::h.vs.map (fun v=>bG (bU v))) l1 (fun y hy=>by
   simp only[aWd]at hy;rcases hy with rfl|rfl|rfl|hy
   ·omega
   ·omega
   ·omega
   ·obtain⟨v,hv,rfl⟩:=List.mem_map.1 hy
    have:=lv v hv;omega)
  refine aW8 HL ?_;simp only[aX0,aWj];omega
theorem xI (p:OA)(n a:Nat)(q:OA)(m c2:Nat)(w:World)(hE:Env w)(hi:IsHouse w h p n a q m c2):
  U 16 #[bV h p n a q m c2,e] w fun e' w'=>e'= .returned (str (dJ h e))∧Ext w w':=by
 have HV:=fun(w':World) (hx:Ext w w')=>lB h p n a q m c2 w' (hi.ext hx)
 unfold dJ;cases hok:bC h with
 |false=>rw[hok]at HV;simpa using aGa h.aA h.aB h.free h.step h.aE h.aF h.aD h.aG p n a q m c2 e [] [] w HV
 |true=>
  rw[hok]at HV;by_cases hr:0≤e∧e≤99
  ·rw[if_pos ⟨rfl,hr⟩];exact aIp h.aA h.aB h.free h.step h.aE h.aF h.aD h.aG p n a q m c2 e (bI h) (jH (dec e++ [124]++bI h)) w hr.1 hr.2 (eM e (by omega)) mP HV (fun w' hx=>vH h p n a q m c2 w' (hE.ext hx) (hi.ext hx)) (fun w' hx=>vG e w' hr.1 (by omega) (hE.ext hx)) (fun w' hx=>by rw[show(Value.string (⟨(dec e).toArray⟩++⟨#[124]⟩++⟨(bI h).toArray⟩))=str (dec e++ [124]++bI h)from aHf _ _ _];exact aA3 _ w' (by have:=mP (h:=h);have:=eM e (by omega);simp only[aW5,aX0,List.length_nil];omega) (hE.ext hx))
  rw[if_neg (fun hh=>hr hh.2)];exact aG9 h.aA h.aB h.free h.step h.aE h.aF h.aD h.aG p n a q m c2 e [] [] w (by omega) HV
theorem wL (p:OA)(n a:Nat)(q:OA)(m c2:Nat)(w:World)(hi:IsHouse w h p n a q m c2):
  U 22 #[bV h p n a q m c2,e] w fun e' w'=>e'= .returned (str (dJ h e))∧Ext w w':=by
 have HV:=fun(w':World) (hx:Ext w w')=>mE h p n a q m c2 w' (hi.ext hx)
 unfold dJ;cases hok:bC h with
 |false=>rw[hok]at HV;simpa using aFc h.aA h.aB h.free h.step h.aE h.aF h.aD h.aG p n a q m c2 e [] [] w HV
 |true=>
  rw[hok]at HV;by_cases hr:0≤e∧e≤99
  ·rw[if_pos ⟨rfl,hr⟩];exact aHl h.aA h.aB h.free h.step h.aE h.aF h.aD h.aG p n a q m c2 e (bI h) (jH (dec e++ [124]++bI h)) w hr.1 hr.2 (eM e (by omega)) mP HV (fun w' hx=>uX h p n a q m c2 w' (hi.ext hx)) (fun w' hx=>lZ e w' hr.1 (by omega))
  rw[if_neg (fun hh=>hr hh.2)];exact aFb h.aA h.aB h.free h.step h.aE h.aF h.aD h.aG p n a q m c2 e [] [] w (by omega) HV
theorem zB {h:aQ}{c:UInt8}(hc:dR c=false)(a:c≠44)(b:c≠46)(d:c≠47)(e:c≠59):c∉bI h:=by
 unfold bI;split
 ·refine aBy 59 c e _ ?_;intro p hp;simp only[eZ,aWd,List.mem_map]at hp;rcases hp with rfl|rfl|rfl|rfl|⟨v,_,rfl⟩
  ·unfold cE;split
   ·suffices hh: ∀k,c∉aS h.aA h.cells k from hh _
    intro k;induction k with
    |zero=>simp[aS]
    |succ k ih=>
     simp only[aS,aWh,not_or];refine⟨⟨ih,?_⟩,pE hc b⟩;unfold dI;split
     ·simp
     split
     ·simpa using d
     simpa using a
   simp
  ·exact xA c hc a _
  ·exact fJ _ _ hc
  ·exact fJ _ _ hc
  exact xA c hc a _
 simp
def dC (l:List UInt8):Option (aQ×Int):=
 match bK 2 (dD 124 l),bH (dD 35 (fS 124 l))with
 |some n,some h=>if dJ h n=l then some (h,n)else none
 |_,_=>none
def nS (l:List UInt8):Bool:=decide ((aL 35 l).length=2∧(aL 124 (gK (aL 35 l) 0)).length=2)
def oE (l:List UInt8):Option aQ:=bH (gK (aL 124 (gK (aL 35 l) 0)) 1)
def pU (l:List UInt8):Int:=(bK 4 (gK (aL 124 (gK (aL 35 l) 0)) 0)).getD (-1)
theorem vP {h:aQ}{e:Int}{l:List UInt8}(a:bC h=true)(hl:l≠ [])(hs:dJ h e=l):0≤e∧e≤99∧ ∃d:Nat,l=dec e++124::(bI h++35::Lib.decDigits d):=by
 unfold dJ at hs;split at hs
 ·rename_i hc;refine⟨hc.2.1,hc.2.2,(mD (dec e++ [124]++bI h)).toNat,?_⟩;rw[←hs];simp[jH]
 exact absurd hs.symm hl
theorem vA {h:aQ}{e:Int}{l:List UInt8}(a:bC h=true)(hl:l≠ [])(hs:dJ h e=l):dC l=some (h,e):=by
 obtain⟨h0,h1,d,hd⟩:=vP a hl hs;have c1:=eP 124 (dec e) (bI h++35::Lib.decDigits d) (fJ _ _ (by decide));have c2:=eP 35 (bI h) (Lib.decDigits d) (zB (by decide) (by decide) (by decide) (by decide) (by decide));unfold dC;rw[hd,c1.1,c1.2,c2.1,sL a,kA 2 e.toNat (by omega) (by omega) (by omega),←hd];have e2:((e.toNat:Nat):Int)=e:=by omega
 simp[e2,hs]
theorem aKr {h:aQ}{e:Int}{l:List UInt8}(a:bC h=true)(hl:l≠ [])(hs:dJ h e=l):nS l=true∧oE l=some h∧pU l=e:=by
 obtain⟨h0,h1,d,hd⟩:=vP a hl hs;have b:(35:UInt8)∉dec e++124::bI h:=by simp only[aWh,aWd,not_or];exact⟨fJ _ _ (by decide),by decide,zB (by decide) (by decide) (by decide) (by decide) (by decide)⟩
 have k1:aL 35 l= [dec e++124::bI h,Lib.decDigits d]:=by rw[hd,show dec e++124::(bI h++35::Lib.decDigits d)=(dec e++124::bI h)++35::Lib.decDigits d by simp,iR 35 _ _ b,lG 35 _ (fJ _ _ (by decide))]
 have k2:aL 124 (dec e++124::bI h)= [dec e,bI h]:=by rw[iR 124 _ _ (fJ _ _ (by decide)),lG 124 _ (zB (by decide) (by decide) (by decide) (by decide) (by decide))]
 have k3:gK (aL 35 l) 0=dec e++124::bI h:=by rw[k1];rfl
 refine⟨?_,?_,?_⟩
 ·unfold nS;rw[k3,k2,k1];rfl
 ·unfold oE;rw[k3,k2];exact sL a
 unfold pU;rw[k3,k2];show(bK 4 (dec e)).getD (-1)=e;rw[kA 4 e.toNat (by omega) (by omega) (by omega)];simp;omega
theorem vB {l:List UInt8}{h:aQ}{e:Int}(hr:dC l=some (h,e)):bC h=true∧dJ h e=l:=by
 unfold dC at hr;split at hr
 ·rename_i n H hn hh;split at hr
  ·rename_i hs;cases hr;exact⟨(sM hh).1,hs⟩
  simp at hr
 simp at hr
theorem aKx:dC l=if nS l=true then(match oE l with|some h=>if dJ h (pU l)=l then some (h,pU l)else none|none=>none)else none:=by
 by_cases hl:l= []
 ·subst hl;have a:dC []=none:=by unfold dC;simp[dD,bK]
  rw[a];simp[nS,aL]
 cases hr:dC l with
 |some x=>obtain⟨h,e⟩:=x;obtain⟨a,b⟩:=vB hr;obtain⟨q1,q2,q3⟩:=aKr a hl b;rw[if_pos q1,q2,q3];simp[b]
 |none=>
  by_cases hf:nS l=true
  ·rw[if_pos hf];cases hh:oE l with
   |none=>rfl
   |some h=>
    simp only;by_cases hs:dJ h (pU l)=l
    ·have:=vA (sM hh).1 hl hs;rw[hr]at this;simp at this
    rw[if_neg hs]
  rw[if_neg hf]
section
open Go
section
variable {w0 w w':World} {L:List Item}
theorem Mem.own2s {b n c sz n2 c2 sz2:Nat}{e e2:TypeId}{q q2:OA}{xs i:List Value}(h:Mem w0 w L)(hx:Ext w w')(a:w'.ownsRow b e sz (.slice q n c) n xs)(g:w'.ownsRow b e2 sz2 (.slice q2 n2 c2) n2 i)(hb:w.heap.size≤b)(ht:e≠e2):
  Mem w0 w' (aJ w0 e sz q n c xs::aJ w0 e2 sz2 q2 n2 c2 i::L):=by
 refine(h.ownNew hx g hb).cons (eQ _ _ _ _ _ _ _) (dX a (aW8 h.ext.sz hb)) (fun g' hg' j hj e'=> ?_);replace hg':(Value.slice q n c).ownBlock=Option.some g':=hg';have h1:=(aWw a g' hg').1;rcases aWd.1 hj with rfl|hj
 ·replace e':(Value.slice q2 n2 c2).ownBlock=Option.some g':=e';rcases a.2 with⟨h2,_⟩|⟨g2,cap',cur,h2,_,h3,_⟩
  ·rw[h2]at hg';cases hg'
  rcases g.2 with⟨k2,_⟩|⟨g3,cap3,cur3,k2,_,k3,_⟩
  ·rw[k2]at e';cases e'
  rw[h2]at hg';rw[k2]at e';injection hg' with hg';injection e' with e';have f:g2=g':=hg';have d:g3=g':=e';subst f;subst d;rw[h3]at k3;injection k3 with k3;injection k3 with _ k3;exact ht k3
 have h2:=((h.good j hj).lt w (h.ok j hj) g' e').2;omega
end
end
end Go.Proofs.YthfmmibomhhmpabGreatDoor
