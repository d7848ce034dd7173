/-
  A law's walk or frame (@packed).
-/
import Derived.Test.YtpelpnfhbepokaaGreatDoorV36
namespace Go.Proofs.YtpelpnfhbepokaaGreatDoor
open Go.RowKit
set_option linter.unusedVariables false
set_option linter.unusedSimpArgs false
set_option maxHeartbeats 8000000
set_option maxRecDepth 100000
theorem aKf {h:aO}(a: ¬aT h=true):oL h=hZ:=by unfold oL mI;rw[if_neg a]
theorem aLb: ¬aT hZ=true:=by decide
theorem aGh {y:aO}(a:aT y=true)(hb:y.aG+eK y≤99999):aT (oL y)=true∧cJ (oL y).cells= []∧(oL y).vs= []∧(oL y).aG=y.aG+eK y∧(oL y).aC=y.aC:=by obtain⟨_,h2,h3,h4,h5,h6⟩:=aKe a hb;unfold oL mI;rw[if_pos a];exact⟨h2,h3,h4,h5,h6⟩
theorem aLj {h:aO}(a:aT h=true):0≤eK h∧eK h≤8316:=by have:=aJx a;unfold eK;rw[if_pos a];exact this
theorem aB7 (h:aO):(oL h).cells.length≤1000∧(oL h).vs.length≤1000:=by have:=aA6 h (aZ (aU h) (bV h));exact⟨this.1,this.2.1⟩
theorem uR (p:OA)(n a:Nat)(w:World)(h:(1048576:Int)<n):
  Calls Tryz.prog 4 #[.slice p n a] w fun e w'=>e= .returned (.bool true)∧Ext w w':=by
 go_enter Tryz.func4,Tryz.ntmps4;go_wp2;go_ret;exact⟨rfl,xE⟩
theorem yT (p0:OA)(n0 ao:Nat)(w:World)(hn:(n0:Int)≤1048576)(HE:Hid (Env w))(a7:Hid (BitTab w))
  (HD:Calls Tryz.prog 19 #[.slice p0 n0 ao] w (rW w))(a8:Hid (∀w',Ext w w'→Calls Tryz.prog 7 #[.slice p0 n0 ao] w' (zG w'))):
  Calls Tryz.prog 4 #[.slice p0 n0 ao] w fun e w'=>e= .returned (.bool true)∧Ext w w':=by
 unfold rW at HD;unfold zG at a8;have HD:=xQ HD;have cp:decide ((1048576:Int)<(n0:Int))=false:=by simp;omega
 have cr:decide (1048576<n0)=false:=by simp;omega
 go_enter Tryz.func4,Tryz.ntmps4;go_wp2_with fail;refine HD.out.mono ?_;rintro e w1 ⟨h,p,af,q,c2,rfl,c3,c4,hi,b1⟩;have HI:=xQ hi;have s:=xQ b1;clear hi HD b1 cp cr;obtain⟨r,hr⟩: ∃r,oL h=r:=⟨_,rfl⟩
 have ct:=aB7 h;have aq:=xQ fun(w':World) (hx:Ext w1 w')=>qC h p _ af q _ c2 w' (by omega) (HI.out.ext hx) (a7.out.ext (s.out.trans hx))
 have au:=xQ fun(w':World) (hx:Ext w1 w')=>xP h p _ af q _ c2 w' (by omega) (HI.out.ext hx)
 rw[hr]at aq au ct;unfold dG at aq au;clear hr;go_wp2_with fail;refine(aq _ ((Mem.start w1).c0 aL #[h.aA,h.aB,.slice p h.cells.length af,h.free,h.step,h.aE,h.aF,h.aC,h.aG,.slice q h.vs.length c2]).ext).mono ?_;rintro e w2 ⟨p5,c5,q5,d5,rfl,bv,bx,b2⟩;have M2:=(((Mem.start w1).c0 aL #[h.aA,h.aB,.slice p h.cells.length af,h.free,h.step,h.aE,h.aF,h.aC,h.aG,.slice q h.vs.length c2]).own2 b2 bv bx (Nat.le_refl _) (by decide))
 have be:=M2.hi 2;clear b2 bv bx;go_upto_region 5 with fail;have M3:=(M2.c0 aL #[r.aA,r.aB,.slice p5 r.cells.length c5,r.free,r.step,r.aE,r.aF,r.aC,r.aG,.slice q5 r.vs.length d5])
 generalize (w2.alloc (.cells #[r.aA,r.aB,.slice p5 r.cells.length c5,r.free,r.step,r.aE,r.aF,r.aC,r.aG,.slice q5 r.vs.length d5] aL))=v0 at M3⊢;clear M2 be;have bf:=M3.hi 0;have bg:=M3.hi 3;have I5:=xQ (show IsHouse v0 r p5 _ c5 q5 _ d5 from⟨(M3.sq 1),(M3.sq 2)⟩);have XM:=xQ M3.ext;refine rL (gl [gEq (.agg #[(r.aA:Int),(r.aB:Int),.slice p5 r.cells.length c5,(r.free:Int),(r.step:Int),(r.aE:Int),(r.aF:Int),(r.aC:Int),(r.aG:Int),.slice q5 r.vs.length d5]),gEq (.agg #[(h.aA:Int),(h.aB:Int),.slice p h.cells.length af,(h.free:Int),(h.step:Int),(h.aE:Int),(h.aF:Int),(h.aC:Int),(h.aG:Int),.slice q h.vs.length c2]),(fun v w'=> ∃pa ca qa da,v= .agg #[r.aA,r.aB,.slice pa r.cells.length ca,r.free,r.step,r.aE,r.aF,r.aC,r.aG,.slice qa r.vs.length da]∧IsHouse w' r pa r.cells.length ca qa r.vs.length da),gEq (.bool true),gEq (.bool false)]) 5 5 [(0,some 18),(1,some 19),(2,some 20),(3,some 21),(4,some 22)] ?steps ?fin (hG:=(mN (bN (bS _) (bN (bS _) (bN (fun v w w' ⟨pa,ca,qa,da,e,i⟩ hx=>⟨pa,ca,qa,da,e,i.ext hx⟩) (bN (bS _) (bN (bS _) (pD))))))))
 case steps=>
  refine sC [] rfl (fun wi hx=> ?_) ?_
  ·intro K hK;have hX:Ext v0 wi:=xE;obtain⟨b9,cc,cd,ce,cf,cg,ch,ci,cj,ck⟩:=((M3.bk 0).ext hX).ten;go_simp;exact hK _ _ ⟨.agg #[(r.aA:Int),(r.aB:Int),.slice p5 r.cells.length c5,(r.free:Int),(r.step:Int),(r.aE:Int),(r.aF:Int),(r.aC:Int),(r.aG:Int),.slice q5 r.vs.length d5],rfl,rfl,Ext.refl _⟩
  refine sC [] rfl (fun wi hx=> ?_) ?_
  ·intro K hK;have hX:Ext v0 wi:=xE;obtain⟨b9,cc,cd,ce,cf,cg,ch,ci,cj,ck⟩:=((M3.bk 3).ext hX).ten;go_simp;exact hK _ _ ⟨.agg #[(h.aA:Int),(h.aB:Int),.slice p h.cells.length af,(h.free:Int),(h.step:Int),(h.aE:Int),(h.aF:Int),(h.aC:Int),(h.aG:Int),.slice q h.vs.length c2],rfl,rfl,Ext.refl _⟩
  refine sC [(1,some 19)] rfl (fun wi hx=> ?_) ?_
  ·intro v1 h1 K hK;obtain rfl:=h1;go_simp;refine(au _ (XM.out.trans hx.of_drew)).mono ?_;rintro e w5 ⟨pa,ca,qa,da,rfl,o5,v5,bd⟩;go_simp;exact hK _ _ ⟨.agg #[r.aA,r.aB,.slice pa r.cells.length ca,r.free,r.step,r.aE,r.aF,r.aC,r.aG,.slice qa r.vs.length da],rfl,⟨pa,ca,qa,da,rfl,⟨Sl.own o5,Sl.own v5⟩⟩,bd⟩
  refine sC [(0,some 18),(2,some 20)] rfl (fun wi hx=> ?_) ?_
  ·intro v0 h0 v2 h2 K hK;obtain rfl:=h0;obtain⟨cw,f,cx,cm,rfl,bc⟩:=h2;go_simp;refine(pO r _ _ _ _ _ _ _ _ _ _ _ _ _ (I5.out.ext hx.of_drew) bc).mono ?_;rintro e w5 ⟨rfl,bd⟩;go_simp;exact hK _ _ ⟨.bool true,rfl,rfl,bd⟩
  exact sS1 [(3,some 21)] StepsL.nil
 case fin=>
  intro wi hx v0 h0 v1 h1 v2 h2 v3 h3 v4 h4;obtain rfl:=h0;obtain rfl:=h1;obtain⟨cw,f,cx,cm,rfl,bc⟩:=h2;obtain rfl:=h3;obtain rfl:=h4;have b0:=hx.of_drew;obtain⟨w6,rfl⟩: ∃z,z=wi:=⟨_,rfl⟩
  have M4:=(M3.adv b0)
  clear M3 bf bg hx b0 XM I5 aq au bc;have bh:=M4.hi 0;have bi:=M4.hi 3;refine wpAny_done (by kernel_rfl) ?_ _;try go_frame
  go_wp2_with fail;refine(a8 _ (s.out.trans M4.ext)).mono ?_;rintro e w7 ⟨g,p8,c8,q8,d8,ds,lq,lc,rfl,cy,cz,c0,bt,bu,ap,_⟩;clear a8;have HG:=xQ bt;have HL:=xQ bu;clear bt bu;have M5:=(M4.adv ap)
  clear M4 bh bi ap;have bj:=M5.hi 0;have bl:=M5.hi 3;have M6:=(show Mem w1 w7 [aI w1.heap.size (w1.heap.size) aL #[h.aA,h.aB,.slice p h.cells.length af,h.free,h.step,h.aE,h.aF,h.aC,h.aG,.slice q h.vs.length c2]]from M5.pick [3] (by decide) rfl)
  clear M5 bj bl;have bm:=M6.hi 0;obtain⟨y,hy⟩: ∃y,(mI g ds).1=y:=⟨_,rfl⟩
  have cv:=aA6 g ds;have HR:=xQ fun(w':World) (hx:Ext w7 w')=>qA g p8 _ c8 q8 _ d8 lq _ lc ds w' (HG.out.ext hx) (HL.out.ext hx) (by omega) (a7.out.ext (s.out.trans (M6.ext.trans hx)))
  unfold lL at HR;obtain⟨bs,br⟩: ∃bs,(mI g ds).2=bs:=⟨_,rfl⟩
  rw[hy,br]at HR;rw[hy]at cv;clear br;obtain⟨E,hE⟩: ∃E,oL y=E:=⟨_,rfl⟩
  have cn:=aB7 y;rw[hE]at cn;have bp:=xQ fun(w':World) (hx:Ext w7 w')=>kC g p8 _ c8 q8 _ d8 w' (HG.out.ext hx)
  have L7:=xQ M6.ext;clear M6 bm;go_wp2_with fail;refine(HR _ ((Mem.start w7).c0 aL #[g.aA,g.aB,.slice p8 g.cells.length c8,g.free,g.step,g.aE,g.aF,g.aC,g.aG,.slice q8 g.vs.length d8]).ext).mono ?_;rintro e w8 ⟨p9,c9,q9,d9,pb,cb,rfl,bw,bz,co,ap⟩;clear HR co;have am:=(((Mem.start w7).c0 aL #[g.aA,g.aB,.slice p8 g.cells.length c8,g.free,g.step,g.aE,g.aF,g.aC,g.aG,.slice q8 g.vs.length d8]).own2 ap bw bz (Nat.le_refl _) (by decide))
  have aw:=am.hi 2;clear ap bw bz;have ar:=xQ (qC y p9 _ c9 q9 _ d9 _ (by omega) ⟨((am.c0 aL #[y.aA,y.aB,.slice p9 y.cells.length c9,y.free,y.step,y.aE,y.aF,y.aC,y.aG,.slice q9 y.vs.length d9]).sq 1),((am.c0 aL #[y.aA,y.aB,.slice p9 y.cells.length c9,y.free,y.step,y.aE,y.aF,y.aC,y.aG,.slice q9 y.vs.length d9]).sq 2)⟩ (a7.out.ext (s.out.trans (L7.out.trans (am.c0 aL #[y.aA,y.aB,.slice p9 y.cells.length c9,y.free,y.step,y.aE,y.aF,y.aC,y.aG,.slice q9 y.vs.length d9]).ext))));rw[hE]at ar;unfold dG at ar;go_wp2_with fail;refine ar.out.mono ?_;rintro e b4 ⟨p6,c6,q6,d6,rfl,a2,a3,a4⟩;have an:=((am.c0 aL #[y.aA,y.aB,.slice p9 y.cells.length c9,y.free,y.step,y.aE,y.aF,y.aC,y.aG,.slice q9 y.vs.length d9]).own2 a4 a2 a3 (Nat.le_refl _) (by decide))
  clear am aw a4 a2 a3 ar;have ax:=an.hi 2;have ay:=an.hi 5;obtain⟨j,k,f,aa,ab,ad,ae,n,o,l⟩:=(an.bk 5).ten;go_wp2_with fail;clear j k f aa ab ad ae n o l;refine(bp _ (an.c0 aL #[E.aA,E.aB,.slice p6 E.cells.length c6,E.free,E.step,E.aE,E.aF,E.aC,E.aG,.slice q6 E.vs.length d6]).ext).mono ?_;rintro e c7 ⟨rfl,a5⟩;have b:=((an.c0 aL #[E.aA,E.aB,.slice p6 E.cells.length c6,E.free,E.step,E.aE,E.aF,E.aC,E.aG,.slice q6 E.vs.length d6]).adv a5)
  clear an ax ay a5 bp;have ag:=b.hi 0;have ah:=b.hi 3;have ai:=b.hi 6;by_cases hok:aT g=true
  ·skip;rw[hok];have av:aT y=true:=by rw[←hy];unfold mI;rw[if_pos hok];exact tE _ hok
   have cs:=aLj av;obtain⟨_,_,c1,_,_⟩:=(dS y).1 av;have t:=aGh av;rw[hE]at t;have IY:=xQ (show IsHouse _ y p9 _ c9 q9 _ d9 from⟨(b.sq 4),(b.sq 5)⟩);have a9:=xQ (vL y p9 _ c9 q9 _ d9 _ (IY.out));obtain⟨X,hX⟩: ∃x,eK y=x:=⟨_,rfl⟩
   rw[hX]at a9 cs t;clear hX av hE hy hok;obtain⟨j,k,f,aa,ab,ad,ae,n,o,l⟩:=(b.bk 3).ten;go_wp2_with fail;clear j k f aa ab ad ae n o l;refine a9.out.mono ?_;rintro e b5 ⟨rfl,u⟩;have a:=(b.adv u)
   clear b ag ah ai u a9 IY;have aj:=a.hi 0;have ak:=a.hi 3;have al:=a.hi 6;by_cases hle:y.aG+X≤99999
   ·skip;obtain⟨l1,l2,l3,l4,l5⟩:=t hle;clear t;have t0:decide (99999<y.aG+X)=false:=by simp;omega
    have t1:((E.vs.length:Int)==0)=true:=by rw[l3];rfl
    have t2:(E.aG==y.aG+X)=true:=by simp[l4]
    have t3:(E.aC==y.aC)=true:=by simp[l5]
    have i0:IntKind.i64.wrap (y.aG+X)=y.aG+X:=IntWalk.i64_in _ (by omega);have IE:=xQ (show IsHouse b5 E p6 _ c6 q6 _ d6 from⟨(a.sq 1),(a.sq 2)⟩);have ba:=xQ (kF E p6 _ c6 q6 _ d6 _ IE.out);rw[l1]at ba
    have bo:Hid (∀w',IsHouse w' E p6 E.cells.length c6 q6 E.vs.length d6→Calls Tryz.prog 23 #[.agg #[E.aA,E.aB,.slice p6 E.cells.length c6]] w' fun e w''=> ∃q c,e= .returned (.slice q 0 c)∧Ext w' w''):=fun w' hi=>(aDc E.aA E.aB p6 _ c6 E.cells w' hi.cells).mono (by
     rintro e w'' ⟨q,c,rfl,_,hx⟩;rw[l2]
     exact⟨q,c,by simp,hx⟩)
    clear l1 l2 l3 l4 l5;obtain⟨j,k,f,aa,ab,ad,ae,n,o,l⟩:=(a.bk 0).ten;have bq:=(a.bk 3).cl 7;have bb:=(a.bk 3).cl 8;go_wp2_with fail;clear j k f aa ab ad ae n o l bq bb t0;refine ba.out.mono ?_;rintro e db ⟨rfl,a6⟩;have d:=(a.adv a6)
    clear a aj ak al a6 ba;have az:=d.hi 0;have a0:=d.hi 3;have a1:=d.hi 6;have j:=(d.bk 0).cl 0;have k:=(d.bk 0).cl 1;have f:=(d.bk 0).cl 2;have l:=(d.bk 0).cl 9;go_wp2_with fail;clear j k f l t1;refine(bo _ ⟨(d.sq 1),(d.sq 2)⟩).mono ?_;rintro e wq ⟨qq,cq,rfl,b3⟩;have m:=(d.adv b3)
    clear d az a0 a1 b3 bo IE;have b6:=m.hi 0;have b7:=m.hi 3;have b8:=m.hi 6;have n:=(m.bk 0).cl 7;have o:=(m.bk 0).cl 8;have bq:=(m.bk 3).cl 7;have bb:=(m.bk 3).cl 8;go_wp2;go_ret;exact⟨rfl,s.out.trans (L7.out.trans m.ext)⟩
   skip;have t0:decide (99999<y.aG+X)=true:=by simp;omega
   have i0:IntKind.i64.wrap (y.aG+X)=y.aG+X:=IntWalk.i64_in _ (by omega);clear t;have bb:=(a.bk 3).cl 8;go_wp2;go_ret;exact⟨rfl,s.out.trans (L7.out.trans a.ext)⟩
  skip;obtain rfl:y=hZ:=by rw[←hy];unfold mI;rw[if_neg hok]
  obtain rfl:E=hZ:=by rw[←hE];exact aKf aLb
  rw[show aT g=false by simpa using hok];have HN:=xQ (aCq p6 c6 q6 d6 _ ⟨(b.sq 1),(b.sq 2)⟩);clear hy hE hok;unfold hZ at*;obtain⟨j,k,f,aa,ab,ad,ae,n,o,l⟩:=(b.bk 0).ten;go_wp2_with fail;clear j k f aa ab ad ae n o l;refine HN.out.mono ?_;rintro e b5 ⟨rfl,u⟩;have a:=(b.adv u)
  clear b ag ah ai u HN;have aj:=a.hi 0;have ak:=a.hi 3;have al:=a.hi 6;go_wp2_with fail;refine(aGn _ (HE.out.ext (s.out.trans (L7.out.trans a.ext)))).mono ?_;rintro e w9 ⟨rfl,cu⟩;have X9:Ext w w9:=s.out.trans (L7.out.trans (a.ext.trans cu));go_wp2;go_ret;exact⟨rfl,X9⟩
theorem walk_FnHouseEnd (W:World)(v:Value)(u:Unit)(hc:Code W v)(hE:Env W)(hB:BitTab W):Calls Tryz.prog 4 #[v] W fun e w'=>e= .returned (.bool true)∧Ext W w':=by
 have hD:=yY v W hc;have b:=fun(w':World) (hx:Ext W w')=>yX v w' (hc.ext hx)
 obtain⟨p0,n,a,bs,rfl,h,hb⟩:=hc;by_cases hn:(n:Int)≤1048576
 ·exact yT p0 n a W hn (xQ hE) (xQ hB) hD (xQ b)
 exact uR p0 n a W (by omega)
end Go.Proofs.YtpelpnfhbepokaaGreatDoor
