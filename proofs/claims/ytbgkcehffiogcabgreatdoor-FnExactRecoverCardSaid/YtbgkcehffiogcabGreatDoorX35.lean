/-
  Texts of this proof, packed (@packed).
-/
import Derived.Test.YtbgkcehffiogcabGreatDoorX34
namespace Go.Proofs.YtbgkcehffiogcabGreatDoor
open Go.RowKit Go.Proofs.Tryz
set_option linter.unusedSimpArgs false
set_option linter.unusedVariables false
set_option maxHeartbeats 8000000
set_option maxRecDepth 100000
def jB (r:aS)(n:Int)(b:Bool)(w:World)(e:Ending)(w':World):Prop:=
 ∃p c q d,e= .returned (.tuple #[cY r p r.cells.length c q r.vs.length d,n,.bool b])∧w'.ownsRow w.heap.size TI 1 (.slice p r.cells.length c) r.cells.length (ivs r.cells)∧
  w'.ownsRow w.heap.size tC 4 (.slice q r.vs.length d) r.vs.length (r.vs.flatMap aD)∧Ext w w'
def sV (o:Option (aS×Int))(w:World)(e:Ending)(w':World):Prop:=jB ((o.map (·.1)).getD lR) ((o.map (·.2)).getD 0) o.isSome w e w'
theorem iU {o:Option (aS×Int)}{w w':World}(h:o=none)(hx:Ext w w'):sV o w (.returned (.tuple #[.agg #[(),(),((),()),(),(),(),(),(),(),((),())],(),.bool false])) w':=by subst h;exact⟨none,0,none,0,rfl,aTl _ _ _ _,aTl _ _ _ _,hx⟩
theorem uS {o:Option (aS×Int)}{W D f s pr cp ck bk x:Int}{xs:List Int}{vs:List aU}{w w':World}{p q:OA}{c d:Nat}(h:o=some (⟨W,D,xs,f,s,pr,cp,ck,bk,vs⟩,x))
  (ho:w'.ownsRow w TI 1 (.slice p xs c) xs.length (ivs xs))(hv:w'.ownsRow w tC 4 (.slice q vs d) vs.length (vs.flatMap aD))(hx:Ext w w'):
  sV o w (.returned (.tuple #[.agg #[W,D,.slice p xs c,f,s,pr,cp,ck,bk,.slice q vs d],x,.bool true])) w':=by
 subst h;exact⟨p,c,q,d,rfl,ho,hv,hx⟩
theorem rO (c:UInt8): ∀l:List UInt8,(cX c l).length≤l.length∧(fH c l).length≤l.length:=by
 intro l;induction l with
 |nil=>simp[cX,fH]
 |cons x xs ih=>simp only[cX,fH];split<;>simp<;>omega
theorem aEn (l:List UInt8)(w:World)(hs:l.length≤1048576)(hE:Env w):U 24 #[str l] w (sV (cZ l) w):=by
 have HC:Hid (∀(q:List UInt8) (c:UInt8),q.length≤1048576→ ∀w,Env w→U 61 #[str q,.string ⟨#[c]⟩] w (Z (.tuple #[str (cX c q),str (fH c q),.bool (Lib.cut q [c]).2.2]) w)):=fun q c hq w hE=>aB0 q c w (by omega) hE
 obtain⟨fs,am⟩: ∃x,cX 124 l=x:=⟨_,rfl⟩
 obtain⟨rs,ao⟩: ∃x,fH 124 l=x:=⟨_,rfl⟩
 have bm:fs.length≤1048576:=by rw[←am];exact aTb (rO 124 l).1 hs
 have a0:rs.length≤1048576:=by rw[←ao];exact aTb (rO 124 l).2 hs
 have ar:=xQ (HC l 124 hs);rw[am,ao]at ar;obtain⟨hh,an⟩: ∃x,cX 35 rs=x:=⟨_,rfl⟩
 have bl:hh.length≤1048576:=by rw[←an];exact aTb (rO 35 rs).1 a0
 have ak:=xQ (HC rs 35 a0);rw[an]at ak;generalize (Lib.cut l [124]).2.2=k1 at ar;generalize (Lib.cut rs [35]).2.2=k2 at ak;generalize fH 35 rs=rr at ak;have al:Hid (cZ l=match bH 2 fs,bF hh with|some n,some h=>if eP h n=l then some (h,n)else none|_,_=>none):=by show _=_;unfold cZ;rw[am,ao,an];rfl
 obtain⟨x,hx⟩: ∃x,(bH 2 fs).getD 0=x:=⟨_,rfl⟩
 obtain⟨b2,au⟩: ∃x,(bH 2 fs).isSome=x:=⟨_,rfl⟩
 have a8:=xQ hx;have ax:=xQ au;have a7:Hid (∀w,U 62 #[str fs,I 2] w fun e w'=>e= .returned (.tuple #[x,.bool b2])∧w=w'):=by intro w;subst hx;subst au;exact mB fs 2 (by omega) (by unfold maxLen;omega) w
 have HE:=xQ hE;obtain⟨⟨W,D,xs,f,s,pr,cp,ck,bk,vs⟩,hH⟩: ∃H:aS,(bF hh).getD lR=H:=⟨_,rfl⟩
 obtain⟨b,hb⟩: ∃b:Bool,(bF hh).isSome=b:=⟨_,rfl⟩
 have HB:=xQ hb;have HH:=xQ hH;have a6:Hid (∀w,Env w→U 63 #[str hh] w fun e w'=> ∃p c q d,e= .returned (.tuple #[.agg #[W,D,.slice p xs c,f,s,pr,cp,ck,bk,.slice q vs d],.bool b])∧w'.ownsRow w TI 1 (.slice p xs c) xs.length (ivs xs)∧w'.ownsRow w tC 4 (.slice q vs d) vs.length (vs.flatMap aD)∧Ext w w'):=by intro w hE;have h:=aBq hh w bl hE;rw[hH,hb]at h;exact h
 clear HC am ao an hx au hE hb hH;go_enter func24,ntmps24;go_wp2_with fail;refine Ω (ar _ (HE.out.ext ((Mem.start w).c0 kD zT).ext)) fun w1 a1=>?_
 have M1:=(((Mem.start w).c0 kD zT).adv a1)
 have av:=M1.hi 0;clear a1;go_wp2_with fail;refine Ω (ak _ (HE.out.ext M1.ext)) fun w2 a2=>?_
 have M2:=(M1.adv a2)
 clear M1 av a2;have af:=M2.hi 0;go_wp2_with fail;refine(a7 _).mono ?_;rintro e bo ⟨rfl,rfl⟩;cases b2 with
 |false=>
  have ad:Hid (cZ l=none):=by
   show _=_;rw[al.out];have:=ax.out;cases hq:bH 2 fs with
   |none=>rfl
   |some z=>rw[hq]at this;simp at this
  obtain⟨z0,g,z1,j,z2,k,z3,m,z4,o,z5,r,z6,u,z7,y,z8,aa,z9,ab⟩:=(M2.bk 0).tenf;go_wp2;clear z0 g z1 j z2 k z3 m z4 o z5 r z6 u z7 y z8 aa z9 ab af;have M3:=(M2.put10 (i:=0) rfl (I 0) (I 0) (.slice none 0 0) (I 0) (I 0) (I 0) (I 0) (I 0) (I 0) (.slice none 0 0))
  generalize a:World.setCell _ _ _=wz;rw[a]at M3;clear a M2;obtain⟨y0,y1,y2,y3,y4,y5,y6,y7,y8,y9⟩:=(M3.bk 0).ten;exact bodyPost_ret (v:= .tuple #[.agg #[(),(),((),()),(),(),(),(),(),(),((),())],(),.bool false]) (by simp[results,results24,go_sem, *]) rfl (iU ad.out M3.ext)
 |true=>
  have hn:Hid (bH 2 fs=some x):=by
   show _=_;have h1:=ax.out;have h2:=a8.out;cases hq:bH 2 fs with
   |none=>rw[hq]at h1;simp at h1
   |some z=>rw[hq]at h2;simpa using h2
  go_wp2_with fail;refine(a6 _ (HE.out.ext M2.ext)).mono ?_;rintro e w3 ⟨p,c,q,d,rfl,oc,os,a3⟩;have M3:=(M2.own2s a3 oc os (aT2 _) (by decide))
  clear M2 af a3 oc os;have aw:=M3.hi 2;go_upto_region 7 with fail;have M4:=(M3.c0 kD #[W,D,.slice p xs c,f,s,pr,cp,ck,bk,.slice q vs d])
  generalize (w3.alloc (.cells #[W,D,.slice p xs c,f,s,pr,cp,ck,bk,.slice q vs d] kD))=w5 at M4⊢;clear M3 aw;have ag:=M4.hi 0;have ah:=M4.hi 3;cases b with
  |false=>
   have ad:Hid (cZ l=none):=by
    show _=_;rw[al.out,hn.out];have:=HB.out;cases hq:bF hh with
    |none=>rfl
    |some z=>rw[hq]at this;simp at this
   obtain⟨z0,g,z1,j,z2,k,z3,m,z4,o,z5,r,z6,u,z7,y,z8,aa,z9,ab⟩:=(M4.bk 3).tenf;go_wp2;clear z0 g z1 j z2 k z3 m z4 o z5 r z6 u z7 y z8 aa z9 ab ag ah;have M5:=(M4.put10 (i:=3) rfl (I 0) (I 0) (.slice none 0 0) (I 0) (I 0) (I 0) (I 0) (I 0) (I 0) (.slice none 0 0))
   generalize a:World.setCell _ _ _=wz;rw[a]at M5;clear a M4;obtain⟨y0,y1,y2,y3,y4,y5,y6,y7,y8,y9⟩:=(M5.bk 3).ten;exact bodyPost_ret (v:= .tuple #[.agg #[(),(),((),()),(),(),(),(),(),(),((),())],(),.bool false]) (by simp[results,results24,go_sem, *]) rfl (iU ad.out M5.ext)
  |true=>
   have ae:Hid (bF hh=some ⟨W,D,xs,f,s,pr,cp,ck,bk,vs⟩):=by
    show _=_;have h1:=HB.out;have h2:=HH.out;cases hq:bF hh with
    |none=>rw[hq]at h1;simp at h1
    |some z=>rw[hq]at h2;simpa using h2
   have HI:Hid (IsHouse w5 ⟨W,D,xs,f,s,pr,cp,ck,bk,vs⟩ p xs.length c q vs.length d):=⟨M4.sq 1,M4.sq 2⟩
   have HT:Hid (∀(w':World),Ext w5 w'→Env w'→U 20 #[.agg #[W,D,.slice p xs c,f,s,pr,cp,ck,bk,.slice q vs d],x] w' (Z (str (eP ⟨W,D,xs,f,s,pr,cp,ck,bk,vs⟩ x)) w')):=fun w' hx hE=>aEi ⟨W,D,xs,f,s,pr,cp,ck,bk,vs⟩ x p xs.length c q vs.length d w' hE (HI.out.ext hx)
   generalize az:eP ⟨W,D,xs,f,s,pr,cp,ck,bk,vs⟩ x=t at*;have ay:=xQ az;clear az HI;obtain⟨a9,ba,bb,bc,bd,be,bf,bg,bh,bi⟩:=(M4.bk 0).ten;go_wp2_with fail;clear a9 ba bb bc bd be bf bg bh bi;refine Ω (HT _ (Ext.refl _) (HE.out.ext M4.ext)) fun w4 a4=>?_
   have M5:=(M4.adv a4)
   clear M4 ag ah a4;have ai:=M5.hi 0;have aj:=M5.hi 3;by_cases ht:t=l
   ·skip;have bj:(t==l)=true:=by simp[ht]
    have a5:Hid (cZ l=some (⟨W,D,xs,f,s,pr,cp,ck,bk,vs⟩,x)):=by show _=_;rw[al.out,hn.out,ae.out];simp[ay.out,ht]
    clear ht;obtain⟨z0,g,z1,j,z2,k,z3,m,z4,o,z5,r,z6,u,z7,y,z8,aa,z9,ab⟩:=(M5.bk 3).tenf;obtain⟨b0,b1,b2,b3,b4,b5,b6,b7,b8,b9⟩:=(M5.bk 0).ten;obtain⟨ap,aq⟩:=M5.nq 0 3;go_wp2;clear z0 g z1 j z2 k z3 m z4 o z5 r z6 u z7 y z8 aa z9 ab b0 b1 b2 b3 b4 b5 b6 b7 b8 b9 ap aq ai aj;have M6:=(M5.put10 (i:=3) rfl (I W) (I D) (.slice p xs c) (I f) (I s) (I pr) (I cp) (I ck) (I bk) (.slice q vs d))
    generalize a:World.setCell _ _ _=wz;rw[a]at M6;clear a M5;obtain⟨y0,y1,y2,y3,y4,y5,y6,y7,y8,y9⟩:=(M6.bk 3).ten;exact bodyPost_ret (v:= .tuple #[.agg #[W,D,.slice p xs c,f,s,pr,cp,ck,bk,.slice q vs d],x,.bool true]) (by simp[results,results24,go_sem, *]) rfl (uS a5.out (M6.ow 1) (M6.ow 2) M6.ext)
   skip;have bj:(t==l)=false:=by simp[ht]
   have ad:Hid (cZ l=none):=by show _=_;rw[al.out,hn.out,ae.out];simp[ay.out,ht]
   clear ht;obtain⟨z0,g,z1,j,z2,k,z3,m,z4,o,z5,r,z6,u,z7,y,z8,aa,z9,ab⟩:=(M5.bk 3).tenf;go_wp2;clear z0 g z1 j z2 k z3 m z4 o z5 r z6 u z7 y z8 aa z9 ab ai aj;have M6:=(M5.put10 (i:=3) rfl (I 0) (I 0) (.slice none 0 0) (I 0) (I 0) (I 0) (I 0) (I 0) (I 0) (.slice none 0 0))
   generalize a:World.setCell _ _ _=wz;rw[a]at M6;clear a M5;obtain⟨y0,y1,y2,y3,y4,y5,y6,y7,y8,y9⟩:=(M6.bk 3).ten;exact bodyPost_ret (v:= .tuple #[.agg #[(),(),((),()),(),(),(),(),(),(),((),())],(),.bool false]) (by simp[results,results24,go_sem, *]) rfl (iU ad.out M6.ext)
theorem aDm (l:List UInt8)(w:World)(hs:l.length≤1048576):U 21 #[str l] w (sV (cZ l) w):=by
 have HS:Hid (∀q:List UInt8,q.length≤1048576→ ∀(c:UInt8) (ci:Int),ci=(c.toNat:Int)→ ∀w,U 55 #[str q,.int .u8 ci] w fun e w'=> ∃v,e= .returned v∧w'.ownsRow w qC 1 v (aK c q).length (eQ (aK c q))∧Ext w w'):=
  fun q hq c ci hc w=>lQ ⟨q.toArray⟩ c ci hc w (by simp only[ByteArray.size,List.size_toArray];omega)
 have ai:0<(aK 35 l).length:=List.length_pos_iff.2 (eN 35 l);obtain⟨u,hu⟩: ∃q,(aK 35 l)[0]? =some q:=⟨_,aT3 ai⟩
 have av:u.length≤1048576:=aTb ((eC 35 l).1 u (aT4 hu)) hs;have a6:fS (aK 35 l) 0=u:=kX hu;have af:0<(aK 124 u).length:=List.length_pos_iff.2 (eN 124 u);obtain⟨fs,ao⟩: ∃q,(aK 124 u)[0]? =some q:=⟨_,aT3 af⟩
 have cb:fs.length≤1048576:=aTb ((eC 124 u).1 fs (aT4 ao)) av;have cc:=(eC 35 l).2;have cd:=(eC 124 u).2;have ay:=xQ (HS l hs 35 35 rfl);have a0:=xQ (HS u av 124 124 rfl);have ah:Hid (cZ l=if(aK 35 l).length=2∧(aK 124 u).length=2 then(match bF (fS (aK 124 u) 1)with|some h=>if eP h ((bH 4 fs).getD (-1))=l then some (h,(bH 4 fs).getD (-1))else none|none=>none)else none):=by show _=_;rw[aIt];unfold mW nI oP;rw[a6,kX ao];simp;rfl
 have HU:=xQ hu;have bc:=xQ ao;have bf:Hid (∀w,U 57 #[str fs] w fun e w'=>e= .returned (I ((bH 4 fs).getD (-1)))∧w=w'):=fun w=>nV fs (by unfold maxLen;omega) w
 generalize hx:(bH 4 fs).getD (-1)=x at*;have bu:=ai;have ca:=af;have bh:=xQ HU.out;have az:Hid (∀w,U 55 #[str l,.int .u8 35] w fun e w'=> ∃g c,e= .returned (.slice (some ⟨g,0,none⟩) (aK 35 l).length c)∧w'.ownsRow w qC 1 (.slice (some ⟨g,0,none⟩) (aK 35 l).length c) (aK 35 l).length (eQ (aK 35 l))∧Ext w w'):=by intro w;refine(ay w).mono ?_;rintro e w' ⟨v,rfl,ho,hx⟩;obtain⟨g,c,rfl⟩:=aTc ho ai;exact⟨g,c,rfl,ho,hx⟩
 have a1:Hid (∀w,U 55 #[str u,.int .u8 124] w fun e w'=> ∃g c,e= .returned (.slice (some ⟨g,0,none⟩) (aK 124 u).length c)∧w'.ownsRow w qC 1 (.slice (some ⟨g,0,none⟩) (aK 124 u).length c) (aK 124 u).length (eQ (aK 124 u))∧Ext w w'):=by intro w;refine(a0 w).mono ?_;rintro e w' ⟨v,rfl,ho,hx⟩;obtain⟨g,c,rfl⟩:=aTc ho af;exact⟨g,c,rfl,ho,hx⟩
 generalize hT:(aK 35 l).length=T at*;generalize hP:(aK 124 u).length=P at*;have bz:=xQ hT;have be:=xQ hP;clear HS ay a0 hu ao a6 hx hT hP bh;go_enter func21,ntmps21;go_wp2_with fail;refine(az _).mono ?_;rintro e w1 ⟨g1,c1,rfl,a4,a7⟩;have M1:=(((Mem.start w).c0 kD zT).call a7 a4)
 have aw:=M1.hi 1;clear a7 a4;have bw:g1<w1:=(M1.hi 0)
 have e0:w1.cell? ⟨g1,0,none⟩=some (str u):=aW (M1.ow 0) 0 bu _ HU.out;have i1:(0:Int)<(T:Int):=by omega
 go_wp2_with fail;clear e0 bw;refine(a1 _).mono ?_;rintro e w2 ⟨g2,c2,rfl,a5,a8⟩;have M2:=(M1.call a8 a5)
 clear M1 aw a8 a5;have ag:=M2.hi 2;by_cases hTT:T=2
 ·by_cases hPP:P=2
  ·skip;subst hTT;subst hPP;obtain⟨hh,ap⟩: ∃q,(aK 124 u)[1]? =some q:=⟨_,aT3 (by rw[be.out];omega)⟩
   have bx:hh.length≤1048576:=aTb ((eC 124 u).1 hh (aT4 ap)) av;have bd:=xQ ap;rw[kX ap]at ah;obtain⟨⟨W,D,xs,f,s,pr,cp,ck,bk,vs⟩,hH⟩: ∃H:aS,(bF hh).getD lR=H:=⟨_,rfl⟩
   obtain⟨b,hb⟩: ∃b:Bool,(bF hh).isSome=b:=⟨_,rfl⟩
   have HB:=xQ hb;have HH:=xQ hH;have bg:Hid (∀w,U 56 #[str hh] w fun e w'=> ∃p c q d,e= .returned (.tuple #[.agg #[W,D,.slice p xs c,f,s,pr,cp,ck,bk,.slice q vs d],.bool b])∧w'.ownsRow w TI 1 (.slice p xs c) xs.length (ivs xs)∧w'.ownsRow w tC 4 (.slice q vs d) vs.length (vs.flatMap aD)∧Ext w w'):=by intro w;have h:=aBa hh w bx;rw[hH,hb]at h;exact h
   have au:g2<w2:=(M2.hi 0)
   have e1:w2.cell? ⟨g2,1,none⟩=some (str hh):=aW (M2.ow 0) 1 (by omega) _ bd.out;clear hb hH ap i1;go_wp2_with fail;refine(bg _).mono ?_;rintro e w3 ⟨p,c,q,d,rfl,oc,os,a9⟩;clear e1 au;have M3:=(M2.own2s a9 oc os (aT2 _) (by decide))
   clear M2 ag a9 oc os;have ax:=M3.hi 4;have au:g2<w3:=(M3.hi 2)
   have e2:w3.cell? ⟨g2,0,none⟩=some (str fs):=aW (M3.ow 2) 0 (by omega) _ bc.out;go_wp2_with fail;refine(bf _).mono ?_;rintro e ce ⟨rfl,rfl⟩;clear e2 au;go_upto_region 7 with fail;have M4:=(M3.c0 kD #[W,D,.slice p xs c,f,s,pr,cp,ck,bk,.slice q vs d])
   generalize (w3.alloc (.cells #[W,D,.slice p xs c,f,s,pr,cp,ck,bk,.slice q vs d] kD))=w5 at M4⊢;clear M3 ax;have ak:=M4.hi 0;have al:=M4.hi 5;cases b with
   |false=>
    have ae:Hid (cZ l=none):=by
     show _=_;rw[ah.out];have:=HB.out;cases hq:bF hh with
     |none=>simp
     |some z=>rw[hq]at this;simp at this
    obtain⟨z0,j,z1,k,z2,m,z3,n,z4,o,z5,r,z6,y,z7,aa,z8,ab,z9,ad⟩:=(M4.bk 5).tenf;go_wp2;clear z0 j z1 k z2 m z3 n z4 o z5 r z6 y z7 aa z8 ab z9 ad ak al;have M5:=(M4.put10 (i:=5) rfl (I 0) (I 0) (.slice none 0 0) (I 0) (I 0) (I 0) (I 0) (I 0) (I 0) (.slice none 0 0))
    generalize a:World.setCell _ _ _=wz;rw[a]at M5;clear a M4;obtain⟨y0,y1,y2,y3,y4,y5,y6,y7,y8,y9⟩:=(M5.bk 5).ten;exact bodyPost_ret (v:= .tuple #[.agg #[(),(),((),()),(),(),(),(),(),(),((),())],(),.bool false]) (by simp[results,results21,go_sem, *]) rfl (iU ae.out M5.ext)
   |true=>
    have aj:Hid (bF hh=some ⟨W,D,xs,f,s,pr,cp,ck,bk,vs⟩):=by
     show _=_;have h1:=HB.out;have h2:=HH.out;cases hq:bF hh with
     |none=>rw[hq]at h1;simp at h1
     |some z=>rw[hq]at h2;simpa using h2
    have HI:Hid (IsHouse w5 ⟨W,D,xs,f,s,pr,cp,ck,bk,vs⟩ p xs.length c q vs.length d):=⟨M4.sq 1,M4.sq 2⟩
    have HT:Hid (∀(w':World),Ext w5 w'→U 35 #[.agg #[W,D,.slice p xs c,f,s,pr,cp,ck,bk,.slice q vs d],x] w' (Z (str (eP ⟨W,D,xs,f,s,pr,cp,ck,bk,vs⟩ x)) w')):=fun w' hx=>aDl ⟨W,D,xs,f,s,pr,cp,ck,bk,vs⟩ x p xs.length c q vs.length d w' (HI.out.ext hx)
    generalize a3:eP ⟨W,D,xs,f,s,pr,cp,ck,bk,vs⟩ x=t at*;have a2:=xQ a3;clear a3 HI;obtain⟨bi,bj,bl,bm,bo,bp,bq,br,bs,bt⟩:=(M4.bk 0).ten;go_wp2_with fail;clear bi bj bl bm bo bp bq br bs bt;refine Ω (HT _ (Ext.refl _)) fun w4 ba=>?_
    have M5:=(M4.adv ba)
    clear M4 ak al ba;have am:=M5.hi 0;have an:=M5.hi 5;by_cases ht:t=l
    ·skip;have bv:(t==l)=true:=by simp[ht]
     have bb:Hid (cZ l=some (⟨W,D,xs,f,s,pr,cp,ck,bk,vs⟩,x)):=by show _=_;rw[ah.out,aj.out];simp[a2.out,ht]
     clear ht;obtain⟨z0,j,z1,k,z2,m,z3,n,z4,o,z5,r,z6,y,z7,aa,z8,ab,z9,ad⟩:=(M5.bk 5).tenf;obtain⟨b0,b1,b2,b3,b4,b5,b6,b7,b8,b9⟩:=(M5.bk 0).ten;obtain⟨aq,ar⟩:=M5.nq 0 5;go_wp2;clear z0 j z1 k z2 m z3 n z4 o z5 r z6 y z7 aa z8 ab z9 ad b0 b1 b2 b3 b4 b5 b6 b7 b8 b9 aq ar am an;have M6:=(M5.put10 (i:=5) rfl (I W) (I D) (.slice p xs c) (I f) (I s) (I pr) (I cp) (I ck) (I bk) (.slice q vs d))
     generalize a:World.setCell _ _ _=wz;rw[a]at M6;clear a M5;obtain⟨y0,y1,y2,y3,y4,y5,y6,y7,y8,y9⟩:=(M6.bk 5).ten;exact bodyPost_ret (v:= .tuple #[.agg #[W,D,.slice p xs c,f,s,pr,cp,ck,bk,.slice q vs d],x,.bool true]) (by simp[results,results21,go_sem, *]) rfl (uS bb.out (M6.ow 1) (M6.ow 2) M6.ext)
    skip;have bv:(t==l)=false:=by simp[ht]
    have ae:Hid (cZ l=none):=by show _=_;rw[ah.out,aj.out];simp[a2.out,ht]
    clear ht;obtain⟨z0,j,z1,k,z2,m,z3,n,z4,o,z5,r,z6,y,z7,aa,z8,ab,z9,ad⟩:=(M5.bk 5).tenf;go_wp2;clear z0 j z1 k z2 m z3 n z4 o z5 r z6 y z7 aa z8 ab z9 ad am an;have M6:=(M5.put10 (i:=5) rfl (I 0) (I 0) (.slice none 0 0) (I 0) (I 0) (I 0) (I 0) (I 0) (I 0) (.slice none 0 0))
    generalize a:World.setCell _ _ _=wz;rw[a]at M6;clear a M5;obtain⟨y0,y1,y2,y3,y4,y5,y6,y7,y8,y9⟩:=(M6.bk 5).ten;exact bodyPost_ret (v:= .tuple #[.agg #[(),(),((),()),(),(),(),(),(),(),((),())],(),.bool false]) (by simp[results,results21,go_sem, *]) rfl (iU ae.out M6.ext)
  skip;have ae:Hid (cZ l=none):=by show _=_;rw[ah.out,if_neg];rintro⟨_,h⟩;exact hPP h
  have q2:((P:Int)!=2)=true:=by simp;omega
  subst hTT;clear hPP;obtain⟨z0,j,z1,k,z2,m,z3,n,z4,o,z5,r,z6,y,z7,aa,z8,ab,z9,ad⟩:=(M2.bk 2).tenf;go_wp2;clear z0 j z1 k z2 m z3 n z4 o z5 r z6 y z7 aa z8 ab z9 ad ag;have M3:=(M2.put10 (i:=2) rfl (I 0) (I 0) (.slice none 0 0) (I 0) (I 0) (I 0) (I 0) (I 0) (I 0) (.slice none 0 0))
  generalize a:World.setCell _ _ _=wz;rw[a]at M3;clear a M2;obtain⟨y0,y1,y2,y3,y4,y5,y6,y7,y8,y9⟩:=(M3.bk 2).ten;exact bodyPost_ret (v:= .tuple #[.agg #[(),(),((),()),(),(),(),(),(),(),((),())],(),.bool false]) (by simp[results,results21,go_sem, *]) rfl (iU ae.out M3.ext)
 skip;have ae:Hid (cZ l=none):=by show _=_;rw[ah.out,if_neg];rintro⟨h,_⟩;exact hTT h
 have q1:((T:Int)!=2)=true:=by simp;omega
 clear hTT;obtain⟨z0,j,z1,k,z2,m,z3,n,z4,o,z5,r,z6,y,z7,aa,z8,ab,z9,ad⟩:=(M2.bk 2).tenf;go_wp2;clear z0 j z1 k z2 m z3 n z4 o z5 r z6 y z7 aa z8 ab z9 ad ag;have M3:=(M2.put10 (i:=2) rfl (I 0) (I 0) (.slice none 0 0) (I 0) (I 0) (I 0) (I 0) (I 0) (I 0) (.slice none 0 0))
 generalize a:World.setCell _ _ _=wz;rw[a]at M3;clear a M2;obtain⟨y0,y1,y2,y3,y4,y5,y6,y7,y8,y9⟩:=(M3.bk 2).ten;exact bodyPost_ret (v:= .tuple #[.agg #[(),(),((),()),(),(),(),(),(),(),((),())],(),.bool false]) (by simp[results,results21,go_sem, *]) rfl (iU ae.out M3.ext)
end Go.Proofs.YtbgkcehffiogcabGreatDoor
