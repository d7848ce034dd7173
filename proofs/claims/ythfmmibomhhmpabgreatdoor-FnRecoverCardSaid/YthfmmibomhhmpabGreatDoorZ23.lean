/- Lemmas (@packed). -/
import Derived.Test.YthfmmibomhhmpabGreatDoorZ22
namespace Go.Proofs.YthfmmibomhhmpabGreatDoor
open Go.RowKit Go.Proofs.Tryz
set_option linter.all false
set_option maxHeartbeats 8000000
set_option maxRecDepth 100000
variable{w':World}(l:List UInt8)(p:OA)(h g:aQ)(p1:OA)(n1 c1:Nat)(q1:OA)(m1 d1:Nat)(p2:OA)(n2 c2:Nat)(q2:OA)(m2 d2:Nat)(r:aQ)(en:Int)(e1:Nat)(s b:ByteArray)(ds:List Dd3)(nd:Nat)(w:World)
def kU (r:aQ)(n:Int)(b:Bool)(w:World)(e:Ending)(w':World):Prop:=
 ∃p c q d,e= .returned (.tuple #[bV r p r.cells.length c q r.vs.length d,n,.bool b])∧w'.ownsRow w.heap.size TI 1 (.slice p r.cells.length c) r.cells.length (ivs r.cells)∧
  w'.ownsRow w.heap.size uV 4 (.slice q r.vs.length d) r.vs.length (r.vs.flatMap aC)∧Ext w w'
def uN (o:Option (aQ×Int))(w:World)(e:Ending)(w':World):Prop:=kU ((o.map (·.1)).getD eR) ((o.map (·.2)).getD 0) o.isSome w e w'
theorem jO {o:Option (aQ×Int)}{w:World}(h:o=none)(hx:Ext w w'):uN o w (.returned (.tuple #[.agg #[(),(),((),()),(),(),(),(),(),(),((),())],(),.bool false])) w':=by subst h;exact⟨none,0,none,0,rfl,aW9 _ _ _ _,aW9 _ _ _ _,hx⟩
theorem wT {o:Option (aQ×Int)}{W D f s pr cp ck bk x:Int}{xs:List Int}{vs:List aV}{w:World}{p q:OA}{c d:Nat}(h:o=some (⟨W,D,xs,f,s,pr,cp,ck,bk,vs⟩,x))(ho:w'.ownsRow w TI 1 (.slice p xs c) xs.length (ivs xs))(hv:w'.ownsRow w uV 4 (.slice q vs d) vs.length (vs.flatMap aC))(hx:Ext w w'):
  uN o w (.returned (.tuple #[.agg #[W,D,.slice p xs c,f,s,pr,cp,ck,bk,.slice q vs d],x,.bool true])) w':=by
 subst h;exact⟨p,c,q,d,rfl,ho,hv,hx⟩
theorem tF (c:UInt8): ∀l:List UInt8,(dD c l).length≤l.length∧(fS c l).length≤l.length:=by
 intro l;induction l with
 |nil=>simp[dD,fS]
 |cons x xs ih=>simp only[dD,fS];split<;>simp<;>omega
theorem aGf (hs:l.length≤1048576)(hE:Env w):U 25 #[str l] w (uN (dC l) w):=by
 have HC:Hid (∀(q:List UInt8) (c:UInt8),q.length≤1048576→ ∀w,Env w→U 54 #[str q,.string ⟨#[c]⟩] w (Z (.tuple #[str (dD c q),str (fS c q),.bool (Lib.cut q [c]).2.2]) w)):=fun q c hq w hE=>aCm q c w (by omega) hE
 obtain⟨fs,ab⟩: ∃x,dD 124 l=x:=⟨_,rfl⟩
 obtain⟨rs,ae⟩: ∃x,fS 124 l=x:=⟨_,rfl⟩
 have a2:fs.length≤1048576:=by rw[←ab];exact aW8 (tF 124 l).1 hs
 have ao:rs.length≤1048576:=by rw[←ae];exact aW8 (tF 124 l).2 hs
 have ah:=xQ (HC l 124 hs);rw[ab,ae]at ah;obtain⟨hh,ad⟩: ∃x,dD 35 rs=x:=⟨_,rfl⟩
 have a1:hh.length≤1048576:=by rw[←ad];exact aW8 (tF 35 rs).1 ao
 have y:=xQ (HC rs 35 ao);rw[ad]at y;generalize (Lib.cut l [124]).2.2=k1 at ah;generalize (Lib.cut rs [35]).2.2=k2 at y;generalize fS 35 rs=rr at y;have aa:Hid (dC l=match bK 2 fs,bH hh with|some n,some h=>if dJ h n=l then some (h,n)else none|_,_=>none):=by show _=_;unfold dC;rw[ab,ae,ad];rfl
 obtain⟨x,hx⟩: ∃x,(bK 2 fs).getD 0=x:=⟨_,rfl⟩
 obtain⟨b2,ai⟩: ∃x,(bK 2 fs).isSome=x:=⟨_,rfl⟩
 have ay:=xQ hx;have al:=xQ ai;have ax:Hid (∀w,U 55 #[str fs,I 2] w fun e w'=>e= .returned (.tuple #[x,.bool b2])∧w=w'):=by intro w;subst hx;subst ai;exact mV fs 2 (by omega) (by unfold maxLen;omega) w
 have HE:=xQ hE;obtain⟨⟨W,D,xs,f,s,pr,cp,ck,bk,vs⟩,hH⟩: ∃H:aQ,(bH hh).getD eR=H:=⟨_,rfl⟩
 obtain⟨b,hb⟩: ∃b:Bool,(bH hh).isSome=b:=⟨_,rfl⟩
 have HB:=xQ hb;have HH:=xQ hH;have aw:Hid (∀w,Env w→U 56 #[str hh] w fun e w'=> ∃p c q d,e= .returned (.tuple #[.agg #[W,D,.slice p xs c,f,s,pr,cp,ck,bk,.slice q vs d],.bool b])∧w'.ownsRow w TI 1 (.slice p xs c) xs.length (ivs xs)∧w'.ownsRow w uV 4 (.slice q vs d) vs.length (vs.flatMap aC)∧Ext w w'):=by intro w hE;have h:=aDg hh w a1 hE;rw[hH,hb]at h;exact h
 clear HC ab ae ad hx ai hE hb hH;go_enter func25,ntmps25;go_wp2_with fail;refine Ω (ah _ (HE.out.ext ((Mem.start w).c0 mN zT).ext)) fun w1 ap=>?_
 have M1:=((Mem.b1 w).adv ap)
 have aj:=M1.hi 0;clear ap;go_wp2_with fail;refine Ω (y _ (HE.out.ext M1.ext)) fun w2 aq=>?_
 have M2:=(M1.adv aq)
 clear M1 aj aq;have k:=M2.hi 0;go_wp2_with fail;refine(ax _).mono ?_;rintro e a3 ⟨rfl,rfl⟩;cases b2 with
 |false=>
  have g:Hid (dC l=none):=by
   show _=_;rw[aa.out];have:=al.out;cases hq:bK 2 fs with
   |none=>rfl
   |some z=>rw[hq]at this;simp at this
  have z_:=(M2.bk 0).tenf;go_wp2;clear z_ k;have M3:=(M2.put10 (i:=0) rfl (I 0) (I 0) (.slice none 0 0) (I 0) (I 0) (I 0) (I 0) (I 0) (I 0) (.slice none 0 0))
  generalize a:World.setCell _ _ _=wz;rw[a]at M3;clear a M2;have y_:=(M3.bk 0).ten;exact aYw (v:= .tuple #[.agg #[(),(),((),()),(),(),(),(),(),(),((),())],(),.bool false]) (jO g.out M3.ext)
 |true=>
  have hn:Hid (bK 2 fs=some x):=by
   show _=_;have h1:=al.out;have h2:=ay.out;cases hq:bK 2 fs with
   |none=>rw[hq]at h1;simp at h1
   |some z=>rw[hq]at h2;simpa using h2
  go_wp2_with fail;refine(aw _ (HE.out.ext M2.ext)).mono ?_;rintro e w3 ⟨p,c,q,d,rfl,oc,os,ar⟩;have M3:=(M2.own2s ar oc os (aVz _) (by decide))
  clear M2 k ar oc os;have ak:=M3.hi 2;go_upto_region 7 with fail;have M4:=(M3.c0 mN #[W,D,.slice p xs c,f,s,pr,cp,ck,bk,.slice q vs d])
  generalize (w3.alloc (.cells #[W,D,.slice p xs c,f,s,pr,cp,ck,bk,.slice q vs d] mN))=w5 at M4⊢;clear M3 ak;have m:=M4.hi 0;have o:=M4.hi 3;cases b with
  |false=>
   have g:Hid (dC l=none):=by
    show _=_;rw[aa.out,hn.out];have:=HB.out;cases hq:bH hh with
    |none=>rfl
    |some z=>rw[hq]at this;simp at this
   have z_:=(M4.bk 3).tenf;go_wp2;clear z_ m o;have M5:=(M4.put10 (i:=3) rfl (I 0) (I 0) (.slice none 0 0) (I 0) (I 0) (I 0) (I 0) (I 0) (I 0) (.slice none 0 0))
   generalize a:World.setCell _ _ _=wz;rw[a]at M5;clear a M4;have y_:=(M5.bk 3).ten;exact aYw (v:= .tuple #[.agg #[(),(),((),()),(),(),(),(),(),(),((),())],(),.bool false]) (jO g.out M5.ext)
  |true=>
   have j:Hid (bH hh=some ⟨W,D,xs,f,s,pr,cp,ck,bk,vs⟩):=by
    show _=_;have h1:=HB.out;have h2:=HH.out;cases hq:bH hh with
    |none=>rw[hq]at h1;simp at h1
    |some z=>rw[hq]at h2;simpa using h2
   have HI:Hid (IsHouse w5 ⟨W,D,xs,f,s,pr,cp,ck,bk,vs⟩ p xs.length c q vs.length d):=⟨M4.sq 1,M4.sq 2⟩
   have HT:Hid (∀(w':World),Ext w5 w'→Env w'→U 16 #[.agg #[W,D,.slice p xs c,f,s,pr,cp,ck,bk,.slice q vs d],x] w' (Z (str (dJ ⟨W,D,xs,f,s,pr,cp,ck,bk,vs⟩ x)) w')):=fun w' hx hE=>xI ⟨W,D,xs,f,s,pr,cp,ck,bk,vs⟩ x p xs.length c q vs.length d w' hE (HI.out.ext hx)
   generalize an:dJ ⟨W,D,xs,f,s,pr,cp,ck,bk,vs⟩ x=t at*;have am:=xQ an;clear an HI;have az:=(M4.bk 0).ten;go_wp2_with fail;clear az;refine Ω (HT _ (Ext.refl _) (HE.out.ext M4.ext)) fun w4 au=>?_
   have M5:=(M4.adv au)
   clear M4 m o au;have r:=M5.hi 0;have u:=M5.hi 3;by_cases ht:t=l
   ·skip;have a0:(t==l)=true:=by simp[ht]
    have av:Hid (dC l=some (⟨W,D,xs,f,s,pr,cp,ck,bk,vs⟩,x)):=by show _=_;rw[aa.out,hn.out,j.out];simp[am.out,ht]
    clear ht;have z_:=(M5.bk 3).tenf;obtain⟨b0,b1,b2,b3,b4,b5,b6,b7,b8,b9⟩:=(M5.bk 0).ten;obtain⟨af,ag⟩:=M5.nq 0 3;go_wp2;clear z_ b0 b1 b2 b3 b4 b5 b6 b7 b8 b9 af ag r u;have M6:=(M5.put10 (i:=3) rfl (I W) (I D) (.slice p xs c) (I f) (I s) (I pr) (I cp) (I ck) (I bk) (.slice q vs d))
    generalize a:World.setCell _ _ _=wz;rw[a]at M6;clear a M5;have y_:=(M6.bk 3).ten;exact aYw (v:= .tuple #[.agg #[W,D,.slice p xs c,f,s,pr,cp,ck,bk,.slice q vs d],x,.bool true]) (wT av.out (M6.ow 1) (M6.ow 2) M6.ext)
   skip;have a0:(t==l)=false:=by simp[ht]
   have g:Hid (dC l=none):=by show _=_;rw[aa.out,hn.out,j.out];simp[am.out,ht]
   clear ht;have z_:=(M5.bk 3).tenf;go_wp2;clear z_ r u;have M6:=(M5.put10 (i:=3) rfl (I 0) (I 0) (.slice none 0 0) (I 0) (I 0) (I 0) (I 0) (I 0) (I 0) (.slice none 0 0))
   generalize a:World.setCell _ _ _=wz;rw[a]at M6;clear a M5;have y_:=(M6.bk 3).ten;exact aYw (v:= .tuple #[.agg #[(),(),((),()),(),(),(),(),(),(),((),())],(),.bool false]) (jO g.out M6.ext)
theorem aFd (hs:l.length≤1048576):U 26 #[str l] w (uN (dC l) w):=by
 have HS:Hid (∀q:List UInt8,q.length≤1048576→ ∀(c:UInt8) (ci:Int),ci=(c.toNat:Int)→ ∀w,U 57 #[str q,.int .u8 ci] w (aYx rR 1 (aL c q).length (eY (aL c q)) w)):=
  fun q hq c ci hc w=>mI ⟨q.toArray⟩ c ci hc w (by simp only[ByteArray.size,List.size_toArray];omega)
 have o:0<(aL 35 l).length:=List.length_pos_iff.2 (eX 35 l);obtain⟨u,hu⟩: ∃q,(aL 35 l)[0]? =some q:=⟨_,aW0 o⟩
 have aj:u.length≤1048576:=aW8 ((eK 35 l).1 u (aW1 hu)) hs;have aw:gK (aL 35 l) 0=u:=lM hu;have k:0<(aL 124 u).length:=List.length_pos_iff.2 (eX 124 u);obtain⟨fs,ae⟩: ∃q,(aL 124 u)[0]? =some q:=⟨_,aW0 k⟩
 have bf:fs.length≤1048576:=aW8 ((eK 124 u).1 fs (aW1 ae)) aj;have bg:=(eK 35 l).2;have bh:=(eK 124 u).2;have am:=xQ (HS l hs 35 35 rfl);have ao:=xQ (HS u aj 124 124 rfl);have n:Hid (dC l=if(aL 35 l).length=2∧(aL 124 u).length=2 then(match bH (gK (aL 124 u) 1)with|some h=>if dJ h ((bK 4 fs).getD (-1))=l then some (h,(bK 4 fs).getD (-1))else none|none=>none)else none):=by show _=_;rw[aKx];unfold nS oE pU;rw[aw,lM ae];simp;rfl
 have HU:=xQ hu;have a2:=xQ ae;have a5:Hid (∀w,U 59 #[str fs] w fun e w'=>e= .returned (I ((bK 4 fs).getD (-1)))∧w=w'):=fun w=>oX fs (by unfold maxLen;omega) w
 generalize hx:(bK 4 fs).getD (-1)=x at*;have a9:=o;have be:=k;have a7:=xQ HU.out;have an:Hid (∀w,U 57 #[str l,.int .u8 35] w fun e w'=> ∃g c,e= .returned (.slice (some ⟨g,0,none⟩) (aL 35 l).length c)∧w'.ownsRow w rR 1 (.slice (some ⟨g,0,none⟩) (aL 35 l).length c) (aL 35 l).length (eY (aL 35 l))∧Ext w w'):=by intro w;refine(am w).mono ?_;rintro e w' ⟨v,rfl,ho,hx⟩;obtain⟨g,c,rfl⟩:=aWb ho o;exact⟨g,c,rfl,ho,hx⟩
 have ap:Hid (∀w,U 57 #[str u,.int .u8 124] w fun e w'=> ∃g c,e= .returned (.slice (some ⟨g,0,none⟩) (aL 124 u).length c)∧w'.ownsRow w rR 1 (.slice (some ⟨g,0,none⟩) (aL 124 u).length c) (aL 124 u).length (eY (aL 124 u))∧Ext w w'):=by intro w;refine(ao w).mono ?_;rintro e w' ⟨v,rfl,ho,hx⟩;obtain⟨g,c,rfl⟩:=aWb ho k;exact⟨g,c,rfl,ho,hx⟩
 generalize hT:(aL 35 l).length=T at*;generalize hP:(aL 124 u).length=P at*;have bd:=xQ hT;have a4:=xQ hP;clear HS am ao hu ae aw hx hT hP a7;go_enter func26,ntmps26;go_wp2_with fail;refine(an _).mono ?_;rintro e w1 ⟨g1,c1,rfl,au,ax⟩;have M1:=((Mem.b1 w).call ax au)
 have ak:=M1.hi 1;clear ax au;have bb:g1<w1:=(M1.hi 0)
 have e0:w1.cell? ⟨g1,0,none⟩=some (str u):=aY (M1.ow 0) 0 a9 _ HU.out;have i1:(0:Int)<(T:Int):=by omega
 go_wp2_with fail;clear e0 bb;refine(ap _).mono ?_;rintro e w2 ⟨g2,c2,rfl,av,ay⟩;have M2:=(M1.call ay av)
 clear M1 ak ay av;have m:=M2.hi 2;by_cases hTT:T=2
 ·by_cases hPP:P=2
  ·skip;subst hTT;subst hPP;obtain⟨hh,af⟩: ∃q,(aL 124 u)[1]? =some q:=⟨_,aW0 (by rw[a4.out];omega)⟩
   have bc:hh.length≤1048576:=aW8 ((eK 124 u).1 hh (aW1 af)) aj;have a3:=xQ af;rw[lM af]at n;obtain⟨⟨W,D,xs,f,s,pr,cp,ck,bk,vs⟩,hH⟩: ∃H:aQ,(bH hh).getD eR=H:=⟨_,rfl⟩
   obtain⟨b,hb⟩: ∃b:Bool,(bH hh).isSome=b:=⟨_,rfl⟩
   have HB:=xQ hb;have HH:=xQ hH;have a6:Hid (∀w,U 58 #[str hh] w fun e w'=> ∃p c q d,e= .returned (.tuple #[.agg #[W,D,.slice p xs c,f,s,pr,cp,ck,bk,.slice q vs d],.bool b])∧w'.ownsRow w TI 1 (.slice p xs c) xs.length (ivs xs)∧w'.ownsRow w uV 4 (.slice q vs d) vs.length (vs.flatMap aC)∧Ext w w'):=by intro w;have h:=aCy hh w bc;rw[hH,hb]at h;exact h
   have ai:g2<w2:=(M2.hi 0)
   have e1:w2.cell? ⟨g2,1,none⟩=some (str hh):=aY (M2.ow 0) 1 (by omega) _ a3.out;clear hb hH af i1;go_wp2_with fail;refine(a6 _).mono ?_;rintro e w3 ⟨p,c,q,d,rfl,oc,os,az⟩;clear e1 ai;have M3:=(M2.own2s az oc os (aVz _) (by decide))
   clear M2 m az oc os;have al:=M3.hi 4;have ai:g2<w3:=(M3.hi 2)
   have e2:w3.cell? ⟨g2,0,none⟩=some (str fs):=aY (M3.ow 2) 0 (by omega) _ a2.out;go_wp2_with fail;refine(a5 _).mono ?_;rintro e bi ⟨rfl,rfl⟩;clear e2 ai;go_upto_region 7 with fail;have M4:=(M3.c0 mN #[W,D,.slice p xs c,f,s,pr,cp,ck,bk,.slice q vs d])
   generalize (w3.alloc (.cells #[W,D,.slice p xs c,f,s,pr,cp,ck,bk,.slice q vs d] mN))=w5 at M4⊢;clear M3 al;have y:=M4.hi 0;have aa:=M4.hi 5;cases b with
   |false=>
    have j:Hid (dC l=none):=by
     show _=_;rw[n.out];have:=HB.out;cases hq:bH hh with
     |none=>simp
     |some z=>rw[hq]at this;simp at this
    have z_:=(M4.bk 5).tenf;go_wp2;clear z_ y aa;have M5:=(M4.put10 (i:=5) rfl (I 0) (I 0) (.slice none 0 0) (I 0) (I 0) (I 0) (I 0) (I 0) (I 0) (.slice none 0 0))
    generalize a:World.setCell _ _ _=wz;rw[a]at M5;clear a M4;have y_:=(M5.bk 5).ten;exact aYw (v:= .tuple #[.agg #[(),(),((),()),(),(),(),(),(),(),((),())],(),.bool false]) (jO j.out M5.ext)
   |true=>
    have r:Hid (bH hh=some ⟨W,D,xs,f,s,pr,cp,ck,bk,vs⟩):=by
     show _=_;have h1:=HB.out;have h2:=HH.out;cases hq:bH hh with
     |none=>rw[hq]at h1;simp at h1
     |some z=>rw[hq]at h2;simpa using h2
    have HI:Hid (IsHouse w5 ⟨W,D,xs,f,s,pr,cp,ck,bk,vs⟩ p xs.length c q vs.length d):=⟨M4.sq 1,M4.sq 2⟩
    have HT:Hid (∀(w':World),Ext w5 w'→U 22 #[.agg #[W,D,.slice p xs c,f,s,pr,cp,ck,bk,.slice q vs d],x] w' (Z (str (dJ ⟨W,D,xs,f,s,pr,cp,ck,bk,vs⟩ x)) w')):=fun w' hx=>wL ⟨W,D,xs,f,s,pr,cp,ck,bk,vs⟩ x p xs.length c q vs.length d w' (HI.out.ext hx)
    generalize ar:dJ ⟨W,D,xs,f,s,pr,cp,ck,bk,vs⟩ x=t at*;have aq:=xQ ar;clear ar HI;have a8:=(M4.bk 0).ten;go_wp2_with fail;clear a8;refine Ω (HT _ (Ext.refl _)) fun w4 a0=>?_
    have M5:=(M4.adv a0)
    clear M4 y aa a0;have ab:=M5.hi 0;have ad:=M5.hi 5;by_cases ht:t=l
    ·skip;have ba:(t==l)=true:=by simp[ht]
     have a1:Hid (dC l=some (⟨W,D,xs,f,s,pr,cp,ck,bk,vs⟩,x)):=by show _=_;rw[n.out,r.out];simp[aq.out,ht]
     clear ht;have z_:=(M5.bk 5).tenf;have b_:=(M5.bk 0).ten;obtain⟨ag,ah⟩:=M5.nq 0 5;go_wp2;clear z_ b_ ag ah ab ad;have M6:=(M5.put10 (i:=5) rfl (I W) (I D) (.slice p xs c) (I f) (I s) (I pr) (I cp) (I ck) (I bk) (.slice q vs d))
     generalize a:World.setCell _ _ _=wz;rw[a]at M6;clear a M5;have y_:=(M6.bk 5).ten;exact aYw (v:= .tuple #[.agg #[W,D,.slice p xs c,f,s,pr,cp,ck,bk,.slice q vs d],x,.bool true]) (wT a1.out (M6.ow 1) (M6.ow 2) M6.ext)
    skip;have ba:(t==l)=false:=by simp[ht]
    have j:Hid (dC l=none):=by show _=_;rw[n.out,r.out];simp[aq.out,ht]
    clear ht;have z_:=(M5.bk 5).tenf;go_wp2;clear z_ ab ad;have M6:=(M5.put10 (i:=5) rfl (I 0) (I 0) (.slice none 0 0) (I 0) (I 0) (I 0) (I 0) (I 0) (I 0) (.slice none 0 0))
    generalize a:World.setCell _ _ _=wz;rw[a]at M6;clear a M5;have y_:=(M6.bk 5).ten;exact aYw (v:= .tuple #[.agg #[(),(),((),()),(),(),(),(),(),(),((),())],(),.bool false]) (jO j.out M6.ext)
  skip;have j:Hid (dC l=none):=by show _=_;rw[n.out,if_neg];rintro⟨_,h⟩;exact hPP h
  have q2:((P:Int)!=2)=true:=by simp;omega
  subst hTT;clear hPP;have z_:=(M2.bk 2).tenf;go_wp2;clear z_ m;have M3:=(M2.put10 (i:=2) rfl (I 0) (I 0) (.slice none 0 0) (I 0) (I 0) (I 0) (I 0) (I 0) (I 0) (.slice none 0 0))
  generalize a:World.setCell _ _ _=wz;rw[a]at M3;clear a M2;have y_:=(M3.bk 2).ten;exact aYw (v:= .tuple #[.agg #[(),(),((),()),(),(),(),(),(),(),((),())],(),.bool false]) (jO j.out M3.ext)
 skip;have j:Hid (dC l=none):=by show _=_;rw[n.out,if_neg];rintro⟨h,_⟩;exact hTT h
 have q1:((T:Int)!=2)=true:=by simp;omega
 clear hTT;have z_:=(M2.bk 2).tenf;go_wp2;clear z_ m;have M3:=(M2.put10 (i:=2) rfl (I 0) (I 0) (.slice none 0 0) (I 0) (I 0) (I 0) (I 0) (I 0) (I 0) (.slice none 0 0))
 generalize a:World.setCell _ _ _=wz;rw[a]at M3;clear a M2;have y_:=(M3.bk 2).ten;exact aYw (v:= .tuple #[.agg #[(),(),((),()),(),(),(),(),(),(),((),())],(),.bool false]) (jO j.out M3.ext)
theorem aCg (m:Nat):(ds.flatMap bT).drop (m*3)=(ds.drop m).flatMap bT:=by
 induction ds generalizing m with
 |nil=>simp
 |cons d ds ih=>
  cases m with
  |zero=>simp
  |succ m=>obtain⟨a,b,c⟩:=d;rw[show(m+1)*3=m*3+1+1+1 by omega];simp[bT,ih]
def fO (s l:List UInt8):aQ×Int×Bool:=match dC s with
 |none=>(hZ,0,false)
 |some (h,en)=>if((rj 1 l).1.length:Int)≤en then(h,((rj 1 l).1.length:Int),true)else(kT h ((rj 1 l).1.drop en.toNat),((rj 1 l).1.length:Int),true)
theorem oU {l:List UInt8}{h:aQ}{en:Int}(hr:dC l=some (h,en)):bC h=true∧0≤en∧en≤99:=by
 obtain⟨a,ht⟩:=vB hr;have hl:l≠ []:=by rintro rfl;simp[dC,dD,bK]at hr
 obtain⟨h0,h1,_⟩:=vP a hl ht;exact⟨a,h0,h1⟩
theorem aBe (s l:List UInt8):(fO s l).1.cells.length≤1000∧(fO s l).1.vs.length≤1000:=by
 unfold fO;cases hr:dC s with
 |none=>simp[hZ]
 |some x=>
  obtain⟨h,en⟩:=x;obtain⟨a,_,_⟩:=oU hr;dsimp only;split
  ·have:=fU a;dsimp only;omega
  have:=fU (oS ((rj 1 l).1.drop en.toNat) a);dsimp only;omega
theorem aTh (r:aQ)(en:Int)(e1:Nat)(s b:ByteArray)(ds:List Dd3)(nd:Nat)(w:World)(HS:xC 26 #[.string s] w fun w' e w''=> ∃pa ca qa da,e= .returned (.tuple #[.agg #[g.aA,g.aB,.slice pa g.cells ca,g.free,g.step,g.aE,g.aF,g.aD,g.aG,.slice qa g.vs da],en,.bool false])∧w''.ownsRow w' TI 1 (.slice pa g.cells ca) g.cells.length (ivs g.cells)∧w''.ownsRow w' TV 4 (.slice qa g.vs da) g.vs.length (g.vs.flatMap aC)∧Ext w' w''):
  U 6 #[.string s,.string b] w (kU hZ 0 false w):=by
 go_enter func6,ntmps6;go_wp2_with fail;refine(HS _ (Mem.b1 w).ext).mono ?_;rintro e w1 ⟨p1,c1,q1,d1,rfl,ho,hq,hx⟩;have M1:=(((Mem.start w).c0 aN zT).own2 hx ho hq (aVz _) (by decide))
 have d:=M1.hi 2;clear hx ho hq HS;go_upto_region 3 with fail;obtain⟨X1,c⟩: ∃a,a=w1.heap.size:=⟨_,rfl⟩
 rw[←c];have M2:=(M1.blkNew aN (aYo g p1 c1 q1 d1) X1 c.symm)
 generalize World.alloc _ _=v1 at M2⊢;clear M1 d c;have f:=M2.hi 0;have h:=M2.hi 3;have f_:=(M2.bk 3).tenf;go_wp2;clear f_ f h;have M3:=(M2.put10 (i:=3) rfl (I 0) (I 0) (.slice none 0 0) (I 0) (I 0) (I 0) (I 0) (I 0) (I 0) (.slice none 0 0))
 generalize j:World.setCell _ _ _=wz;rw[j]at M3;clear j M2;have y_:=(M3.bk 3).ten;exact aYw (v:= .tuple #[.agg #[(),(),((),()),(),(),(),(),(),(),((),())],(),.bool false]) (show kU hZ 0 false w _ _ from⟨none,0,none,0,rfl,aW9 _ _ _ _,aW9 _ _ _ _,M3.ext⟩)
theorem aQw (r:aQ)(en:Int)(e1:Nat)(s b:ByteArray)(ds:List Dd3)(nd:Nat)(w:World)(hn:(nd:Int)≤en)(HS:xC 26 #[.string s] w fun w' e w''=> ∃pa ca qa da,e= .returned (.tuple #[.agg #[g.aA,g.aB,.slice pa g.cells ca,g.free,g.step,g.aE,g.aF,g.aD,g.aG,.slice qa g.vs da],en,.bool true])∧w''.ownsRow w' TI 1 (.slice pa g.cells ca) g.cells.length (ivs g.cells)∧w''.ownsRow w' TV 4 (.slice qa g.vs da) g.vs.length (g.vs.flatMap aC)∧Ext w' w'')(HJ:xC 19 #[I 1,.string b] w fun w' e w''=> ∃pj cj,e= .returned (.tuple #[.slice pj nd cj,I (rj 1 b.data.toList).2])∧w''.ownsRow w' TDd 3 (.slice pj nd cj) nd (ds.flatMap bT)∧Ext w' w''):
  U 6 #[.string s,.string b] w (kU g nd true w):=by
 go_enter func6,ntmps6;go_wp2_with fail;refine(HS _ (Mem.b1 w).ext).mono ?_;rintro e w1 ⟨p1,c1,q1,d1,rfl,ho,hq,hx⟩;have M1:=(((Mem.start w).c0 aN zT).own2 hx ho hq (aVz _) (by decide))
 have h:=M1.hi 2;clear hx ho hq HS;go_upto_region 3 with fail;obtain⟨X1,f⟩: ∃a,a=w1.heap.size:=⟨_,rfl⟩
 rw[←f];have M2:=(M1.blkNew aN (aYo g p1 c1 q1 d1) X1 f.symm)
 generalize World.alloc _ _=v1 at M2⊢;clear M1 h f;have j:=M2.hi 0;have k:=M2.hi 3;go_wp2_with fail;refine(HJ _ M2.ext).mono ?_;rintro e w3 ⟨pj,cj,rfl,n,p⟩;have M3:=(M2.call p n)
 clear M2 j k p n HJ;have l:=M3.hi 1;have m:=M3.hi 4;have t0:=aYu (en<(nd:Int));have t1:=aYv ((nd:Int)≤en);obtain⟨v0,v1,v2,v3,v4,v5,v6,v7,v8,v9⟩:=(M3.bk 1).ten;have f_:=(M3.bk 4).tenf;obtain⟨c,d⟩:=M3.nq 1 4;go_wp2;clear v0 v1 v2 v3 v4 v5 v6 v7 v8 v9 f_ c d l m;have M4:=(M3.put10 (i:=4) rfl (I g.aA) (I g.aB) (.slice p1 g.cells c1) (I g.free) (I g.step) (I g.aE) (I g.aF) (I g.aD) (I g.aG) (.slice q1 g.vs d1))
 generalize o:World.setCell _ _ _=wz;rw[o]at M4;clear o M3;have y_:=(M4.bk 4).ten;exact aYw (v:= .tuple #[.agg #[g.aA,g.aB,.slice p1 g.cells c1,g.free,g.step,g.aE,g.aF,g.aD,g.aG,.slice q1 g.vs d1],nd,.bool true]) (show kU g nd true w _ _ from⟨_,_,_,_,rfl,(M4.ow 2),(M4.ow 3),M4.ext⟩)
theorem aTg (he:en=(e1:Int))(hn:e1<nd)(HS:xC 26 #[.string s] w fun w' e w''=> ∃pa ca qa da,e= .returned (.tuple #[.agg #[g.aA,g.aB,.slice pa g.cells ca,g.free,g.step,g.aE,g.aF,g.aD,g.aG,.slice qa g.vs da],en,.bool true])∧w''.ownsRow w' TI 1 (.slice pa g.cells ca) g.cells.length (ivs g.cells)∧w''.ownsRow w' TV 4 (.slice qa g.vs da) g.vs.length (g.vs.flatMap aC)∧Ext w' w'')(HJ:xC 19 #[I 1,.string b] w fun w' e w''=> ∃pj cj,e= .returned (.tuple #[.slice pj nd cj,I (rj 1 b.data.toList).2])∧w''.ownsRow w' TDd 3 (.slice pj nd cj) nd (ds.flatMap bT)∧Ext w' w'')(HR:Hid (∀B p c q d pe ce w',B≤w'.heap.size→Ext w w'→IsHouse w' g p g.cells.length c q g.vs.length d→Sl w' pe (nd-e1) ce 3 ((ds.drop e1).flatMap bT)→U 21 #[.agg (aYo g p c q d),.slice pe (nd-e1) ce] w' fun e w''=> ∃pa ca qa da ps nq cs,e= .returned (.tuple #[.agg #[r.aA,r.aB,.slice pa r.cells ca,r.free,r.step,r.aE,r.aF,r.aD,r.aG,.slice qa r.vs da],.slice ps nq cs])∧w''.ownsRow B TI 1 (.slice pa r.cells ca) r.cells.length (ivs r.cells)∧w''.ownsRow B TV 4 (.slice qa r.vs da) r.vs.length (r.vs.flatMap aC)∧Ext w' w'')):
  U 6 #[.string s,.string b] w (kU r nd true w):=by
 go_enter func6,ntmps6;go_wp2_with fail;refine(HS _ (Mem.b1 w).ext).mono ?_;rintro e w1 ⟨p1,c1,q1,d1,rfl,ho,hq,hx⟩;have M1:=(((Mem.start w).c0 aN zT).own2 hx ho hq (aVz _) (by decide))
 have ar:=M1.hi 2;clear hx ho hq HS;go_upto_region 3 with fail;obtain⟨X1,ao⟩: ∃a,a=w1.heap.size:=⟨_,rfl⟩
 rw[←ao];have M2:=(M1.blkNew aN (aYo g p1 c1 q1 d1) X1 ao.symm)
 generalize World.alloc _ _=v1 at M2⊢;clear M1 ar ao;have au:=M2.hi 0;have av:=M2.hi 3;go_wp2_with fail;refine(HJ _ M2.ext).mono ?_;rintro e w3 ⟨pj,cj,rfl,a5,a9⟩;have M3:=(M2.call a9 a5)
 clear M2 au av a9 a5 HJ;have aw:=M3.hi 1;have ax:=M3.hi 4;have t0:=aYv (en<(nd:Int));have t1:=aYu ((nd:Int)≤en);subst he;have t2:=aYv (e1<nd);have t3:=aYu (nd≤e1);have bq:e1<nd:=by omega
 obtain⟨gj,rfl,bm,bo⟩:=M3.so 0;have bp:=(M3.sq 0).le;have i0:=aYp e1;have i1:=aYr e1 nd;have i2: ¬cj=e1:=by omega
 have i3:=aYr nd cj;have i4:=aYr e1 cj;have i5:(e1:Int).toNat=e1:=by omega
 have SD:=xQ (wR (M3.sq 0) (by omega:e1≤nd));rw[aCg,aWz]at SD;have IG:=xQ (show IsHouse w3 g p1 _ c1 q1 _ d1 from⟨(M3.sq 2),(M3.sq 3)⟩);go_upto_region 7 with fail
 refine oT (gl [gEq (.agg #[(g.aA:Int),(g.aB:Int),.slice p1 g.cells c1,(g.free:Int),(g.step:Int),(g.aE:Int),(g.aF:Int),(g.aD:Int),(g.aG:Int),.slice q1 g.vs d1]),gEq (.slice (some ⟨gj,0,none⟩) nd cj),gEq (e1:Int),(fun v _=> ∃pd dd,v= .slice pd (nd-e1) dd∧Sl w3 pd (nd-e1) dd 3 ((ds.drop e1).flatMap bT)),(fun v w'=> ∃p c q d ps nq cs,v= .tuple #[.agg #[r.aA,r.aB,.slice p r.cells c,r.free,r.step,r.aE,r.aF,r.aD,r.aG,.slice q r.vs d],.slice ps nq cs]∧w'.ownsRow w3 TI 1 (.slice p r.cells c) r.cells.length (ivs r.cells)∧w'.ownsRow w3 TV 4 (.slice q r.vs d) r.vs.length (r.vs.flatMap aC)),(fun v w'=> ∃p c q d ps nq cs,v= .tuple #[.agg #[r.aA,r.aB,.slice p r.cells c,r.free,r.step,r.aE,r.aF,r.aD,r.aG,.slice q r.vs d],.slice ps nq cs]∧w'.ownsRow w3 TI 1 (.slice p r.cells c) r.cells.length (ivs r.cells)∧w'.ownsRow w3 TV 4 (.slice q r.vs d) r.vs.length (r.vs.flatMap aC)),(fun v w'=> ∃p c q d,v= .agg #[r.aA,r.aB,.slice p r.cells c,r.free,r.step,r.aE,r.aF,r.aD,r.aG,.slice q r.vs d]∧w'.ownsRow w3 TI 1 (.slice p r.cells c) r.cells.length (ivs r.cells)∧w'.ownsRow w3 TV 4 (.slice q r.vs d) r.vs.length (r.vs.flatMap aC)),(fun v _=> ∃ps nq cs,v= .slice ps nq cs),aJa w3 aN #[(),(),((),()),(),(),(),(),(),(),((),())]]) 9 7 (by kernel_rfl) rfl (by kernel_rfl) (by kernel_rfl) (by kernel_rfl) (by decide) (mQ (aW (bL _) (aW (bL _) (aW (bL _) (aW (fun _ _ _ h _=>h) (aW (fun v w w' ⟨p,c,q,d,ps,nq,cs,e,o1,o2⟩ hx=>⟨p,c,q,d,ps,nq,cs,e,aM o1 hx,aM o2 hx⟩) (aW (fun v w w' ⟨p,c,q,d,ps,nq,cs,e,o1,o2⟩ hx=>⟨p,c,q,d,ps,nq,cs,e,aM o1 hx,aM o2 hx⟩) (aW (fun v w w' ⟨p,c,q,d,e,o1,o2⟩ hx=>⟨p,c,q,d,e,aM o1 hx,aM o2 hx⟩) (aW (fun _ _ _ h _=>h) (aW (uF _ _ _) (pM))))))))))) (k:=11) (by kernel_rfl) (by decide) (by kernel_rfl) (ls:= [(0,some 36),(1,some 37),(2,some 38),(3,some 39),(4,some 40),(5,some 35),(6,some 41),(7,some 42),(8,some 12)]) (by kernel_rfl) (ir:= [0,1,2,3,4,5,6,7,8]) (by kernel_rfl) rfl (fun _ _ _ _ h=>h) (lf:= [(5,some 35)]) (by kernel_rfl) ?flo ?steps (tl:=#[true,true,true,true,true,true,true,true,true,false,false]) (by kernel_rfl) ?fin
 case flo=>intro wi hx v5 h5;obtain⟨u,o,x,t,m,l,j,rfl,aa,ab⟩:=h5;exact⟨.slice m l j,.inl ⟨by rfl,fun w=>by go_simp⟩,⟨_,_,_,rfl⟩⟩
 case steps=>
  refine sC [] rfl (fun wi hx=> ?_) ?_
  ·intro K hK;have hX:Ext w3 wi:=xE;have bj:=((M3.bk 1).ext hX).ten;go_simp;exact hK _ _ ⟨.agg #[(g.aA:Int),(g.aB:Int),.slice p1 g.cells c1,(g.free:Int),(g.step:Int),(g.aE:Int),(g.aF:Int),(g.aD:Int),(g.aG:Int),.slice q1 g.vs d1],rfl,rfl,Ext.refl _⟩
  refine sS0 [] (sS0 [] ?_);refine sC [(1,some 37),(2,some 38)] rfl (fun wi hx=> ?_) ?_
  ·intro v1 h1 v2 h2 K hK;subst h1 h2;have be:=SD.out;go_simp;exact hK _ _ ⟨_,rfl,⟨_,_,rfl,be⟩,Ext.refl _⟩
  refine sC [(0,some 36),(3,some 39)] rfl (fun wi hx=> ?_) ?_
  ·intro v0 h0 v3 h3 K hK;obtain rfl:=h0;obtain⟨bh,bf,rfl,a3⟩:=h3;go_simp;refine(HR w3 _ _ _ _ _ _ _ hx.sz (M3.ext.trans hx.of_drew) (IG.out.ext hx.of_drew) (a3.ext hx.of_drew)).mono ?_;rintro e w5 ⟨u,o,x,t,m,l,j,rfl,o5,v5,bg⟩;go_simp;exact hK _ _ ⟨_,rfl,⟨u,o,x,t,m,l,j,rfl,o5,v5⟩,bg⟩
  refine sC [(4,some 40)] rfl (fun wi hx=> ?_) ?_
  ·intro v4 h4 K hK;obtain⟨bb,a0,bd,a2,bc,ba,a1,rfl,ap,aq⟩:=h4;go_simp;exact hK _ _ ⟨_,rfl,⟨bb,a0,bd,a2,bc,ba,a1,rfl,ap,aq⟩,Ext.refl _⟩
  refine sC [(5,some 35)] rfl (fun wi hx=> ?_) ?_
  ·intro v5 h5 K hK;obtain⟨u,o,x,t,m,l,j,rfl,aa,ab⟩:=h5;go_simp;exact hK _ _ ⟨_,rfl,⟨u,o,x,t,rfl,aa,ab⟩,Ext.refl _⟩
  refine sC [(5,some 35)] rfl (fun wi hx=> ?_) ?_
  ·intro v5 h5 K hK;obtain⟨u,o,x,t,m,l,j,rfl,aa,ab⟩:=h5;go_simp;exact hK _ _ ⟨.slice m l j,rfl,⟨_,_,_,rfl⟩,Ext.refl _⟩
  refine sC [] rfl (fun wi hx=> ?_) StepsL.nil
  ·intro K hK;go_simp;exact hK _ _ ⟨.pointer (some ⟨wi,0,none⟩),rfl,⟨wi.heap.size,rfl,by have:=hx.sz;simp at this;omega,Blk.new _ _ _⟩,(Ext.refl _).alloc _⟩
 case fin=>
  intro wi hx v0 h0 v1 h1 v2 h2 v3 h3 v4 h4 v5 h5 v6 h6 v7 h7 v8 h8;subst h0 h1 h2;obtain⟨bh,bf,rfl,a3⟩:=h3;obtain⟨bb,a0,bd,a2,bc,ba,a1,rfl,ap,aq⟩:=h4;obtain⟨u,o,x,t,m,l,j,rfl,aa,ab⟩:=h5;obtain⟨ay,am,az,an,rfl,a6,a7⟩:=h6;obtain⟨bs,br,bl,rfl⟩:=h7;obtain⟨g8,rfl,a4,B8⟩:=h8;have a8:=hx.of_drew;obtain⟨w8,rfl⟩: ∃z,z=wi:=⟨_,rfl⟩
  have n:=(Mem.own2blk (M3) a8 B8 a4 a6 a7 (by decide) (by decide) (by decide))
  clear hx a8 B8 a4 ap aq aa ab a6 a7 aw ax IG SD M3;have ae:=n.hi 2;have af:=n.hi 4;have ag:=n.hi 7;have bi:=(n.bk 2).tenf;try go_frame
  refine wpAny_ready (rs:= [9]) (by kernel_rfl) (by simp) ?_;refine AllReady.cons rfl (fun K hK=> ?_) AllReady.nil;go_simp;refine hK _ _ ?_;clear hK K bi ae af ag;have f:=(n.put10 (i:=2) rfl (I r.aA) (I r.aB) (.slice ay r.cells am) (I r.free) (I r.step) (I r.aE) (I r.aF) (I r.aD) (I r.aG) (.slice az r.vs an))
  generalize ad:World.setCell _ _ _=bt;rw[ad]at f;clear ad n;refine wpAny_ready (rs:= [10]) (by kernel_rfl) (by simp) ?_;refine AllReady.cons rfl (fun K hK=> ?_) AllReady.nil;go_simp;refine hK _ _ ?_;clear hK K;refine wpAny_done (by kernel_rfl) ?_ _;try go_frame
  have ah:=f.hi 2;have ai:=f.hi 4;have aj:=f.hi 7;obtain⟨v0,v1,v2,v3,v4,v5,v6,v7,v8,v9⟩:=(f.bk 2).ten;have f_:=(f.bk 7).tenf;obtain⟨ak,al⟩:=f.nq 2 7;go_wp2;clear v0 v1 v2 v3 v4 v5 v6 v7 v8 v9 f_ ak al ah ai aj;have y:=(f.put10 (i:=7) rfl (I r.aA) (I r.aB) (.slice ay r.cells am) (I r.free) (I r.step) (I r.aE) (I r.aF) (I r.aD) (I r.aG) (.slice az r.vs an))
  generalize ad:World.setCell _ _ _=wz;rw[ad]at y;clear ad f;have y_:=(y.bk 7).ten;exact aYw (v:= .tuple #[.agg #[r.aA,r.aB,.slice ay r.cells am,r.free,r.step,r.aE,r.aF,r.aD,r.aG,.slice az r.vs an],nd,.bool true]) (show kU r nd true w _ _ from⟨_,_,_,_,rfl,(y.ow 0),(y.ow 1),y.ext⟩)
theorem aHm (hs:s.size≤1048576)(hb:b.size≤2147483648):
  U 6 #[.string s,.string b] w (kU (fO s.data.toList b.data.toList).1 (fO s.data.toList b.data.toList).2.1 (fO s.data.toList b.data.toList).2.2 w):=by
 have g:s.data.toList.length≤1048576:=by rw[cJ];exact hs
 have HS:=xQ fun(w':World) (hx:Ext w w')=>aFd s.data.toList w' g
 have HJ: ∀w',Ext w w'→U 19 #[I 1,.string b] w' (aYy TDd 3 (rj 1 b.data.toList).1.length ((rj 1 b.data.toList).1.flatMap bT) w' fun pj cj=> .tuple #[.slice pj (rj 1 b.data.toList).1.length cj,I (rj 1 b.data.toList).2]):=fun w' hx=>by refine(aQ6 1 b w' hb ⟨by omega,by omega⟩).mono ?_;rintro e w'' ⟨v,rfl,ho,a⟩;obtain⟨pj,cj,rfl⟩:=qW ho;exact⟨pj,cj,rfl,ho,a⟩
 unfold uN at HS;have i:=aE7 1 b.data.toList;unfold fO;cases hr:dC s.data.toList with
 |none=>rw[hr]at HS;exact aTh hZ hZ 0 0 s b [] 0 w HS
 |some x=>
  obtain⟨h,en⟩:=x;rw[hr]at HS;obtain⟨f,h0,h1⟩:=oU hr;dsimp only;by_cases hn:((rj 1 b.data.toList).1.length:Int)≤en
  ·rw[if_pos hn];exact aQw h h en 0 s b _ _ w hn HS HJ
  rw[if_neg hn];obtain⟨e1,rfl⟩:=aWk h0;have hl:((rj 1 b.data.toList).1.drop e1).length=(rj 1 b.data.toList).1.length-e1:=aWt;refine aTg h _ _ e1 s b _ _ w rfl (by omega) HS HJ (fun B p c q d pe ce w' hB hx hi hS=> ?_);have:=wM h p _ c q _ d pe ((rj 1 b.data.toList).1.drop e1).length ce ((rj 1 b.data.toList).1.drop e1) w' hi (hl.symm▸hS) (by omega);unfold uQ at this;rw[if_pos f,hl]at this;refine this.mono ?_;rintro e w'' ⟨pa,ca,qa,da,ps,cs,rfl,o1,o2,_,a⟩;rw[nX,hl];exact⟨pa,ca,qa,da,ps,_,cs,rfl,dX o1 hB,dX o2 hB,a⟩
theorem aU2 (r:aQ)(en:Int)(e1:Nat)(s b:ByteArray)(ds:List Dd3)(nd:Nat)(w:World)(HS:xC 25 #[.string s] w fun w' e w''=> ∃pa ca qa da,e= .returned (.tuple #[.agg #[g.aA,g.aB,.slice pa g.cells ca,g.free,g.step,g.aE,g.aF,g.aD,g.aG,.slice qa g.vs da],en,.bool false])∧w''.ownsRow w' TI 1 (.slice pa g.cells ca) g.cells.length (ivs g.cells)∧w''.ownsRow w' TV 4 (.slice qa g.vs da) g.vs.length (g.vs.flatMap aC)∧Ext w' w''):
  U 5 #[.string s,.string b] w (kU hZ 0 false w):=by
 go_enter func5,ntmps5;go_wp2_with fail;refine(HS _ (Mem.b1 w).ext).mono ?_;rintro e w1 ⟨p1,c1,q1,d1,rfl,ho,hq,hx⟩;have M1:=(((Mem.start w).c0 aN zT).own2 hx ho hq (aVz _) (by decide))
 have d:=M1.hi 2;clear hx ho hq HS;go_upto_region 3 with fail;obtain⟨X1,c⟩: ∃a,a=w1.heap.size:=⟨_,rfl⟩
 rw[←c];have M2:=(M1.blkNew aN (aYo g p1 c1 q1 d1) X1 c.symm)
 generalize World.alloc _ _=v1 at M2⊢;clear M1 d c;have f:=M2.hi 0;have h:=M2.hi 3;have f_:=(M2.bk 3).tenf;go_wp2;clear f_ f h;have M3:=(M2.put10 (i:=3) rfl (I 0) (I 0) (.slice none 0 0) (I 0) (I 0) (I 0) (I 0) (I 0) (I 0) (.slice none 0 0))
 generalize j:World.setCell _ _ _=wz;rw[j]at M3;clear j M2;have y_:=(M3.bk 3).ten;exact aYw (v:= .tuple #[.agg #[(),(),((),()),(),(),(),(),(),(),((),())],(),.bool false]) (show kU hZ 0 false w _ _ from⟨none,0,none,0,rfl,aW9 _ _ _ _,aW9 _ _ _ _,M3.ext⟩)
theorem aS7 (r:aQ)(en:Int)(e1:Nat)(s b:ByteArray)(ds:List Dd3)(nd:Nat)(w:World)(hn:(nd:Int)≤en)(HS:xC 25 #[.string s] w fun w' e w''=> ∃pa ca qa da,e= .returned (.tuple #[.agg #[g.aA,g.aB,.slice pa g.cells ca,g.free,g.step,g.aE,g.aF,g.aD,g.aG,.slice qa g.vs da],en,.bool true])∧w''.ownsRow w' TI 1 (.slice pa g.cells ca) g.cells.length (ivs g.cells)∧w''.ownsRow w' TV 4 (.slice qa g.vs da) g.vs.length (g.vs.flatMap aC)∧Ext w' w'')(HJ:xC 13 #[I 1,.string b] w fun w' e w''=> ∃pj cj,e= .returned (.tuple #[.slice pj nd cj,I (rj 1 b.data.toList).2])∧w''.ownsRow w' TDd 3 (.slice pj nd cj) nd (ds.flatMap bT)∧Ext w' w''):
  U 5 #[.string s,.string b] w (kU g nd true w):=by
 go_enter func5,ntmps5;go_wp2_with fail;refine(HS _ (Mem.b1 w).ext).mono ?_;rintro e w1 ⟨p1,c1,q1,d1,rfl,ho,hq,hx⟩;have M1:=(((Mem.start w).c0 aN zT).own2 hx ho hq (aVz _) (by decide))
 have h:=M1.hi 2;clear hx ho hq HS;go_upto_region 3 with fail;obtain⟨X1,f⟩: ∃a,a=w1.heap.size:=⟨_,rfl⟩
 rw[←f];have M2:=(M1.blkNew aN (aYo g p1 c1 q1 d1) X1 f.symm)
 generalize World.alloc _ _=v1 at M2⊢;clear M1 h f;have j:=M2.hi 0;have k:=M2.hi 3;go_wp2_with fail;refine(HJ _ M2.ext).mono ?_;rintro e w3 ⟨pj,cj,rfl,n,p⟩;have M3:=(M2.call p n)
 clear M2 j k p n HJ;have l:=M3.hi 1;have m:=M3.hi 4;have t0:=aYu (en<(nd:Int));have t1:=aYv ((nd:Int)≤en);obtain⟨v0,v1,v2,v3,v4,v5,v6,v7,v8,v9⟩:=(M3.bk 1).ten;have f_:=(M3.bk 4).tenf;obtain⟨c,d⟩:=M3.nq 1 4;go_wp2;clear v0 v1 v2 v3 v4 v5 v6 v7 v8 v9 f_ c d l m;have M4:=(M3.put10 (i:=4) rfl (I g.aA) (I g.aB) (.slice p1 g.cells c1) (I g.free) (I g.step) (I g.aE) (I g.aF) (I g.aD) (I g.aG) (.slice q1 g.vs d1))
 generalize o:World.setCell _ _ _=wz;rw[o]at M4;clear o M3;have y_:=(M4.bk 4).ten;exact aYw (v:= .tuple #[.agg #[g.aA,g.aB,.slice p1 g.cells c1,g.free,g.step,g.aE,g.aF,g.aD,g.aG,.slice q1 g.vs d1],nd,.bool true]) (show kU g nd true w _ _ from⟨_,_,_,_,rfl,(M4.ow 2),(M4.ow 3),M4.ext⟩)
theorem aU1 (he:en=(e1:Int))(hn:e1<nd)(HS:xC 25 #[.string s] w fun w' e w''=> ∃pa ca qa da,e= .returned (.tuple #[.agg #[g.aA,g.aB,.slice pa g.cells ca,g.free,g.step,g.aE,g.aF,g.aD,g.aG,.slice qa g.vs da],en,.bool true])∧w''.ownsRow w' TI 1 (.slice pa g.cells ca) g.cells.length (ivs g.cells)∧w''.ownsRow w' TV 4 (.slice qa g.vs da) g.vs.length (g.vs.flatMap aC)∧Ext w' w'')(HJ:xC 13 #[I 1,.string b] w fun w' e w''=> ∃pj cj,e= .returned (.tuple #[.slice pj nd cj,I (rj 1 b.data.toList).2])∧w''.ownsRow w' TDd 3 (.slice pj nd cj) nd (ds.flatMap bT)∧Ext w' w'')(HR:Hid (∀B p c q d pe ce w',B≤w'.heap.size→Ext w w'→IsHouse w' g p g.cells.length c q g.vs.length d→Sl w' pe (nd-e1) ce 3 ((ds.drop e1).flatMap bT)→U 15 #[.agg (aYo g p c q d),.slice pe (nd-e1) ce] w' fun e w''=> ∃pa ca qa da ps nq cs,e= .returned (.tuple #[.agg #[r.aA,r.aB,.slice pa r.cells ca,r.free,r.step,r.aE,r.aF,r.aD,r.aG,.slice qa r.vs da],.slice ps nq cs])∧w''.ownsRow B TI 1 (.slice pa r.cells ca) r.cells.length (ivs r.cells)∧w''.ownsRow B TV 4 (.slice qa r.vs da) r.vs.length (r.vs.flatMap aC)∧Ext w' w'')):
  U 5 #[.string s,.string b] w (kU r nd true w):=by
 go_enter func5,ntmps5;go_wp2_with fail;refine(HS _ (Mem.b1 w).ext).mono ?_;rintro e w1 ⟨p1,c1,q1,d1,rfl,ho,hq,hx⟩;have M1:=(((Mem.start w).c0 aN zT).own2 hx ho hq (aVz _) (by decide))
 have ap:=M1.hi 2;clear hx ho hq HS;go_upto_region 3 with fail;obtain⟨X1,am⟩: ∃a,a=w1.heap.size:=⟨_,rfl⟩
 rw[←am];have M2:=(M1.blkNew aN (aYo g p1 c1 q1 d1) X1 am.symm)
 generalize World.alloc _ _=v1 at M2⊢;clear M1 ap am;have aq:=M2.hi 0;have ar:=M2.hi 3;go_wp2_with fail;refine(HJ _ M2.ext).mono ?_;rintro e w3 ⟨pj,cj,rfl,a2,a6⟩;have M3:=(M2.call a6 a2)
 clear M2 aq ar a6 a2 HJ;have au:=M3.hi 1;have av:=M3.hi 4;have t0:=aYv (en<(nd:Int));have t1:=aYu ((nd:Int)≤en);subst he;have t2:=aYv (e1<nd);have t3:=aYu (nd≤e1);have bm:e1<nd:=by omega
 obtain⟨gj,rfl,bi,bj⟩:=M3.so 0;have bl:=(M3.sq 0).le;have i0:=aYp e1;have i1:=aYr e1 nd;have i2: ¬cj=e1:=by omega
 have i3:=aYr nd cj;have i4:=aYr e1 cj;have i5:(e1:Int).toNat=e1:=by omega
 have SD:=xQ (wR (M3.sq 0) (by omega:e1≤nd));rw[aCg,aWz]at SD;have IG:=xQ (show IsHouse w3 g p1 _ c1 q1 _ d1 from⟨(M3.sq 2),(M3.sq 3)⟩);go_upto_region 6 with fail
 refine oT (gl [gEq (.agg #[(g.aA:Int),(g.aB:Int),.slice p1 g.cells c1,(g.free:Int),(g.step:Int),(g.aE:Int),(g.aF:Int),(g.aD:Int),(g.aG:Int),.slice q1 g.vs d1]),gEq (.slice (some ⟨gj,0,none⟩) nd cj),gEq (e1:Int),(fun v _=> ∃pd dd,v= .slice pd (nd-e1) dd∧Sl w3 pd (nd-e1) dd 3 ((ds.drop e1).flatMap bT)),(fun v w'=> ∃p c q d ps nq cs,v= .tuple #[.agg #[r.aA,r.aB,.slice p r.cells c,r.free,r.step,r.aE,r.aF,r.aD,r.aG,.slice q r.vs d],.slice ps nq cs]∧w'.ownsRow w3 TI 1 (.slice p r.cells c) r.cells.length (ivs r.cells)∧w'.ownsRow w3 TV 4 (.slice q r.vs d) r.vs.length (r.vs.flatMap aC)),(fun v w'=> ∃p c q d ps nq cs,v= .tuple #[.agg #[r.aA,r.aB,.slice p r.cells c,r.free,r.step,r.aE,r.aF,r.aD,r.aG,.slice q r.vs d],.slice ps nq cs]∧w'.ownsRow w3 TI 1 (.slice p r.cells c) r.cells.length (ivs r.cells)∧w'.ownsRow w3 TV 4 (.slice q r.vs d) r.vs.length (r.vs.flatMap aC)),(fun v w'=> ∃p c q d,v= .agg #[r.aA,r.aB,.slice p r.cells c,r.free,r.step,r.aE,r.aF,r.aD,r.aG,.slice q r.vs d]∧w'.ownsRow w3 TI 1 (.slice p r.cells c) r.cells.length (ivs r.cells)∧w'.ownsRow w3 TV 4 (.slice q r.vs d) r.vs.length (r.vs.flatMap aC)),(fun v _=> ∃ps nq cs,v= .slice ps nq cs)]) 8 7 (by kernel_rfl) rfl (by kernel_rfl) (by kernel_rfl) (by kernel_rfl) (by decide) (mQ (aW (bL _) (aW (bL _) (aW (bL _) (aW (fun _ _ _ h _=>h) (aW (fun v w w' ⟨p,c,q,d,ps,nq,cs,e,o1,o2⟩ hx=>⟨p,c,q,d,ps,nq,cs,e,aM o1 hx,aM o2 hx⟩) (aW (fun v w w' ⟨p,c,q,d,ps,nq,cs,e,o1,o2⟩ hx=>⟨p,c,q,d,ps,nq,cs,e,aM o1 hx,aM o2 hx⟩) (aW (fun v w w' ⟨p,c,q,d,e,o1,o2⟩ hx=>⟨p,c,q,d,e,aM o1 hx,aM o2 hx⟩) (aW (fun _ _ _ h _=>h) (pM)))))))))) (k:=9) (by kernel_rfl) (by decide) (by kernel_rfl) (ls:= [(0,some 31),(1,some 32),(2,some 33),(3,some 34),(4,some 35),(5,some 30),(6,some 36),(7,some 37)]) (by kernel_rfl) (ir:= [0,1,2,3,4,5,6,7]) (by kernel_rfl) rfl (fun _ _ _ _ h=>h) (lf:= [(5,some 30)]) (by kernel_rfl) ?flo ?steps (tl:=#[true,true,true,true,true,true,true,true,false]) (by kernel_rfl) ?fin
 case flo=>intro wi hx v5 h5;obtain⟨t,n,u,o,m,l,j,rfl,aa,ab⟩:=h5;exact⟨.slice m l j,.inl ⟨by rfl,fun w=>by go_simp⟩,⟨_,_,_,rfl⟩⟩
 case steps=>
  refine sC [] rfl (fun wi hx=> ?_) ?_
  ·intro K hK;have hX:Ext w3 wi:=xE;have bg:=((M3.bk 1).ext hX).ten;go_simp;exact hK _ _ ⟨.agg #[(g.aA:Int),(g.aB:Int),.slice p1 g.cells c1,(g.free:Int),(g.step:Int),(g.aE:Int),(g.aF:Int),(g.aD:Int),(g.aG:Int),.slice q1 g.vs d1],rfl,rfl,Ext.refl _⟩
  refine sS0 [] (sS0 [] ?_);refine sC [(1,some 32),(2,some 33)] rfl (fun wi hx=> ?_) ?_
  ·intro v1 h1 v2 h2 K hK;subst h1 h2;have bb:=SD.out;go_simp;exact hK _ _ ⟨_,rfl,⟨_,_,rfl,bb⟩,Ext.refl _⟩
  refine sC [(0,some 31),(3,some 34)] rfl (fun wi hx=> ?_) ?_
  ·intro v0 h0 v3 h3 K hK;obtain rfl:=h0;obtain⟨be,bc,rfl,a1⟩:=h3;go_simp;refine(HR w3 _ _ _ _ _ _ _ hx.sz (M3.ext.trans hx.of_drew) (IG.out.ext hx.of_drew) (a1.ext hx.of_drew)).mono ?_;rintro e w5 ⟨t,n,u,o,m,l,j,rfl,o5,v5,bd⟩;go_simp;exact hK _ _ ⟨_,rfl,⟨t,n,u,o,m,l,j,rfl,o5,v5⟩,bd⟩
  refine sC [(4,some 35)] rfl (fun wi hx=> ?_) ?_
  ·intro v4 h4 K hK;obtain⟨a8,ay,ba,a0,a9,a7,az,rfl,an,ao⟩:=h4;go_simp;exact hK _ _ ⟨_,rfl,⟨a8,ay,ba,a0,a9,a7,az,rfl,an,ao⟩,Ext.refl _⟩
  refine sC [(5,some 30)] rfl (fun wi hx=> ?_) ?_
  ·intro v5 h5 K hK;obtain⟨t,n,u,o,m,l,j,rfl,aa,ab⟩:=h5;go_simp;exact hK _ _ ⟨_,rfl,⟨t,n,u,o,rfl,aa,ab⟩,Ext.refl _⟩
  refine sC [(5,some 30)] rfl (fun wi hx=> ?_) StepsL.nil
  ·intro v5 h5 K hK;obtain⟨t,n,u,o,m,l,j,rfl,aa,ab⟩:=h5;go_simp;exact hK _ _ ⟨.slice m l j,rfl,⟨_,_,_,rfl⟩,Ext.refl _⟩
 case fin=>
  intro wi hx v0 h0 v1 h1 v2 h2 v3 h3 v4 h4 v5 h5 v6 h6 v7 h7;subst h0 h1 h2;obtain⟨be,bc,rfl,a1⟩:=h3;obtain⟨a8,ay,ba,a0,a9,a7,az,rfl,an,ao⟩:=h4;obtain⟨t,n,u,o,m,l,j,rfl,aa,ab⟩:=h5;obtain⟨aw,ak,ax,al,rfl,a3,a4⟩:=h6;obtain⟨bp,bo,bh,rfl⟩:=h7;have a5:=hx.of_drew;obtain⟨w8,rfl⟩: ∃z,z=wi:=⟨_,rfl⟩
  have x:=(M3.own2 a5 a3 a4 (aVz _) (by decide))
  clear hx a5 an ao aa ab a3 a4 IG SD M3 au av;have ae:=x.hi 3;have af:=x.hi 6;have bf:=(x.bk 3).tenf;try go_frame
  refine wpAny_ready (rs:= [8]) (by kernel_rfl) (by simp) ?_;refine AllReady.cons rfl (fun K hK=> ?_) AllReady.nil;go_simp;refine hK _ _ ?_;clear hK K bf ae af;have f:=(x.put10 (i:=3) rfl (I r.aA) (I r.aB) (.slice aw r.cells ak) (I r.free) (I r.step) (I r.aE) (I r.aF) (I r.aD) (I r.aG) (.slice ax r.vs al))
  generalize ad:World.setCell _ _ _=v8;rw[ad]at f;clear ad x;refine wpAny_done (by kernel_rfl) ?_ _;try go_frame
  have ag:=f.hi 3;have ah:=f.hi 6;obtain⟨v0,v1,v2,v3,v4,v5,v6,v7,v8,v9⟩:=(f.bk 3).ten;have f_:=(f.bk 6).tenf;obtain⟨ai,aj⟩:=f.nq 3 6;go_wp2;clear v0 v1 v2 v3 v4 v5 v6 v7 v8 v9 f_ ai aj ag ah;have y:=(f.put10 (i:=6) rfl (I r.aA) (I r.aB) (.slice aw r.cells ak) (I r.free) (I r.step) (I r.aE) (I r.aF) (I r.aD) (I r.aG) (.slice ax r.vs al))
  generalize ad:World.setCell _ _ _=wz;rw[ad]at y;clear ad f;have y_:=(y.bk 6).ten;exact aYw (v:= .tuple #[.agg #[r.aA,r.aB,.slice aw r.cells ak,r.free,r.step,r.aE,r.aF,r.aD,r.aG,.slice ax r.vs al],nd,.bool true]) (show kU r nd true w _ _ from⟨_,_,_,_,rfl,(y.ow 0),(y.ow 1),y.ext⟩)
theorem aA4 (hs:s.size≤1048576)(hb:b.size≤2147483648)(a:Env w)(hE:BitTab w):
  U 5 #[.string s,.string b] w (kU (fO s.data.toList b.data.toList).1 (fO s.data.toList b.data.toList).2.1 (fO s.data.toList b.data.toList).2.2 w):=by
 have i:s.data.toList.length≤1048576:=by rw[cJ];exact hs
 have HS:=xQ fun(w':World) (hx:Ext w w')=>aGf s.data.toList w' i (a.ext hx)
 have HJ: ∀w',Ext w w'→U 13 #[I 1,.string b] w' (aYy TDd 3 (rj 1 b.data.toList).1.length ((rj 1 b.data.toList).1.flatMap bT) w' fun pj cj=> .tuple #[.slice pj (rj 1 b.data.toList).1.length cj,I (rj 1 b.data.toList).2]):=fun w' hx=>by refine(aLk 1 b w' hb ⟨by omega,by omega⟩ (a.ext hx)).mono ?_;rintro e w'' ⟨v,rfl,ho,f⟩;obtain⟨pj,cj,rfl⟩:=qW ho;exact⟨pj,cj,rfl,ho,f⟩
 unfold uN at HS;have j:=aE7 1 b.data.toList;unfold fO;cases hr:dC s.data.toList with
 |none=>rw[hr]at HS;exact aU2 hZ hZ 0 0 s b [] 0 w HS
 |some x=>
  obtain⟨h,en⟩:=x;rw[hr]at HS;obtain⟨g,h0,h1⟩:=oU hr;dsimp only;by_cases hn:((rj 1 b.data.toList).1.length:Int)≤en
  ·rw[if_pos hn];exact aS7 h h en 0 s b _ _ w hn HS HJ
  rw[if_neg hn];obtain⟨e1,rfl⟩:=aWk h0;have hl:((rj 1 b.data.toList).1.drop e1).length=(rj 1 b.data.toList).1.length-e1:=aWt;refine aU1 h _ _ e1 s b _ _ w rfl (by omega) HS HJ (fun B p c q d pe ce w' hB hx hi hS=> ?_);have:=rE h p _ c q _ d pe ((rj 1 b.data.toList).1.drop e1).length ce ((rj 1 b.data.toList).1.drop e1) w' hi (hl.symm▸hS) (by omega) (hE.ext hx);unfold uQ at this;rw[if_pos g,hl]at this;refine this.mono ?_;rintro e w'' ⟨pa,ca,qa,da,ps,cs,rfl,o1,o2,_,f⟩;rw[nX,hl];exact⟨pa,ca,qa,da,ps,_,cs,rfl,dX o1 hB,dX o2 hB,f⟩
theorem uZ {h:aQ}{e:Int}:(dJ h e).length≤200000:=by
 unfold dJ jH;split
 ·rename_i hc;have h1:=mP (h:=h);have h2:=eM e (by omega);have h3:=qM (dec e++ [124]++bI h);have h4:=cG (mD (dec e++ [124]++bI h)).toNat (by omega);simp only[aW5,List.length_singleton];omega
 simp
theorem aR5 {h:aQ}(b:bC h=true)(l:List UInt8)(k:Nat)(hk:k≤(rj 1 l).1.length):
  fO (dJ (kT h ((rj 1 l).1.take k)) (k:Int)) l=(kT h (rj 1 l).1,((rj 1 l).1.length:Int),true):=by
 have hj:=aE7 1 l;have ho:bC (kT h ((rj 1 l).1.take k))=true:=oS _ b;have a:dJ (kT h ((rj 1 l).1.take k)) (k:Int)≠ []:=by unfold dJ;rw[if_pos ⟨ho,by omega,by omega⟩];unfold jH;simp
 unfold fO;rw[vA ho a rfl];dsimp only;by_cases h1:((rj 1 l).1.length:Int)≤(k:Int)
 ·rw[if_pos h1,show k=(rj 1 l).1.length by omega,aXt]
 rw[if_neg h1,aXo];have e:kT (kT h ((rj 1 l).1.take k)) ((rj 1 l).1.drop k)=kT h (rj 1 l).1:=by unfold kT;rw[←List.foldl_append,List.take_append_drop]
 rw[e]
theorem aO8 (s l:List UInt8){h:aQ}{n:Int}{ok:Bool}(hr:fO s l=(h,n,ok)):(ok=false∧n=0∧h=hZ)∨(ok=true∧bC h=true):=by
 unfold fO at hr;cases hq:dC s with
 |none=>rw[hq]at hr;simp only[aX5]at hr;obtain⟨rfl,rfl,rfl⟩:=hr;exact .inl ⟨rfl,rfl,rfl⟩
 |some x=>
  obtain⟨g,en⟩:=x;obtain⟨a,_,_⟩:=oU hq;rw[hq]at hr;dsimp only at hr;split at hr
  ·simp only[aX5]at hr;obtain⟨rfl,rfl,rfl⟩:=hr;exact .inr ⟨rfl,a⟩
  simp only[aX5]at hr;obtain⟨rfl,rfl,rfl⟩:=hr;exact .inr ⟨rfl,oS _ a⟩
def tO (w:World)(e:Ending)(w':World):Prop:= ∃s b:ByteArray,e= .returned (.tuple #[.string s,.string b])∧s.size≤200001∧b.size≤5000∧Ext w w'
theorem aCf (m:Nat):(ds.flatMap bT).take (m*3)=(ds.take m).flatMap bT:=by
 induction ds generalizing m with
 |nil=>simp
 |cons d ds ih=>
  cases m with
  |zero=>simp
  |succ m=>obtain⟨a,b,c⟩:=d;rw[show(m+1)*3=m*3+1+1+1 by omega];simp[bT,ih]
theorem aJh (v:Value)(w:World)(hc:Code w v):U 4 #[v] w (tO w):=by
 go_enter func4,ntmps4;go_wp2_with fail;refine(aA1 v _ hc).mono ?_;rintro e w1 ⟨R,rfl,a4,r1,x1⟩;have hR:=r1.lt;go_wp2_with fail;refine(sR R 0 0 _ r1 (by omega) (by omega) (by omega)).mono ?_;rintro e w2 ⟨h,p,f,q,c2,b,rfl,b6,b7,b4,ho,hv,r2,x2⟩;have M2:=(show MemR R w1 w2 [aYm w1 p h.cells f,aYn w1 q h.vs c2]from(MemR.start R w1 hR).own2 x2 ho hv (by decide))
 have z2:=x2.sz;clear ho hv x2;obtain⟨J,hJ⟩: ∃J,J=(rj 1 b.data.toList).1:=⟨_,rfl⟩
 obtain⟨nj,ad⟩: ∃n,J.length=n:=⟨_,rfl⟩
 have bz:nj≤99:=by rw[←ad,hJ];exact aE7 _ _
 have ay:Hid (∀w',U 19 #[I 1,.string b] w' (aYy TDd 3 nj (J.flatMap bT) w' fun pj cj=> .tuple #[.slice pj nj cj,I (rj 1 b.data.toList).2])):=fun w'=>by refine(aQ6 1 b w' (by omega) (by unfold B64;omega)).mono ?_;rintro e w'' ⟨v,rfl,ho,ap⟩;rw[←hJ,ad]at ho;obtain⟨pj,cj,rfl⟩:=qW ho;exact⟨pj,cj,rfl,ho,ap⟩
 have bf:=xQ ad;clear ad hJ;go_wp2_with fail;refine(ay _).mono ?_;rintro e w3 ⟨pj,cj,rfl,ho,hx⟩;have r3:Rand w3 R 30000:=(r2.alloc _).ext hx;have M3:=((M2.c0 aN (aYo h p f q c2)).callR (hx.r R) ho)
 clear ho hx ay r2 r1 M2;have ar:=M3.hi 1;have hw:=aYs ((nj:Int)+2);go_wp2_with fail;clear hw;refine(cP R 30000 ((nj:Int)+2) _ r3 (by omega)).mono ?_;rintro e w4 ⟨x,rfl,xa,xb,r4,x4⟩;clear r3;obtain⟨m,rfl⟩:=aWk xa;have hm:m≤nj+1:=by omega
 clear xa xb;have M4:=(M3.pickd x4)
 clear x4 M3 ar;have au:=M4.hi 1;obtain⟨mm,bm⟩: ∃x:Nat,x=min m nj:=⟨_,rfl⟩
 have t5:min (m:Int) (nj:Int)=(mm:Int):=by omega
 have bo:mm≤nj:=by omega
 obtain⟨zh,aq⟩: ∃z,(uQ h (J.take mm)).1=z:=⟨_,rfl⟩
 have am:(J.take mm).length=mm:=by rw[aWn,bf.out];omega
 have bq:=aQy h (J.take mm);rw[aq]at bq;have HI:=xQ (show IsHouse w4 h p _ f q _ c2 from⟨(M4.sq 2),(M4.sq 3)⟩);have a0:=xQ (show Sl w4 pj mm cj 3 ((J.take mm).flatMap bT)from by have:=aFs (M4.sq 0) bo;rwa[aCf]at this);have BX:=xQ (M4.bk 1);have XM:=xQ M4.ext;have b5:=(M4.sq 0).le;have lX:=BX.out.lt;have az:Hid (∀B w',B≤w'.heap.size→Ext w4 w'→U 21 #[.agg (aYo h p f q c2),.slice pj mm cj] w' fun e w''=> ∃pa ca qa da ps nq cs,e= .returned (.tuple #[.agg #[zh.aA,zh.aB,.slice pa zh.cells ca,zh.free,zh.step,zh.aE,zh.aF,zh.aD,zh.aG,.slice qa zh.vs da],.slice ps nq cs])∧w''.ownsRow B TI 1 (.slice pa zh.cells ca) zh.cells.length (ivs zh.cells)∧w''.ownsRow B TV 4 (.slice qa zh.vs da) zh.vs.length (zh.vs.flatMap aC)∧Ext w' w''):=fun B w' hB hx=>by have:=wM h p _ f q _ c2 pj (J.take mm).length cj (J.take mm) w' (HI.out.ext hx) (am.symm▸a0.out.ext hx) (by omega);rw[am]at this;unfold oM at this;refine this.mono ?_;rintro e w'' ⟨pa,ca,qa,da,ps,cs,rfl,o1,o2,o3,ap⟩;rw[aq]at o1 o2⊢;exact⟨pa,ca,qa,da,ps,_,cs,rfl,dX o1 hB,dX o2 hB,ap⟩
 clear bm aq am a0 HI M4 au;have j0:=aYp mm;have j1:=aYr mm nj;have j2:=aYr mm cj;have ht:(mm:Int).toNat=mm:=by omega
 go_upto_region 5 with fail
 refine oT (gl [gEq (.agg #[(h.aA:Int),(h.aB:Int),.slice p h.cells f,(h.free:Int),(h.step:Int),(h.aE:Int),(h.aF:Int),(h.aD:Int),(h.aG:Int),.slice q h.vs c2]),gEq (.slice pj nj cj),gEq (m:Int),gEq (.slice pj nj cj),gEq (nj:Int),gEq (mm:Int),gEq (.slice pj mm cj),(fun v w'=> ∃p c q d ps nq cs,v= .tuple #[.agg #[zh.aA,zh.aB,.slice p zh.cells c,zh.free,zh.step,zh.aE,zh.aF,zh.aD,zh.aG,.slice q zh.vs d],.slice ps nq cs]∧w'.ownsRow w4 TI 1 (.slice p zh.cells c) zh.cells.length (ivs zh.cells)∧w'.ownsRow w4 TV 4 (.slice q zh.vs d) zh.vs.length (zh.vs.flatMap aC)),(fun v w'=> ∃p c q d ps nq cs,v= .tuple #[.agg #[zh.aA,zh.aB,.slice p zh.cells c,zh.free,zh.step,zh.aE,zh.aF,zh.aD,zh.aG,.slice q zh.vs d],.slice ps nq cs]∧w'.ownsRow w4 TI 1 (.slice p zh.cells c) zh.cells.length (ivs zh.cells)∧w'.ownsRow w4 TV 4 (.slice q zh.vs d) zh.vs.length (zh.vs.flatMap aC)),(fun v w'=> ∃p c q d,v= .agg #[zh.aA,zh.aB,.slice p zh.cells c,zh.free,zh.step,zh.aE,zh.aF,zh.aD,zh.aG,.slice q zh.vs d]∧w'.ownsRow w4 TI 1 (.slice p zh.cells c) zh.cells.length (ivs zh.cells)∧w'.ownsRow w4 TV 4 (.slice q zh.vs d) zh.vs.length (zh.vs.flatMap aC)),(fun v _=> ∃ps nq cs,v= .slice ps nq cs),aJa w4 aN #[(),(),((),()),(),(),(),(),(),(),((),())]]) 12 10 (by kernel_rfl) rfl (by kernel_rfl) (by kernel_rfl) (by kernel_rfl) (by decide) (mQ (aW (bL _) (aW (bL _) (aW (bL _) (aW (bL _) (aW (bL _) (aW (bL _) (aW (bL _) (aW (fun v w w' ⟨p,c,q,d,ps,nq,cs,e,o1,o2⟩ hx=>⟨p,c,q,d,ps,nq,cs,e,aM o1 hx,aM o2 hx⟩) (aW (fun v w w' ⟨p,c,q,d,ps,nq,cs,e,o1,o2⟩ hx=>⟨p,c,q,d,ps,nq,cs,e,aM o1 hx,aM o2 hx⟩) (aW (fun v w w' ⟨p,c,q,d,e,o1,o2⟩ hx=>⟨p,c,q,d,e,aM o1 hx,aM o2 hx⟩) (aW (fun _ _ _ h _=>h) (aW (uF _ _ _) (pM)))))))))))))) (k:=14) (by kernel_rfl) (by decide) (by kernel_rfl) (ls:= [(0,some 31),(1,some 32),(2,some 33),(3,some 34),(4,some 35),(5,some 36),(6,some 37),(7,some 38),(8,some 30),(9,some 39),(10,some 40),(11,some 10)]) (by kernel_rfl) (ir:= [0,1,2,3,4,5,6,7,8,9,10,11]) (by kernel_rfl) rfl (fun _ _ _ _ h=>h) (lf:= [(8,some 30)]) (by kernel_rfl) ?flo ?steps (tl:=#[true,true,true,true,true,true,true,true,true,true,true,true,false,false]) (by kernel_rfl) ?fin
 case flo=>intro wi hx v8 h8;obtain⟨ag,aa,ah,ab,u,o,g,rfl,j,l⟩:=h8;exact⟨.slice u o g,.inl ⟨by rfl,fun w=>by go_simp⟩,⟨_,_,_,rfl⟩⟩
 case steps=>
  refine sC [] rfl (fun wi hx=> ?_) ?_
  ·intro K hK;have hX:Ext w4 wi:=xE;have b2:=(BX.out.ext hX).ten;go_simp;exact hK _ _ ⟨.agg #[(h.aA:Int),(h.aB:Int),.slice p h.cells f,(h.free:Int),(h.step:Int),(h.aE:Int),(h.aF:Int),(h.aD:Int),(h.aG:Int),.slice q h.vs c2],rfl,rfl,Ext.refl _⟩
  refine sS0 [] (sS0 [] (sS0 [] (sS1 [(3,some 34)] (sS2 [(2,some 33),(4,some 35)] (sS2 [(1,some 32),(5,some 36)] ?_)))));refine sC [(0,some 31),(6,some 37)] rfl (fun wi hx=> ?_) ?_
  ·intro v0 h0 v6 h6 K hK;subst h0 h6;go_simp;refine(az w4 _ hx.sz hx.of_drew).mono ?_;rintro e w5 ⟨bt,bg,bv,bi,bu,bs,bh,rfl,o5,v5,bp⟩;go_simp;exact hK _ _ ⟨_,rfl,⟨bt,bg,bv,bi,bu,bs,bh,rfl,o5,v5⟩,bp⟩
  refine sC [(7,some 38)] rfl (fun wi hx=> ?_) ?_
  ·intro v7 h7 K hK;obtain⟨bb,a1,bd,a3,bc,ba,a2,rfl,an,ao⟩:=h7;go_simp;exact hK _ _ ⟨_,rfl,⟨bb,a1,bd,a3,bc,ba,a2,rfl,an,ao⟩,Ext.refl _⟩
  refine sC [(8,some 30)] rfl (fun wi hx=> ?_) ?_
  ·intro v8 h8 K hK;obtain⟨ag,aa,ah,ab,u,o,g,rfl,j,l⟩:=h8;go_simp;exact hK _ _ ⟨_,rfl,⟨ag,aa,ah,ab,rfl,j,l⟩,Ext.refl _⟩
  refine sC [(8,some 30)] rfl (fun wi hx=> ?_) ?_
  ·intro v8 h8 K hK;obtain⟨ag,aa,ah,ab,u,o,g,rfl,j,l⟩:=h8;go_simp;exact hK _ _ ⟨.slice u o g,rfl,⟨_,_,_,rfl⟩,Ext.refl _⟩
  refine sC [] rfl (fun wi hx=> ?_) StepsL.nil
  ·intro K hK;go_simp;exact hK _ _ ⟨.pointer (some ⟨wi,0,none⟩),rfl,⟨wi.heap.size,rfl,by have:=hx.sz;simp at this;omega,Blk.new _ _ _⟩,(Ext.refl _).alloc _⟩
 case fin=>
  intro wi hx v0 h0 v1 h1 v2 h2 v3 h3 v4 h4 v5 h5 v6 h6 v7 h7 v8 h8 v9 h9 b9 bj cb bl;subst h0 h1 h2 h3 h4 h5 h6;obtain⟨bb,a1,bd,a3,bc,ba,a2,rfl,an,ao⟩:=h7;obtain⟨ag,aa,ah,ab,u,o,g,rfl,j,l⟩:=h8;obtain⟨av,ak,aw,al,rfl,a5,a7⟩:=h9;obtain⟨b1,b0,bx,rfl⟩:=bj;obtain⟨b3,rfl,ai,ax⟩:=bl;have a9:=hx.of_drew;obtain⟨v5,rfl⟩: ∃z,z=wi:=⟨_,rfl⟩
  have y:=(Mem.own2blk (Mem.start w4) a9 ax ai a5 a7 (by decide) (by decide) (by decide))
  clear hx a9 ax ai an ao j l a5 a7 az t5;have ae:=y.hi 2;have bw:=(y.bk 2).tenf;try go_frame
  refine wpAny_ready (rs:= [12]) (by kernel_rfl) (by simp) ?_;refine AllReady.cons rfl (fun K hK=> ?_) AllReady.nil;go_simp;refine hK _ _ ?_;clear hK K bw ae;have a:=(y.put10 (i:=2) rfl (I zh.aA) (I zh.aB) (.slice av zh.cells ak) (I zh.free) (I zh.step) (I zh.aE) (I zh.aF) (I zh.aD) (I zh.aG) (.slice aw zh.vs al))
  generalize a8:World.setCell _ _ _=be;rw[a8]at a;clear a8 y;refine wpAny_ready (rs:= [13]) (by kernel_rfl) (by simp) ?_;refine AllReady.cons rfl (fun K hK=> ?_) AllReady.nil;go_simp;refine hK _ _ ?_;clear hK K;refine wpAny_done (by kernel_rfl) ?_ _;try go_frame
  have af:=a.hi 2;have IZ:=xQ (show IsHouse be zh av _ ak aw _ al from⟨(a.sq 0),(a.sq 1)⟩);have r5:Rand be R 30001:=r4.ext a.ext;clear r4;obtain⟨sv,a6,b8⟩: ∃s:ByteArray,str (dJ zh (m:Int))= .string s∧s.size≤200000:=⟨_,rfl,by rw[aIf];exact uZ⟩
  have br:=(a.bk 2).ten;have aj:=xQ (wL zh (m:Int) av _ ak aw _ al _ IZ.out);rw[a6]at aj;clear a6;go_wp2_with fail;refine aj.out.mono ?_;rintro e w6 ⟨rfl,x6⟩;have r6:=r5.ext x6;have X6:=xQ (XM.out.trans ((a.ext.trans x6).r R));clear r5 x6 aj IZ br a af;go_wp2_with fail;refine(aFx R 30001 9 _ r6 (by omega) (by omega) (by omega)).mono ?_;rintro e w7 ⟨t,rfl,r7,x7⟩;cases t with
  |false=>go_wp2;exact aYw (v:= .tuple #[.string sv,.string b]) ⟨sv,b,rfl,by omega,by omega,ExtR.new x1 (X6.out.trans x7) a4⟩
  |true=>go_wp2_with fail;refine(vF R (30001+1) sv _ r7 (by omega) (by omega)).mono ?_;rintro e w8 ⟨z,rfl,hz,r8,x8⟩;go_wp2;exact aYw (v:= .tuple #[.string z,.string b]) ⟨z,b,rfl,by omega,by omega,ExtR.new x1 ((X6.out.trans x7).trans x8) a4⟩
theorem aFt (q:OA)(n m c1 c2:Nat)(xs ys:List Int)(w:World)(h1:Sl w p n c1 1 (ivs xs))(h2:Sl w q m c2 1 (ivs ys)):
  U 60 #[.slice p n c1,.slice q m c2] w fun e w'=> ∃b:Bool,e= .returned (.bool b)∧(b=true↔xs=ys)∧Ext w w':=by
 have hn:=h1.bd;have hm:=h2.bd;have l1:=xQ h1.ilen;have l2:=xQ h2.ilen;have H1:=xQ h1;have H2:=xQ h2;clear h1 h2;by_cases hnm:n=m
 ·subst hnm;go_enter func60,ntmps60;go_wp2;go_loopw [5] (fun i wr=> ∃k:Nat,k≤n∧i=I k∧xs.take k=ys.take k∧Ext w wr) (fun i _=>n-(intOf i).toNat)
  case atStart=>exact⟨0,aW6 _,rfl,rfl,Ext.refl _⟩
  case round=>
   obtain⟨k,hk,rfl,ht,hE⟩:=hrel;have HT:=xQ ht;clear ht;by_cases hlt:k<n
   ·obtain⟨b,j,x,rfl,hx,hb,d⟩:=(H1.out.ext hE).int_at hlt;obtain⟨b2,g,y,rfl,hy,h,c⟩:=(H2.out.ext hE).int_at hlt;have HX:=xQ hx;have HY:=xQ hy;clear hx hy;have i1:=aYp k;have i2:=aYq k n;by_cases hxy:x=y
    ·have f:Hid (xs.take (k+1)=ys.take (k+1)):=by
      show _=_;rw[aX HX.out,aX HY.out,HT.out,hxy]
     subst hxy;go_wp2;go_quiet (fail);go_wp2;go_roundw
     case rel=>exact⟨k+1,by omega,by go_num,f.out,xE⟩
     case measure=>simp[intOf];omega
    have e1:(x==y)=false:=by simpa using hxy
    have a:Hid (xs≠ys):=by rintro rfl;have:=HX.out.symm.trans HY.out;injection this with this;exact hxy this
    clear hxy;go_wp2;go_quiet (fail);go_wp2;go_ret;exact⟨false,rfl,iff_of_false Bool.false_ne_true a.out,xE⟩
   have a:Hid (xs=ys):=by have:=HT.out;rw[aW4 (by rw[l1.out];omega),aW4 (by rw[l2.out];omega)]at this;exact this
   go_wp2;go_ret;exact⟨true,rfl,iff_of_true rfl a.out,hE⟩
 have e1:((n:Int)==(m:Int))=false:=by simp;omega
 have a:Hid (xs≠ys):=by rintro rfl;exact hnm (l1.out.symm.trans l2.out)
 go_enter func60,ntmps60;go_wp2;go_ret;exact⟨false,rfl,iff_of_false Bool.false_ne_true a.out,xE⟩
theorem aFu (aA aB c a:Int)(p q:OA)(n m c1 c2:Nat)(xs ys:List Int)(w:World)(h1:Sl w p n c1 1 (ivs xs))(h2:Sl w q m c2 1 (ivs ys)):
  U 27 #[aH aA aB p n c1,aH c a q m c2] w fun e w'=> ∃b:Bool,e= .returned (.bool b)∧(b=true↔aA=c∧aB=a∧xs=ys)∧Ext w w':=by
 have H1:=xQ h1;have H2:=xQ h2;clear h1 h2;by_cases hw:aA=c
 ·subst hw;by_cases hd:aB=a
  ·subst hd;go_enter func27,ntmps27;go_wp2_with fail;refine(aFt p q n m c1 c2 xs ys _ (H1.out.ext xE) (H2.out.ext xE)).mono ?_;rintro e w1 ⟨b,rfl,hb,hx⟩;have HB:=xQ hb;clear hb;go_wp2;go_ret;exact⟨b,rfl,by rw[HB.out];simp,xE⟩
  have e1:(aB==a)=false:=by simpa using hd
  have HN:=xQ hd;clear hd;go_enter func27,ntmps27;go_wp2;go_ret;exact⟨false,rfl,iff_of_false Bool.false_ne_true (fun e=>HN e.2.1),xE⟩
 have e1:(aA==c)=false:=by simpa using hw
 have HN:=xQ hw;clear hw;go_enter func27,ntmps27;go_wp2;go_ret;exact⟨false,rfl,iff_of_false Bool.false_ne_true (fun e=>HN e.1),xE⟩
theorem jG (a b:Int):(a==b)=false∧ ¬a=b∨a=b:=by
 by_cases h:a=b
 ·exact .inr h
 exact .inl ⟨by simpa using h,h⟩
theorem aD8 (s:IsHouse w h p1 n1 c1 q1 m1 d1)(t:IsHouse w g p2 n2 c2 q2 m2 d2):
  U 7 #[bV h p1 n1 c1 q1 m1 d1,bV g p2 n2 c2 q2 m2 d2] w fun e w'=> ∃b:Bool,e= .returned (.bool b)∧(b=true↔h=g)∧Ext w w':=by
 have hm:=s.vs.bd;have ad:=t.vs.bd;have v:=xQ s.vlen;have x:=xQ t.vlen;have H1:=xQ s.cells;have H2:=xQ t.cells;have V1:=xQ s.vs;have V2:=xQ t.vs;clear s t;obtain⟨aA,aB,q,r,u,aE,aF,aD,aG,vs⟩:=h;obtain⟨j,c,p,n,o,d,m,a,l,f⟩:=g;dsimp only at v x H1 H2 V1 V2;go_enter func7,ntmps7;go_wp2_with fail;refine(aFu aA aB j c p1 p2 n1 n2 c1 c2 q p _ (H1.out.ext (((Mem.start w).c0 aN #[aA,aB,.slice p1 n1 c1,r,u,aE,aF,aD,aG,.slice q1 m1 d1]).c1 aN #[j,c,.slice p2 n2 c2,n,o,d,m,a,l,.slice q2 m2 d2]).ext) (H2.out.ext (((Mem.start w).c0 aN #[aA,aB,.slice p1 n1 c1,r,u,aE,aF,aD,aG,.slice q1 m1 d1]).c1 aN #[j,c,.slice p2 n2 c2,n,o,d,m,a,l,.slice q2 m2 d2]).ext)).mono ?_;rintro e w1 ⟨b,rfl,hb,hx⟩;have HB:=xQ hb;clear hb;have M1:=((Mem.b2 w).adv hx)
 clear hx;obtain⟨a0,a1,a2,a3,a4,a5,a6,a7,a8,a9⟩:=(M1.bk 1).ten;obtain⟨b0,b1,b2,b3,b4,b5,b6,b7,b8,b9⟩:=(M1.bk 0).ten;cases b with
 |false=>
  have HN:Hid (¬(aA=j∧aB=c∧q=p)):=fun e=>absurd (HB.out.2 e) Bool.false_ne_true
  go_wp2;go_ret;exact⟨false,rfl,iff_of_false Bool.false_ne_true (fun e=>HN (by injection e;exact⟨‹_›,‹_›,‹_›⟩)),M1.ext⟩
 |true=>
  obtain⟨rfl,rfl,rfl⟩:=HB.out.1 rfl;clear HB;rcases jG r n with⟨x1,hn⟩|rfl
  ·have HN:=xQ hn;clear hn;go_wp2;go_ret;exact⟨false,rfl,iff_of_false Bool.false_ne_true (fun e=>HN (by injection e)),M1.ext⟩
  rcases jG u o with⟨x1,hn⟩|rfl
  ·have HN:=xQ hn;clear hn;go_wp2;go_ret;exact⟨false,rfl,iff_of_false Bool.false_ne_true (fun e=>HN (by injection e)),M1.ext⟩
  rcases jG aE d with⟨x1,hn⟩|rfl
  ·have HN:=xQ hn;clear hn;go_wp2;go_ret;exact⟨false,rfl,iff_of_false Bool.false_ne_true (fun e=>HN (by injection e)),M1.ext⟩
  rcases jG aF m with⟨x1,hn⟩|rfl
  ·have HN:=xQ hn;clear hn;go_wp2;go_ret;exact⟨false,rfl,iff_of_false Bool.false_ne_true (fun e=>HN (by injection e)),M1.ext⟩
  rcases jG aD a with⟨x1,hn⟩|rfl
  ·have HN:=xQ hn;clear hn;go_wp2;go_ret;exact⟨false,rfl,iff_of_false Bool.false_ne_true (fun e=>HN (by injection e)),M1.ext⟩
  rcases jG aG l with⟨x1,hn⟩|rfl
  ·have HN:=xQ hn;clear hn;go_wp2;go_ret;exact⟨false,rfl,iff_of_false Bool.false_ne_true (fun e=>HN (by injection e)),M1.ext⟩
  by_cases hm:m1=m2
  ·subst hm;go_wp2;go_loopw [5] (fun i wr=> ∃k:Nat,k≤m1∧i=I k∧vs.take k=f.take k∧Ext w1 wr) (fun i _=>m1-(intOf i).toNat)
   case atStart=>exact⟨0,aW6 _,rfl,rfl,Ext.refl _⟩
   case round=>
    clear a0 a1 a2 a3 a4 a5 a6 a7 a8 a9 b0 b1 b2 b3 b4 b5 b6 b7 b8 b9;obtain⟨k,hk,rfl,ht,hE⟩:=hrel;have HT:=xQ ht;have M2:=(M1.adv hE)
    clear ht;have a9:=(M2.bk 1).cl 9;have b9:=(M2.bk 0).cl 9;by_cases hlt:k<m1
    ·obtain⟨b,ae,x0,x1,x2,x3,rfl,hx,hb,g0,g1,g2,g3⟩:=iI (V1.out.ext M2.ext) hlt;obtain⟨b',aa,y0,y1,y2,y3,rfl,hy,ab,k0,k1,k2,k3⟩:=iI (V2.out.ext M2.ext) hlt;have HX:=xQ hx;have HY:=xQ hy;clear hx hy;have i1:=aYp k;have i2:=aYq k m1;have HV:Hid (vs=f→(x0,x1,x2,x3)=(y0,y1,y2,y3)):=fun e=>by
      have:=HX.out;rw[e,HY.out]at this;injection this with this;exact this.symm
     rcases jG x0 y0 with⟨z1,hn⟩|rfl
     ·have HN:Hid (¬vs=f):=fun e=>hn (by have:=HV e;simp only[aX5]at this;exact this.1)
      clear hn HV;go_wp2;go_quiet (fail);go_wp2;go_ret;exact⟨false,rfl,iff_of_false Bool.false_ne_true (fun e=>HN (by injection e)),Ext.drewN M2.ext _⟩
     rcases jG x1 y1 with⟨z1,hn⟩|rfl
     ·have HN:Hid (¬vs=f):=fun e=>hn (by have:=HV e;simp only[aX5]at this;exact this.2.1)
      clear hn HV;go_wp2;go_quiet (fail);go_wp2;go_ret;exact⟨false,rfl,iff_of_false Bool.false_ne_true (fun e=>HN (by injection e)),Ext.drewN M2.ext _⟩
     rcases jG x2 y2 with⟨z1,hn⟩|rfl
     ·have HN:Hid (¬vs=f):=fun e=>hn (by have:=HV e;simp only[aX5]at this;exact this.2.2.1)
      clear hn HV;go_wp2;go_quiet (fail);go_wp2;go_ret;exact⟨false,rfl,iff_of_false Bool.false_ne_true (fun e=>HN (by injection e)),Ext.drewN M2.ext _⟩
     rcases jG x3 y3 with⟨z1,hn⟩|rfl
     ·have HN:Hid (¬vs=f):=fun e=>hn (by have:=HV e;simp only[aX5]at this;exact this.2.2.2)
      clear hn HV;go_wp2;go_quiet (fail);go_wp2;go_ret;exact⟨false,rfl,iff_of_false Bool.false_ne_true (fun e=>HN (by injection e)),Ext.drewN M2.ext _⟩
     have z:Hid (vs.take (k+1)=f.take (k+1)):=by show _=_;rw[aX HX.out,aX HY.out,HT.out]
     clear HV;go_wp2;go_quiet (fail);go_wp2;go_roundw
     case rel=>exact⟨k+1,by omega,by go_num,z.out,xE⟩
     case measure=>simp[intOf];omega
    have y:Hid (vs=f):=by have:=HT.out;rw[aW4 (by rw[v.out];omega),aW4 (by rw[x.out];omega)]at this;exact this
    go_wp2;go_ret;exact⟨true,rfl,iff_of_true rfl (by rw[y.out]),M2.ext⟩
  have e1:((m1:Int)==(m2:Int))=false:=by simp;omega
  have HN:Hid (¬vs=f):=fun e=>hm (by rw[←v.out,←x.out,e])
  go_wp2;go_ret;exact⟨false,rfl,iff_of_false Bool.false_ne_true (fun e=>HN (by injection e)),M1.ext⟩
theorem qT (a:IsHouse w h p1 n1 c1 q1 m1 d1)(c:IsHouse w h p2 n2 c2 q2 m2 d2):
  U 7 #[bV h p1 n1 c1 q1 m1 d1,bV h p2 n2 c2 q2 m2 d2] w (Z (.bool true) w):=by
 refine(aD8 h h p1 n1 c1 q1 m1 d1 p2 n2 c2 q2 m2 d2 w a c).mono ?_;rintro e w' ⟨b,rfl,hb,hx⟩;rw[hb.2 rfl];exact⟨rfl,hx⟩
theorem aL4 (c:Nat)(q:OA)(d:Nat)(w:World)(hi:IsHouse w hZ p 0 c q 0 d):
  U 8 #[bV hZ p 0 c q 0 d] w (Z (.bool true) w):=by
 have H:=xQ (fun w' (hx:Ext w w')=>qT hZ p 0 c q 0 d none 0 0 none 0 0 w' (hi.ext hx) ⟨Sl.nil w' 1,Sl.nil w' 4⟩);clear hi;unfold hZ at*;go_enter func8,ntmps8;go_wp2_with fail;refine Ω (H _ xE) fun w1 a=>?_
 go_wp2;go_ret;exact⟨rfl,xE⟩
end Go.Proofs.YthfmmibomhhmpabGreatDoor
