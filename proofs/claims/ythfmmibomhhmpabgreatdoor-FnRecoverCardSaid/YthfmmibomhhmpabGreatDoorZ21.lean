/- Lemmas (@packed). -/
import Derived.Test.YthfmmibomhhmpabGreatDoorZ20
namespace Go.Proofs.YthfmmibomhhmpabGreatDoor
open Go.RowKit Go.Proofs.Tryz
set_option linter.all false
set_option maxHeartbeats 8000000
set_option maxRecDepth 100000
variable{W D:Int}{ps r:List (List UInt8)}{xs:List Int}{q p:List UInt8}{a c:List Value}{k n g b2 s2 n2 m b N b1 s1 n1 sz:Nat}{o:Option aF4}{t e2 e1 e:TypeId}{v2 v v1:Value}{w' wr w1:World}(rows:List (List UInt8))(s:ByteArray)(l:List UInt8)(w:World)
theorem oX (q:List UInt8)(hq:q.length≤maxLen)(w:World):U 59 #[str q] w fun e w'=>e= .returned (I ((bK 4 q).getD (-1)))∧w=w':=
 aBv ⟨q.toArray⟩ w (by simpa[ByteArray.size]using hq)
theorem aRf (h:l.all dR=true)(hl:l.length≤4):jM l≤9999:=by
 match l,hl with
 | [],_=>simp[jM]
 | [a],_=>simp[jM,dR]at h⊢;omega
 | [a,b],_=>simp[jM,dR]at h⊢;omega
 | [a,b,c],_=>simp[jM,dR]at h⊢;omega
 | [a,b,c,d],_=>simp[jM,dR]at h⊢;omega
theorem aHa {l:List UInt8}(h: ¬l.length=5):fP l=(bK 4 l).getD (-1):=by
 unfold fP bK;by_cases hc:1≤l.length∧l.length≤4∧(l.length≤1∨l.head? ≠some 48)∧l.all dR=true
 ·rw[if_pos hc,if_pos ⟨hc.1,by omega,hc.2.2⟩]
 rw[if_neg hc,if_neg (fun q=>hc ⟨q.1,by omega,q.2.2⟩)]
theorem aJw {l:List UInt8}(h:l.length=5):fP l=if l.head? =some 48∨(bK 4 (l.take 4)).getD (-1)<0∨(bK 4 (l.drop 4)).getD (-1)<0 then -1 else 10*(bK 4 (l.take 4)).getD (-1)+(bK 4 (l.drop 4)).getD (-1):=by
 match l,h with
 | [a,b,c,d,e],_=>
   have h1:bK 4 [e]=if dR e=true then some ((e.toNat:Int)-48)else none:=by simp[bK,jM]
   have h2:bK 4 [a,b,c,d]=if a≠48∧ [a,b,c,d].all dR=true then some (jM [a,b,c,d])else none:=by simp[bK]
   have h3:bK 5 [a,b,c,d,e]=if a≠48∧ [a,b,c,d].all dR=true∧dR e=true then some (10*jM [a,b,c,d]+((e.toNat:Int)-48))else none:=by have:jM [a,b,c,d,e]=10*jM [a,b,c,d]+((e.toNat:Int)-48):=tW [a,b,c,d] e;simp[bK,this,and_assoc]
   simp only[aYh,List.take_zero,aYj,List.drop_zero,List.head?_cons,aX3];unfold fP;rw[h1,h2,h3];by_cases q1:a=48
   ·simp[q1]
   by_cases q2: [a,b,c,d].all dR=true
   ·have hb:=aBp [a,b,c,d] q2 (by simp);by_cases q3:dR e=true
    ·have q4:0≤(e.toNat:Int)-48:=by simp[dR]at q3;omega
     simp only[q1,q2,q3,not_false_eq_true,ne_eq,and_self,if_true,Option.getD_some];rw[if_neg (by simp only[false_or,not_or];constructor<;>omega)]
    simp[q1,q3]
   simp only[q1,q2,not_false_eq_true,ne_eq,and_false,and_true,false_and,if_false,Option.getD_none];simp
theorem aDc (w:World)(h5: ¬s.size=5)(hs:s.size≤maxLen)(v:Int)(HR:Hid (∀w,U 59 #[.string s] w fun e w'=>e= .returned (I v)∧w=w')):
  U 103 #[.string s] w (Z (I (v)) w):=by
 have h6: ¬(s.size:Int)=5:=by omega
 go_enter func103,ntmps103;go_wp2_with fail;refine(HR _).mono ?_;rintro e w1 ⟨rfl,rfl⟩;go_wp2;exact aYw (v:=I (v)) ⟨rfl,by exact .refl _⟩
theorem aG0 (h5:s.size=5)(a b:Int)(hz:((s[0].toNat:Int)==48)=true):
  U 103 #[.string s] w (Z (I (-1)) w):=by
 go_enter func103,ntmps103;go_wp2;exact aYw (v:=I (-1)) ⟨rfl,by exact .refl _⟩
theorem aOj (w:World)(h5:s.size=5)(a b:Int)(hz:((s[0].toNat:Int)==48)=false)(ha:a<0)(HA:Hid (∀w,U 59 #[.string (s.extract 0 4)] w fun e w'=>e= .returned (I a)∧w=w')):
  U 103 #[.string s] w (Z (I (-1)) w):=by
 go_enter func103,ntmps103;go_wp2_with fail;refine(HA _).mono ?_;rintro e w1 ⟨rfl,rfl⟩;go_wp2;exact aYw (v:=I (-1)) ⟨rfl,by exact .refl _⟩
theorem aOi (w:World)(h5:s.size=5)(a b:Int)(hz:((s[0].toNat:Int)==48)=false)(ha:0≤a)(hb:b<0)(HA:Hid (∀w,U 59 #[.string (s.extract 0 4)] w fun e w'=>e= .returned (I a)∧w=w'))(HB:Hid (∀w,U 59 #[.string (s.extract 4 5)] w fun e w'=>e= .returned (I b)∧w=w')):
  U 103 #[.string s] w (Z (I (-1)) w):=by
 go_enter func103,ntmps103;go_wp2_with fail;refine(HA _).mono ?_;rintro e w1 ⟨rfl,rfl⟩;go_wp2_with fail;refine(HB _).mono ?_;rintro e w1 ⟨rfl,rfl⟩;go_wp2;exact aYw (v:=I (-1)) ⟨rfl,by exact .refl _⟩
theorem aLa (w:World)(h5:s.size=5)(a b:Int)(hz:((s[0].toNat:Int)==48)=false)(ha:0≤a)(c:a≤9999)(hb:0≤b)(d:b≤9999)(HA:Hid (∀w,U 59 #[.string (s.extract 0 4)] w fun e w'=>e= .returned (I a)∧w=w'))(HB:Hid (∀w,U 59 #[.string (s.extract 4 5)] w fun e w'=>e= .returned (I b)∧w=w')):
  U 103 #[.string s] w (Z (I (10*a+b)) w):=by
 have q1:=aYs (10*a);have q2:=aYs (10*a+b);go_enter func103,ntmps103;go_wp2_with fail;refine(HA _).mono ?_;rintro e w1 ⟨rfl,rfl⟩;go_wp2_with fail;refine(HB _).mono ?_;rintro e w1 ⟨rfl,rfl⟩;go_wp2_with fail;refine rL (gl [gEq (.string s),gEq (.string (s.extract 0 4)),gEq a,gEq (10*a:Int),gEq (.string s),gEq (.string (s.extract 4 5)),gEq b,gEq (10*a+b:Int)]) 8 9 [(0,some 23),(1,some 24),(2,some 25),(3,some 26),(4,some 27),(5,some 28),(6,some 29),(7,some 30)] ?steps ?fin
 case steps=>
  refine sS0 [] (sS1 [(0,some 23)] ?_);refine sC [(1,some 24)] rfl (fun wi hx=> ?_) ?_
  ·intro v1 h1 K hK;obtain rfl:=h1;go_wp2_with fail;refine(HA _).mono ?_;rintro e w2 ⟨rfl,rfl⟩;go_simp;exact hK _ _ ⟨I a,rfl,rfl,Ext.refl _⟩
  refine sS1 [(2,some 25)] (sS0 [] (sS1 [(4,some 27)] ?_));refine sC [(5,some 28)] rfl (fun wi hx=> ?_) ?_
  ·intro v5 h5 K hK;obtain rfl:=h5;go_wp2_with fail;refine(HB _).mono ?_;rintro e w2 ⟨rfl,rfl⟩;go_simp;exact hK _ _ ⟨I b,rfl,rfl,Ext.refl _⟩
  exact sS2 [(3,some 26),(6,some 29)] StepsL.nil
 case fin=>intro wi hx v0 h0 v1 h1 v2 h2 v3 h3 v4 h4 v5 h5 v6 h6 v7 h7;subst h0 h1 h2 h3 h4 h5 h6 h7;refine wpAny_ready (rs:= [8]) (by kernel_rfl) (by simp) ?_;refine AllReady.cons rfl (fun K hK=> ?_) AllReady.nil;go_simp;refine hK _ _ ?_;clear hK K;refine wpAny_done (by kernel_rfl) ?_ _;go_wp2;exact aYw (v:=I (10*a+b)) ⟨rfl,by exact .trans (.drew (.refl _)) hx⟩
theorem aA0 (hs:l.length≤maxLen):U 103 #[str l] w (Z (I (fP l)) w):=by
 by_cases h:l.length=5
 ·rw[aJw h];have a:(⟨l.toArray⟩:ByteArray).size=5:=by simpa[ByteArray.size]using h
  have b:((⟨l.toArray⟩:ByteArray)[0]'(by rw[a];omega))=l[0]'(by omega):=by simp[ByteArray.getElem_eq_getElem_data]
  have hh:l.head? =some (l[0]'(by omega)):=by rw[List.head?_eq_getElem?,aW0]
  have rd: ∀(i j:Nat) (q:List UInt8),(l.take j).drop i=q→q.length≤maxLen→ ∀w,U 59 #[.string ((⟨l.toArray⟩:ByteArray).extract i j)] w fun e w'=>e= .returned (I ((bK 4 q).getD (-1)))∧w=w':=by intro i j q hq hl w;rw[pD ⟨l.toArray⟩ i j q (by simpa using hq)];exact oX q hl w
  have rA:=rd 0 4 (l.take 4) (by simp) (by simp;unfold maxLen;omega);have rB:=rd 4 5 (l.drop 4) (by rw[aW4 (by omega)]) (by simp;unfold maxLen;omega);have bd: ∀(m:Nat) (q:List UInt8),m≤4→(bK m q).getD (-1)≤9999:=by
   intro m q hm;cases hr:bK m q with
   |none=>simp
   |some x=>
    unfold bK at hr;split at hr
    ·rename_i hc;cases hr
     exact aRf q hc.2.2.2 (by omega)
    simp at hr
  have bA:=bd 4 (l.take 4) (by omega);have bB:=bd 4 (l.drop 4) (by omega);by_cases c0:l.head? =some 48
  ·rw[if_pos (.inl c0)];rw[hh]at c0;injection c0 with c0;exact aG0 ⟨l.toArray⟩ w a 0 0 (by rw[b,c0];rfl)
  have c1:((((⟨l.toArray⟩:ByteArray)[0]'(by rw[a];omega)).toNat:Int)==48)=false:=by rw[b,beq_eq_false_iff_ne];intro e;apply c0;rw[hh];congr 1;exact UInt8.toNat_inj.1 (by have:(48:UInt8).toNat=48:=rfl;omega)
  by_cases cA:(bK 4 (l.take 4)).getD (-1)<0
  ·rw[if_pos (.inr (.inl cA))];exact aOj ⟨l.toArray⟩ w a _ 0 c1 cA rA
  by_cases cB:(bK 4 (l.drop 4)).getD (-1)<0
  ·rw[if_pos (.inr (.inr cB))];exact aOi ⟨l.toArray⟩ w a _ _ c1 (by omega) cB rA rB
  rw[if_neg (by rintro(h|h|h);exact c0 h;exact cA h;exact cB h)];exact aLa ⟨l.toArray⟩ w a _ _ c1 (by omega) bA (by omega) bB rA rB
 rw[aHa h];exact aDc ⟨l.toArray⟩ w (by simpa[ByteArray.size]using h) (by simpa[ByteArray.size]using hs) _ (fun w=>oX l hs w)
abbrev nH:TypeId:=27
abbrev rR:TypeId:=9
abbrev Z3:Array Value:=#[(),(),((),())]
theorem aRa {w:World}{b:List Value}(h1:w.ownsRow b1 e1 s1 v1 n1 a)(h2:w.ownsRow b2 e2 s2 v2 n2 b)(ne:e1≠e2):v1.ownBlock=none∨v1.ownBlock≠v2.ownBlock:=by
 rcases h1.2 with⟨rfl,_⟩|⟨g,cap,cur,rfl,hb,hg,_⟩
 ·exact .inl rfl
 right;rcases h2.2 with⟨rfl,_⟩|⟨g2,cap2,cur2,rfl,hb2,hg2,_⟩
 ·simp[Value.ownBlock]
 simp only[Value.ownBlock,ne_eq,aX3];rintro rfl;rw[hg]at hg2;injection hg2 with e;injection e with _ e;exact ne e
theorem iW {w:World}{cs:Array Value}(h1:w.ownsRow b1 e1 s1 v1 n1 a)(h2:Blk w g t cs)(ne:e1≠t):v1.ownBlock≠some g:=by
 rcases h1.2 with⟨rfl,_⟩|⟨g1,cap,cur,rfl,hb,hg,_⟩
 ·simp[Value.ownBlock]
 simp only[Value.ownBlock,ne_eq,aX3];rintro rfl;unfold Blk at h2;rw[hg]at h2;injection h2 with e;injection e with _ e;exact ne e
theorem aH6 {o:Obj}{cs:Array Value}{xs:List Value}(X:Ext w1 wr)(B:Blk wr g t cs)(ht:TI≠t)(O:wr.ownsRow b TI 1 v n xs)(hb:w1.heap.size≤b)(a:(wr.alloc o).grownBy w' v.ownBlock):
  Ext w1 w'∧Blk w' g t cs:=
 ⟨(X.alloc o).grown a (fun q hq=>aW8 hb (O.lt q hq).1),(B.alloc o).grown a (fun e=>iW O B ht e.symm)⟩
theorem aH5 {o:Obj}{xs:List Value}(O:wr.ownsRow b TI 1 v n xs)(a:(wr.alloc o).grownBy w' v.ownBlock)(h2:wr.ownsRow b2 e2 s2 v2 n2 c)(ne:e2≠TI):w'.ownsRow b2 e2 s2 v2 n2 c:=
 (h2.alloc o).kept a (aRa h2 O ne)
theorem jI {i:Nat}{cs:Array Value}(B:Blk w' g t cs){u:Value}(h2:w'.ownsRow b2 e2 s2 v2 n2 a)(ne:e2≠t):(w'.setCell ⟨g,i,none⟩ u).ownsRow b2 e2 s2 v2 n2 a:=
 h2.kept ((ExtR.refl g w').setCell (p:=⟨g,i,none⟩) (.inl rfl) u) (.inr (iW h2 B ne))
def qK (o:Option aF4)(w:World)(e:Ending)(w':World):Prop:=
 ∃p n cap,n=(o.getD (0,0,[])).2.2.length∧e= .returned (.tuple #[aH (o.getD (0,0,[])).1 (o.getD (0,0,[])).2.1 p n cap,.bool o.isSome])∧w'.ownsRow w.heap.size TI 1 (.slice p n cap) n (ivs (o.getD (0,0,[])).2.2)∧Ext w w'
theorem jP {w:World}(h:o=none)(hx:Ext w w'):qK o w (.returned (.tuple #[aH 0 0 none 0 0,.bool false])) w':=by subst h;exact⟨none,0,0,rfl,rfl,aW9 _ _ _ _,hx⟩
theorem wU {wd dp:Int}{w:World}{p:OA}{a:Nat}(h:o=some (wd,dp,xs))(hn:n=xs.length)(ho:w'.ownsRow w TI 1 (.slice p n a) n (ivs xs))(hx:Ext w w'):qK o w (.returned (.tuple #[aH wd dp p n a,.bool true])) w':=by subst h;subst hn;exact⟨p,_,a,rfl,rfl,ho,hx⟩
def cO (rows:List (List UInt8))(k:Nat):List (List (List UInt8)):=(rows.take k).map (aL 44)
theorem zM (h:(aL 47 l).length≤k):cO (aL 47 l) k=kF l:=by unfold cO kF;rw[aW4 h]
theorem gS {rows:List (List UInt8)}(h:rows[k]? =some q):cO rows (k+1)=cO rows k++ [aL 44 q]:=by unfold cO;rw[aX h,aWs];rfl
theorem zN (ps:List (List (List UInt8)))(r:List (List UInt8)):mB (ps++ [r])=r.length:=by simp[mB]
def dZ (ps:List (List (List UInt8))):List Int:=ps.flatten.map iN
theorem lR (ps:List (List (List UInt8)))(r:List (List UInt8)):dZ (ps++ [r])=dZ ps++r.map iN:=by simp[dZ]
theorem aJc {l:List UInt8}(h:(aL 47 l)[k]? =some q)(hf:nL (aL 44 q)=false):dE l=none:=by refine vD ?_;unfold tB;rw[Bool.and_eq_false_iff];right;rw[List.all_eq_false];exact⟨aL 44 q,List.mem_map_of_mem (aW1 h),by simp[hf]⟩
theorem aR0 (h:4<r.length):nL r=false:=by simp[nL];omega
theorem aTj {j:Nat}{c:List UInt8}(h:r[j]? =some c)(hc:rX c=none):nL r=false:=by unfold nL;rw[Bool.and_eq_false_iff];right;rw[List.all_eq_false];exact⟨c,aW1 h,by simp[hc]⟩
theorem kC:dE l=if aO (dW l).1 (dW l).2.1 (dW l).2.2=true∧cE (dW l).1 (dW l).2.1 (dW l).2.2=l then some (dW l)else none:=rfl
theorem aGg (hs:l.length<4294967281)(hE:Env w):U 99 #[str l] w (qK (dE l) w):=by
 have HS:Hid (∀q:List UInt8,q.length<4294967281→ ∀c w,Env w→U 98 #[str q,.string ⟨#[c]⟩] w (aYx rR 1 (aL c q).length (eY (aL c q)) w)):=
  fun q hq c w hE=>tR ⟨q.toArray⟩ c w (by simpa[ByteArray.size]using hq) hE
 have af:=eK 47 l;have HL:Hid (∀p∈aL 47 l,p.length<4294967281):=fun p hp=>Nat.lt_of_le_of_lt (af.1 p hp) hs
 have HR:Hid (∀(q:List UInt8) (x:Int) (b:Bool),q.length<4294967281→(bK 2 q).getD 0=x→(bK 2 q).isSome=b→ ∀w,U 55 #[str q,I 2] w fun e w'=>e= .returned (.tuple #[x,.bool b])∧w=w'):=by intro q x b hq hx hb w;subst hx;subst hb;exact mV q 2 (by omega) (by unfold maxLen;omega) w
 have HE:=xQ hE;have bf:=af.2;have ba:0<(aL 47 l).length:=List.length_pos_iff.2 (eX 47 l);clear af hE;go_enter func99,ntmps99;go_wp2_with fail;refine(HS l hs 47 _ (HE.out.ext (by exact .alloc (.refl _) _))).mono ?_;rintro e w1 ⟨v,rfl,an,h1⟩;have ag:=xQ (show w1.ownsRow (w.heap.size+1) rR 1 v (aL 47 l).length (eY (aL 47 l)) by simpa using an);have a5:Ext w w1:=by exact .trans (.alloc (.refl _) _) h1
 have f:Hid (Blk w1 w nH Z3):=(Blk.new w _ _).ext h1;have bq:(w:Nat)<w1:=f.out.lt;have s:=xQ a5;clear an h1 a5;obtain⟨gr,cr,rfl⟩:=aWb ag.out ba;generalize a4:(aL 47 l).length=R at*;have aj:=xQ a4;clear a4;have bo:R≤4294967281:=by omega
 by_cases hR3:3<R
 ·have o:Hid (dE l=none):=vD (by unfold tB;rw[aj.out];simp;omega);have a2:(3:Int)<(R:Int):=by omega
  have z_:=(f.out.ext (Ext.refl w1)).trif;have am:Ext w w1:=s.out.trans (Ext.refl w1);have ai:(w:Nat)<w1:=(f.out.ext (Ext.refl w1)).lt;go_wp2;exact aYw (v:= .tuple #[aH 0 0 none 0 0,.bool false]) (jP o.out xE)
 have a2: ¬(3:Int)<(R:Int):=by omega
 go_wp2
 go_loopw [25] (fun i wr=> ∃(k n:Nat) (p:OA) (cap:Nat),k≤R∧i=I k∧n=(dZ (cO (aL 47 l) k)).length∧n≤4*k∧Ext w1 wr∧Blk wr w1 nH #[(mB (cO (aL 47 l) k):Int),R,.slice p n cap]∧
  wr.ownsRow (w1.heap.size+1) TI 1 (.slice p n cap) n (ivs (dZ (cO (aL 47 l) k)))∧ ∀r∈(cO (aL 47 l) k),nL r=true) (fun i _=>R-(intOf i).toNat)
 case atStart=>refine⟨0,0,none,0,aW6 _,rfl,rfl,aW6 _,by exact .alloc (.refl _) _,?_,aW9 _ _ _ _,by simp[cO]⟩;have:=Blk.new w1 nH #[(),R,((),())];simpa[cO,mB]using this
 case round=>
  obtain⟨k,n,p,cap,hk,rfl,hn,a9,ad,hB,hO,ae⟩:=hrel;have HB:=xQ hB;have HO:=xQ hO;have HN:=xQ hn;have HF:=xQ ae;clear hB hO hn ae;by_cases hlt:k<R
  ·obtain⟨q,hq⟩: ∃q,(aL 47 l)[k]? =some q:=⟨_,aW0 (by rw[aj.out];exact hlt)⟩
   have HQ:=xQ hq;have bb:q.length<4294967281:=HL q (aW1 hq);have e1:wr.cell? ⟨gr,k,none⟩=some (str q):=aY (aM ag.out ad) k hlt q hq;clear hq;have i1:=aYp k;have i2:=aYq k R;have bl:(w1:Nat)<wr:=HB.out.lt;go_wp2_with fail;refine(HS q bb 44 _ (HE.out.ext (s.out.trans (by exact ad)))).mono ?_;rintro e w2 ⟨v2,rfl,ah,h2⟩;clear e1;have bg:=(eK 44 q).2;have az:0<(aL 44 q).length:=List.length_pos_iff.2 (eX 44 q);have XM:=xQ (ad.trans h2);have BM:=xQ (HB.out.ext h2);have OM:=xQ (aM HO h2);obtain⟨bW,OW⟩: ∃bW,Hid (w2.ownsRow bW rR 1 v2 (aL 44 q).length (eY (aL 44 q))):=⟨_,ah⟩
   have bm:(wr:Nat)≤w2:=h2.sz;clear ah h2;obtain⟨g2,c2,rfl⟩:=aWb OW az;have bd:Hid (∀c∈aL 44 q,c.length<4294967281):=fun c hc=>Nat.lt_of_le_of_lt ((eK 44 q).1 c hc) bb
   generalize hm:(aL 44 q).length=m at*;have HM:=hm;clear hm;by_cases hm4:4<m
   ·have o:Hid (dE l=none):=aJc HQ (aR0 (by rw[HM];exact hm4));have a8:(4:Int)<(m:Int):=by omega
    have z_:=(f.out.ext XM.out).trif;have am:Ext w w2:=s.out.trans XM.out;have ai:(w:Nat)<w2:=(f.out.ext XM.out).lt;go_wp2;exact aYw (v:= .tuple #[aH 0 0 none 0 0,.bool false]) (jP o.out xE)
   have a8: ¬(4:Int)<(m:Int):=by omega
   obtain⟨b0,t,b1,z,b2,aa⟩:=BM.out.trif;go_wp2;clear b0 b1 b2 t z aa
   go_loopw [40] (fun i wz=> ∃(j n:Nat) (p:OA) (cap:Nat),j≤m∧i=I j∧n=(dZ (cO (aL 47 l) k)++((aL 44 q).take j).map iN).length∧n≤4*k+j∧Ext w1 wz∧Blk wz w1 nH #[m,R,.slice p n cap]∧
    wz.ownsRow (w1.heap.size+1) TI 1 (.slice p n cap) n (ivs (dZ (cO (aL 47 l) k)++((aL 44 q).take j).map iN))∧wz.ownsRow bW rR 1 (.slice (some ⟨g2,0,none⟩) m c2) m (eY (aL 44 q))∧ ∀c∈(aL 44 q).take j,(rX c).isSome=true) (fun i _=>m-(intOf i).toNat)
   case atStart=>
    refine⟨0,n,p,cap,aW6 _,rfl,by simpa using HN.out,by omega,XM.out.setCell (aVz _) _,?_,?_,jI BM OW.out (by decide),by simp⟩
    ·have:=BM.out.set 0 (I m);simpa using this
    have:=jI (i:=0) (u:=I m) BM OM.out (by decide);simpa using this
   case round=>
    clear HN HO HB XM BM OM OW a9 n p cap;obtain⟨j,n,p,cap,hj,rfl,hn,a9,a1,hB,hO,hW,a7⟩:=hrel;have XZ:=xQ a1;have BZ:=xQ hB;have OZ:=xQ hO;have aw:=xQ hW;have ar:=xQ hn;have ap:=xQ a7;have bn:(w1:Nat)<wr:=hB.lt;clear a1 hB hO hW hn a7;by_cases hlt2:j<m
    ·obtain⟨c,hc⟩: ∃c,(aL 44 q)[j]? =some c:=⟨_,aW0 (by rw[HM];exact hlt2)⟩
     have HC:=xQ hc;have a6:c.length<4294967281:=bd c (aW1 hc);have e2:wr.cell? ⟨g2,j,none⟩=some (str c):=aY aw j hlt2 c hc;clear hc;have i3:=aYp j;have i4:=aYq j m;obtain⟨b0,t,b1,z,b2,aa⟩:=BZ.out.trif;by_cases hd:c= [46]
     ·have ay:(c== [46])=true:=by simp[hd]
      have ao:Hid (iN c=0):=by show _=_;rw[hd];rfl
      have aq:Hid (∀c∈(aL 44 q).take (j+1),(rX c).isSome=true):=by
       rw[xQ (aX HC.out)];intro x hx;rcases aWh.1 hx with h|h
       ·exact ap x h
       obtain rfl:x=c:=by simpa using h
       rw[hd];rfl
      clear hd;go_wp2_with (at_builtin;refine dB iA rfl _ _ rfl (w1.heap.size+1) (.slice p n cap) n _ rfl (OZ.out.alloc _) _ _ (0) _ rfl (by simp) (by omega) (by simp;omega) ?_;intro p2 a w3 g d;obtain⟨X3,B3⟩:=aH6 XZ BZ.out (by decide) OZ (by omega) d;have ab:=aH5 OZ d aw (by decide);clear d b0 b1 b2 t z aa e2;(have b0:w3.cell? ⟨w1,0,none⟩=some (I m):=B3.cell 0);(have b1:w3.cell? ⟨w1,1,none⟩=some (I R):=B3.cell 1);(have b2:w3.cell? ⟨w1,2,none⟩=some (.slice p n cap):=B3.cell 2);(have t:w3.frozen? ⟨w1,0,none⟩=false:=B3.frozen 0);(have z:w3.frozen? ⟨w1,1,none⟩=false:=B3.frozen 1);(have aa:w3.frozen? ⟨w1,2,none⟩=false:=B3.frozen 2);have bk:(w1:Nat)<w3:=B3.lt);have B4:=xQ (show Blk (w3.setCell ⟨w1,2,none⟩ (.slice p2 (n+1) a)) w1 nH #[m,R,.slice p2 (n+1) a] by have:=B3.set 2 (.slice p2 (n+1) a);simpa using this);have O4:Hid ((w3.setCell ⟨w1,2,none⟩ (.slice p2 (n+1) a)).ownsRow (w1.heap.size+1) TI 1 (.slice p2 (n+1) a) (n+1) (ivs (dZ (cO (aL 47 l) k)++((aL 44 q).take (j+1)).map iN))):=by have:=jI (i:=2) (u:= .slice p2 (n+1) a) B3 g (by decide);rw[aWu,show((aL 44 q).take j).map iN++ [0]=((aL 44 q).take (j+1)).map iN by rw[aX HC.out,aWs];simp[ao.out]]at this;exact this
      have av:Hid ((w3.setCell ⟨w1,2,none⟩ (.slice p2 (n+1) a)).ownsRow bW rR 1 (.slice (some ⟨g2,0,none⟩) m c2) m (eY (aL 44 q))):=jI B3 ab (by decide);have X4:Ext w1 (w3.setCell ⟨w1,2,none⟩ (.slice p2 (n+1) a)):=X3.setCell (aVz _) _;clear g ab B3;go_roundw
      case rel=>exact⟨j+1,n+1,p2,a,by omega,by go_num,by have bh:=HM;rw[ar.out];simp only[aW5,aWj,aWn];omega,by omega,X4,B4.out,O4.out,av.out,aq.out⟩
      case measure=>simp[intOf];omega
     have ay:(c== [46])=false:=by simp[hd]
     cases hr:bK 2 c with
     |none=>have o:Hid (dE l=none):=aJc HQ (aTj HC (by unfold rX;rw[if_neg hd,hr]));have au:=xQ (HR c 0 false a6 (by rw[hr];rfl) (by rw[hr];rfl));clear hr hd;go_wp2_with fail;refine(au _).mono ?_;rintro e w2 ⟨rfl,rfl⟩;clear b0 b1 b2 t z aa e2;have z_:=(f.out.ext XZ.out).trif;have am:Ext w wr:=s.out.trans XZ.out;have ai:(w:Nat)<wr:=(f.out.ext XZ.out).lt;go_wp2;exact aYw (v:= .tuple #[aH 0 0 none 0 0,.bool false]) (jP o.out xE)
     |some x=>
      have ao:Hid (iN c=x):=aN6 (by unfold rX;rw[if_neg hd,hr]);have aq:Hid (∀c∈(aL 44 q).take (j+1),(rX c).isSome=true):=by
       rw[xQ (aX HC.out)];intro y hy;rcases aWh.1 hy with h|h
       ·exact ap y h
       obtain rfl:y=c:=by simpa using h
       unfold rX;rw[if_neg hd,hr];rfl
      have au:=xQ (HR c x true a6 (by rw[hr];rfl) (by rw[hr];rfl));clear hr hd;go_wp2_with fail;refine(au _).mono ?_;rintro e w2 ⟨rfl,rfl⟩;go_wp2_with (at_builtin;refine dB iA rfl _ _ rfl (w1.heap.size+1) (.slice p n cap) n _ rfl (OZ.out.alloc _) _ _ (x) _ rfl (by simp) (by omega) (by simp;omega) ?_;intro p2 a w3 g d;obtain⟨X3,B3⟩:=aH6 XZ BZ.out (by decide) OZ (by omega) d;have ab:=aH5 OZ d aw (by decide);clear d b0 b1 b2 t z aa e2;(have b0:w3.cell? ⟨w1,0,none⟩=some (I m):=B3.cell 0);(have b1:w3.cell? ⟨w1,1,none⟩=some (I R):=B3.cell 1);(have b2:w3.cell? ⟨w1,2,none⟩=some (.slice p n cap):=B3.cell 2);(have t:w3.frozen? ⟨w1,0,none⟩=false:=B3.frozen 0);(have z:w3.frozen? ⟨w1,1,none⟩=false:=B3.frozen 1);(have aa:w3.frozen? ⟨w1,2,none⟩=false:=B3.frozen 2);have bk:(w1:Nat)<w3:=B3.lt);have B4:=xQ (show Blk (w3.setCell ⟨w1,2,none⟩ (.slice p2 (n+1) a)) w1 nH #[m,R,.slice p2 (n+1) a] by have:=B3.set 2 (.slice p2 (n+1) a);simpa using this);have O4:Hid ((w3.setCell ⟨w1,2,none⟩ (.slice p2 (n+1) a)).ownsRow (w1.heap.size+1) TI 1 (.slice p2 (n+1) a) (n+1) (ivs (dZ (cO (aL 47 l) k)++((aL 44 q).take (j+1)).map iN))):=by have:=jI (i:=2) (u:= .slice p2 (n+1) a) B3 g (by decide);rw[aWu,show((aL 44 q).take j).map iN++ [x]=((aL 44 q).take (j+1)).map iN by rw[aX HC.out,aWs];simp[ao.out]]at this;exact this
      have av:Hid ((w3.setCell ⟨w1,2,none⟩ (.slice p2 (n+1) a)).ownsRow bW rR 1 (.slice (some ⟨g2,0,none⟩) m c2) m (eY (aL 44 q))):=jI B3 ab (by decide);have X4:Ext w1 (w3.setCell ⟨w1,2,none⟩ (.slice p2 (n+1) a)):=X3.setCell (aVz _) _;clear g ab B3;go_roundw
      case rel=>exact⟨j+1,n+1,p2,a,by omega,by go_num,by have bh:=HM;rw[ar.out];simp only[aW5,aWj,aWn];omega,by omega,X4,B4.out,O4.out,av.out,aq.out⟩
      case measure=>simp[intOf];omega
    obtain rfl:j=m:=by omega
    have HT:Hid ((aL 44 q).take j=aL 44 q):=aW4 (by rw[HM];exact aVz _);go_wp2;go_roundw
    case rel=>
     refine⟨k+1,n,p,cap,by omega,by go_num,?_,by omega,XZ.out,?_,?_,?_⟩
     ·rw[gS HQ.out,lR,ar.out,HT.out]
     ·rw[gS HQ.out,zN,HM];exact BZ.out
     ·rw[gS HQ.out,lR];have:=OZ.out;rw[HT.out]at this;exact this
     rw[gS HQ.out];intro r hr;rcases aWh.1 hr with h|h
     ·exact HF r h
     obtain rfl:r=aL 44 q:=by simpa using h
     have h2:=ap.out;rw[HT.out]at h2;simp only[nL,aWc,decide_eq_true_eq,aWo];exact⟨by rw[HM];omega,h2⟩
    case measure=>simp[intOf];omega
  obtain rfl:k=R:=by omega
  have be:Hid (cO (aL 47 l) k=kF l):=zM l (by rw[aj.out];exact aVz _);have ax:Hid (dW l=(mB (cO (aL 47 l) k),(k:Int),dZ (cO (aL 47 l) k))):=by show _=_;unfold dW;rw[be.out,aj.out];rfl
  generalize bi:mB (cO (aL 47 l) k)=wd at*;generalize bj:dZ (cO (aL 47 l) k)=xs at*;clear bi bj;have bl:(w1:Nat)<wr:=HB.out.lt;obtain⟨b0,b1,b2⟩:=HB.out.tri;have HV:=xQ (fun w' (hx:Ext wr w')=>iK wd k p n cap xs w' ((Sl.own HO.out).ext hx));cases hok:aO wd k xs with
  |false=>
   have o:Hid (dE l=none):=by show _=_;rw[kC,ax.out];simp[hok]
   rw[hok]at HV;clear hok;go_wp2_with fail;refine Ω (HV _ (by exact .refl _)) fun w2 h2=>?_
   clear b0 b1 b2;have XF:=xQ (show Ext w1 w2 by exact .trans ad h2);clear h2;have z_:=(f.out.ext XF.out).trif;have am:Ext w w2:=s.out.trans XF.out;have ai:(w:Nat)<w2:=(f.out.ext XF.out).lt;go_wp2;exact aYw (v:= .tuple #[aH 0 0 none 0 0,.bool false]) (jP o.out xE)
  |true=>
   rw[hok]at HV;go_wp2_with fail;refine Ω (HV _ (by exact .refl _)) fun w2 h2=>?_
   clear b0 b1 b2;have ak:Ext wr w2:=by exact h2
   have B2:=xQ (HB.out.ext ak);have O2:=xQ (aM HO ak);have X2:=xQ (show Ext w1 w2 by exact .trans ad ak);have br:(w1:Nat)<w2:=B2.out.lt;clear h2 ak;have HT:=xQ (fun w' (hx:Ext w2 w') (hE:Env w')=>nO wd k p n cap xs w' hE ((Sl.own O2.out).ext hx));obtain⟨b0,b1,b2⟩:=B2.out.tri;go_wp2_with fail;refine Ω (HT _ (by exact .refl _) (HE.out.ext (s.out.trans (X2.out.trans (by exact .refl _))))) fun w3 h3=>?_
   clear b0 b1 b2;have al:Ext w2 w3:=by exact h3
   have B3:=xQ (B2.out.ext al);have O3:=xQ (aM O2 al);have X3:=xQ (show Ext w1 w3 by have:=X2.out;exact .trans this al);clear h3 al;by_cases ht:cE wd k xs=l
   ·have ay:(cE wd k xs==l)=true:=by simp[ht]
    have bc:Hid (dE l=some (wd,(k:Int),xs)):=by show _=_;rw[kC,ax.out];simp[hok,ht]
    clear ht hok;obtain⟨b0,b1,b2⟩:=B3.out.tri;have z_:=(f.out.ext X3.out).trif;have ai:(w:Nat)<w3:=(f.out.ext X3.out).lt;have bp: ¬w.heap.size=w1.heap.size:=by omega
    go_wp2;generalize a0:World.setCell _ _ _=w5;have a3:ExtR w w3 w5:=by rw[←a0];exact(((ExtR.refl _ w3).setCell (p:=⟨w,0,none⟩) (.inl rfl) _).setCell (p:=⟨w,1,none⟩) (.inl rfl) _).setCell (p:=⟨w,2,none⟩) (.inl rfl) _
    have Y5:=(((f.out.ext X3.out).set 0 (I wd)).set 1 (I k)).set 2 (.slice p n cap);simp only[Z3,aWg,aWe,aWf]at Y5;rw[a0]at Y5;have O5:w5.ownsRow w TI 1 (.slice p n cap) n (ivs xs):=bF (O3.out.kept a3 (.inr (iW O3 (f.out.ext X3.out) (by decide)))) (by omega);have X5:Ext w w5:=ExtR.new (s.out.trans X3.out) a3 (aVz _);clear a0 z_ b0 b1 b2;have y_:=Y5.tri;exact aYw (v:= .tuple #[aH wd k p n cap,.bool true]) (wU bc.out HN O5 X5)
   have ay:(cE wd k xs==l)=false:=by simp[ht]
   have o:Hid (dE l=none):=by show _=_;rw[kC,ax.out];simp[ht]
   clear ht hok;have z_:=(f.out.ext X3.out).trif;have am:Ext w w3:=s.out.trans X3.out;have ai:(w:Nat)<w3:=(f.out.ext X3.out).lt;go_wp2;exact aYw (v:= .tuple #[aH 0 0 none 0 0,.bool false]) (jP o.out xE)
def yC (l:List UInt8)(w:World)(e:Ending)(w':World):Prop:=
 ∃p n cap,n=(aL 44 l).length∧e= .returned (.tuple #[.slice p n cap,.bool ((n:Int)==4)])∧w'.ownsRow w.heap.size TI 1 (.slice p n cap) n (ivs (mA l))∧Ext w w'
theorem aQh (hs:l.length≤1099511627776):U 102 #[str l] w (yC l w):=by
 have HC:Hid (∀w,U 57 #[str l,.int .u8 44] w (aYx rR 1 (aL 44 l).length (eY (aL 44 l)) w)):=fun w=>mI ⟨l.toArray⟩ 44 44 rfl w (by simpa[ByteArray.size]using hs)
 have n:Hid (∀c∈aL 44 l,c.length≤maxLen):=fun c hc=>by have:=(eK 44 l).1 c hc;unfold maxLen;omega
 have HW:Hid (∀c:List UInt8,c.length≤maxLen→ ∀w,U 103 #[str c] w (Z (I (fP c)) w)):=fun c hc w=>aA0 c w hc
 have s:=(eK 44 l).2;have j:0<(aL 44 l).length:=List.length_pos_iff.2 (eX 44 l);have HF:Hid (mA l=(aL 44 l).map fP):=rfl;unfold yC;rw[HF.out];generalize hm:(aL 44 l).length=m at*;have HM:=hm;clear hm;go_enter func102,ntmps102;go_wp2_with fail;refine(HC _).mono ?_;rintro e w1 ⟨v,rfl,b,h1⟩;obtain⟨g,c,rfl⟩:=aWb b j;have OW:=xQ b;have X1:=xQ (show Ext w w1 by exact h1);have r:(w:Nat)≤w1:=h1.sz;clear b h1;go_wp2;go_loopw [5,6] (fun v i wr=> ∃(k:Nat) (p:OA) (cap:Nat),k≤m∧i=I k∧v= .slice p k cap∧Ext w1 wr∧wr.ownsRow w1 TI 1 (.slice p k cap) k (ivs (((aL 44 l).take k).map fP))) (fun _ i _=>m-(intOf i).toNat)
 case atStart=>exact⟨0,_,_,aW6 _,rfl,rfl,by exact .alloc (.refl _) _,aX7 _ #[] 0 (aVz _) (by simp[maxLen]) rfl⟩
 case round=>
  obtain⟨k,p,cap,hk,rfl,rfl,hE,hO⟩:=hrel;have HO:=xQ hO;clear hO;by_cases hlt:k<m
  ·obtain⟨q,hq⟩: ∃q,(aL 44 l)[k]? =some q:=⟨_,aW0 (by rw[HM];exact hlt)⟩
   have HQ:=xQ hq;have o:=n q (aW1 hq);have e1:wr.cell? ⟨g,k,none⟩=some (str q):=aY (aM OW hE) k hlt q hq;clear hq;have i1:=aYp k;have i2:=aYq k m;go_wp2_with fail;refine Ω (HW q o _) fun w2 h2=>?_
   have h:Ext wr w2:=by exact h2
   have O2:=xQ (aM HO h);have X2:Ext w1 w2:=hE.trans h;have t:=X2.sz;clear h2 e1;go_wp2_with (at_builtin;refine dB iA rfl _ _ rfl w1 (.slice p k cap) k _ rfl (O2.out.alloc _) _ _ (fP q) _ rfl (by simp) (by omega) (by simp;omega) ?_;intro p2 f w3 d a);have X3:Ext w1 w3:=(X2.alloc _).grown a (fun q hq=>(O2.out.lt q hq).1);have O3:Hid (w3.ownsRow w1 TI 1 (.slice p2 (k+1) f) (k+1) (ivs (((aL 44 l).take (k+1)).map fP))):=by rw[aX HQ.out,aWs];exact d
   clear d a;go_roundw
   case rel=>exact⟨k+1,p2,f,by omega,by go_num,rfl,X3,O3.out⟩
   case measure=>simp[intOf];omega
  obtain rfl:k=m:=by omega
  go_wp2;refine aYw (v:= .tuple #[.slice p k cap,.bool ((k:Int)==4)]) ?_;refine⟨p,k,cap,rfl,rfl,?_,X1.out.trans hE⟩;have:=HO.out;rw[aW4 (by rw[HM];exact aVz _)]at this;exact bF this r
def uO (o:Option (List Int))(w:World)(e:Ending)(w':World):Prop:=
 ∃p n cap,n=(o.getD []).length∧e= .returned (.tuple #[.slice p n cap,.bool o.isSome])∧w'.ownsRow w.heap.size TI 1 (.slice p n cap) n (ivs (o.getD []))∧Ext w w'
theorem zU {o:Option (List Int)}{w:World}(h:o=none)(hx:Ext w w'):uO o w (.returned (.tuple #[((),()),.bool false])) w':=by subst h;exact⟨none,0,0,rfl,rfl,aW9 _ _ _ _,hx⟩
theorem aI7 {l:List UInt8}(h: ¬(aL 44 l).length=m):bR m l=none:=by unfold bR;rw[if_neg (fun hc=>h hc.1)]
theorem aI8 {l:List UInt8}(h:(aL 44 l)[k]? =some q)(hq:bK 5 q=none):bR m l=none:=by unfold bR;rw[if_neg];rintro⟨_,h2⟩;have:=aWo.1 h2 q (aW1 h);rw[hq]at this;simp at this
abbrev rV (c:List UInt8):Int:=(bK 5 c).getD 0
theorem aRd {l:List UInt8}(h:(aL 44 l).length=m)(h2: ∀q∈aL 44 l,(bK 5 q).isSome=true):bR m l=some ((aL 44 l).map rV):=by unfold bR;rw[if_pos ⟨h,aWo.2 h2⟩]
theorem aOn {xs:List (List UInt8)}{c:List UInt8}(h:k<n)(hx:xs[k]? =some c)(hl:(xs.take k).length=k)(x:Int)(hc:rV c=x):(ivs ((xs.take k).map rV++List.replicate (n-k) 0)).set k (I x)=ivs ((xs.take (k+1)).map rV++List.replicate (n-(k+1)) 0):=by
 subst hc;rw[aX hx,show n-k=(n-(k+1))+1 by omega,aXx];simp only[ivs,aWs,aXl,List.map_nil];have a:(List.map iv (List.map rV (xs.take k))).length=k:=by rw[aWj,aWj,hl]
 rw[aY8 _ _ (by rw[a];exact aVz _),a,aXp,aWe,aWu];rfl
theorem aRl {xs:List (List UInt8)}(h:k<n)(hl:(xs.take k).length=k):(ivs ((xs.take k).map rV++List.replicate (n-k) 0))[k]? =some (I 0):=by
 rw[show n-k=(n-(k+1))+1 by omega,aXx];simp only[ivs,aWs,aXl];have a:(List.map iv (List.map rV (xs.take k))).length=k:=by rw[aWj,aWj,hl]
 rw[aWx (by rw[a];exact aVz _),a,aXp];rfl
theorem xK (n:Nat)(w:World)(ap:1≤n)(hn:n≤10)(hs:l.length<4294967281)(hE:Env w):U 100 #[str l,n] w (uO (bR n l) w):=by
 obtain⟨i0,hi,af,ag,ai⟩:=info_parts (show(prog.info? 3).map (fun i=>(i.zero,i.size,i.bytes))=some (some (I 0),1,8) by kernel_rfl)
 have HS:Hid (∀w,Env w→U 98 #[str l,.string ⟨#[44]⟩] w (aYx rR 1 (aL 44 l).length (eY (aL 44 l)) w)):=
  fun w hE=>tR ⟨l.toArray⟩ 44 w (by simpa[ByteArray.size]using hs) hE
 have j:=eK 44 l;have HL:Hid (∀p∈aL 44 l,p.length<4294967281):=fun p hp=>Nat.lt_of_le_of_lt (j.1 p hp) hs
 have HR:Hid (∀(q:List UInt8) (x:Int) (b:Bool),q.length<4294967281→(bK 5 q).getD 0=x→(bK 5 q).isSome=b→ ∀w,U 55 #[str q,I 5] w fun e w'=>e= .returned (.tuple #[x,.bool b])∧w=w'):=by intro q x b hq hx hb w;subst hx;subst hb;exact mV q 5 (by omega) (by unfold maxLen;omega) w
 have HE:=xQ hE;have u:=j.2;have r:0<(aL 44 l).length:=List.length_pos_iff.2 (eX 44 l);clear j hE;go_enter func100,ntmps100;go_wp2_with fail;refine(HS _ (HE.out.ext (by exact .refl _))).mono ?_;rintro e w1 ⟨v,rfl,a,h1⟩;obtain⟨g,c,rfl⟩:=aWb a r;have OW:=xQ a;have X1:=xQ (show Ext w w1 by exact h1);have ah:(w:Nat)≤w1:=h1.sz;clear a h1;by_cases hm:(aL 44 l).length=n
 ·have HM:=hm;have ab:(((aL 44 l).length:Int)==(n:Int))=true:=by simp[hm]
  rw[hm]at OW r u ab⊢;clear hm;go_wp2_with (at_make;refine wpList_make_full _ rfl _ _ 25 rfl w1 3 i0 (I 0) 1 underlying25 hi af ag .i64 .i64 _ _ n rfl rfl rfl rfl (by rw[ai];omega) (by unfold maxLen;omega) (by simp) ?_;intro w0 d f);have al:Ext w1 w0:=(Ext.refl w1).grown f (fun q hq=>by cases hq);have an:=(d.lt w1 rfl).2;rw[aEg]at d;have ak:=xQ d;clear d f hi af ag ai;go_loopw [22] (fun i wr=> ∃k:Nat,k≤n∧i=I k∧wr.ownsRow w1 TI 1 (.slice (some ⟨w1,0,none⟩) n n) n (ivs (((aL 44 l).take k).map rV++List.replicate (n-k) 0))∧Ext w1 wr∧ ∀q∈(aL 44 l).take k,(bK 5 q).isSome=true) (fun i _=>n-(intOf i).toNat)
  case atStart=>exact⟨0,aW6 _,rfl,by simpa using ak.out,al,by simp⟩
  case round=>
   obtain⟨k,hk,rfl,a,t,aa⟩:=hrel;have HO:=xQ a;have HF:=xQ aa;clear a aa;by_cases hlt:k<n
   ·obtain⟨q,hq⟩: ∃q,(aL 44 l)[k]? =some q:=⟨_,aW0 (by rw[HM];exact hlt)⟩
    have HQ:=xQ hq;have ad:=HL q (aW1 hq);have e1:wr.cell? ⟨g,k,none⟩=some (str q):=aY (aM OW t) k hlt q hq;clear hq;have i1:=aYp k;have i2:=aYq k n;cases hr:bK 5 q with
    |none=>have z:Hid (bR n l=none):=aI8 HQ hr;have s:=xQ (HR q 0 false ad (by rw[hr];rfl) (by rw[hr];rfl));clear hr;go_wp2_with fail;refine(s _).mono ?_;rintro e w2 ⟨rfl,rfl⟩;go_wp2;exact aYw (v:= .tuple #[((),()),.bool false]) <| zU z.out (X1.out.trans (by exact t))
    |some x=>
     have s:=xQ (HR q x true ad (by rw[hr];rfl) (by rw[hr];rfl));have aj:Hid (∀q∈(aL 44 l).take (k+1),(bK 5 q).isSome=true):=by
      rw[xQ (aX HQ.out)];intro y hy;rcases aWh.1 hy with h|h
      ·exact HF y h
      obtain rfl:y=q:=by simpa using h
      rw[hr];rfl
     have am:Hid (rV q=x):=by show _=_;unfold rV;rw[hr];rfl
     clear hr;have o:((aL 44 l).take k).length=k:=by rw[aWn,HM];omega
     have ao:(w1:Nat)<wr:=(HO.out.lt w1 rfl).2;have o0:wr.cell? ⟨w1,k,none⟩=some (I 0):=by rw[HO.out.cellAt k (by omega)];exact aRl hlt o
     have f0:wr.frozen? ⟨w1,k,none⟩=false:=HO.out.frozenAt k;have HN:Hid ((wr.setCell ⟨w1,k,none⟩ (I x)).ownsRow w1 TI 1 (.slice (some ⟨w1,0,none⟩) n n) n (ivs (((aL 44 l).take (k+1)).map rV++List.replicate (n-(k+1)) 0))):=by have:=(HO.out.stored k (I x)).1;rw[aOn hlt HQ o x am.out]at this;exact this
     go_wp2_with fail;refine(s _).mono ?_;rintro e w2 ⟨rfl,rfl⟩;go_wp2;go_roundw
     case rel=>exact⟨k+1,by omega,by go_num,HN.out,xE,aj.out⟩
     case measure=>simp[intOf];omega
   obtain rfl:k=n:=by omega
   have hT:Hid ((aL 44 l).take k=aL 44 l):=aW4 (by rw[HM];exact aVz _);have ae:Hid (bR k l=some ((aL 44 l).map rV)):=aRd HM (by have:=HF.out;rwa[hT.out]at this);go_wp2;refine aYw (v:= .tuple #[.slice (some ⟨w1,0,none⟩) k k,.bool true]) ?_;rw[ae.out];refine⟨_,k,_,by simp[HM],rfl,?_,X1.out.trans (by exact t)⟩;have:=HO.out;rw[hT.out,aXp,List.replicate_zero,aWr]at this;exact bF this ah
 have z:Hid (bR n l=none):=aI7 hm;have ab:(((aL 44 l).length:Int)==(n:Int))=false:=by rw[beq_eq_false_iff_ne];omega
 generalize (aL 44 l).length=m at*;clear hm;go_wp2;exact aYw (v:= .tuple #[((),()),.bool false]) <| zU z.out (X1.out.trans (by exact .refl _))
theorem aCs {cs:Array Value}{xs:List Value}(X:Ext w1 wr)(B:Blk wr g t cs)(ht:e≠t)(O:wr.ownsRow b e sz v n xs)(hb:w1.heap.size≤b)(a:wr.grownBy w' v.ownBlock):
  Ext w1 w'∧Blk w' g t cs:=
 ⟨X.grown a (fun q hq=>aW8 hb (O.lt q hq).1),B.grown a (fun h=>iW O B ht h.symm)⟩
theorem aCr {xs:List Value}(O:wr.ownsRow b e sz v n xs)(a:wr.grownBy w' v.ownBlock)(h2:wr.ownsRow b2 e2 s2 v2 n2 c)(ne:e2≠e):w'.ownsRow b2 e2 s2 v2 n2 c:=
 h2.kept a (aRa h2 O ne)
theorem aSw (c:UInt8): ∀l:List UInt8,((aL c l).map (fun p=>p.length+1)).sum=l.length+1:=by
 intro l;induction l with
 |nil=>rfl
 |cons x xs ih=>
  unfold aL;split
  ·simp[ih];omega
  cases hq:aL c xs with
  |nil=>exact absurd hq (eX c xs)
  |cons p ps=>rw[hq]at ih;simp at ih⊢;omega
theorem aPd:(dZ (rows.map (aL 44))).length≤(rows.map (fun p=>p.length+1)).sum:=by
 induction rows with
 |nil=>simp[dZ]
 |cons r rs ih=>have:=(eK 44 r).2;simp only[dZ,aXl,List.flatten_cons,aWs,aW5,aWj,List.sum_cons]at ih⊢;omega
theorem aPw (k:Nat):((rows.take k).map (fun p=>p.length+1)).sum≤(rows.map (fun p=>p.length+1)).sum:=by
 conv=>rhs;rw[←List.take_append_drop k rows,aWs,List.sum_append]
 omega
theorem aSy (k:Nat):(dZ (cO (aL 47 l) k)).length≤l.length+1:=by have h1:=aPd ((aL 47 l).take k);have h2:=aPw (aL 47 l) k;have h3:=aSw 47 l;unfold cO;omega
theorem aFe (hs:l.length≤1048576):U 101 #[str l] w (qK (dE l) w):=by
 have HS:Hid (∀q:List UInt8,q.length≤1048576→ ∀(c:UInt8) (ci:Int),ci=(c.toNat:Int)→ ∀w,U 57 #[str q,.int .u8 ci] w (aYx rR 1 (aL c q).length (eY (aL c q)) w)):=
  fun q hq c ci hc w=>mI ⟨q.toArray⟩ c ci hc w (by simp only[ByteArray.size,List.size_toArray];omega)
 have h:=eK 47 l;have HL:Hid (∀p∈aL 47 l,p.length≤1048576):=fun p hp=>aW8 (h.1 p hp) hs
 have HR:Hid (∀(q:List UInt8) (x:Int),q.length≤1048576→(bK 4 q).getD (-1)=x→ ∀w,U 59 #[str q] w fun e w'=>e= .returned (I x)∧w=w'):=by intro q x hq hx w;subst hx;exact oX q (by unfold maxLen;omega) w
 have ap:Hid (∀k,(dZ (cO (aL 47 l) k)).length≤1048577):=fun k=>by have:=aSy l k;omega
 have a7:=h.2;have aw:0<(aL 47 l).length:=List.length_pos_iff.2 (eX 47 l);clear h;go_enter func101,ntmps101;go_wp2_with fail;refine(HS l hs 47 _ rfl _).mono ?_;rintro e w1 ⟨v,rfl,ad,h1⟩;have o:=xQ (show w1.ownsRow (w.heap.size+1) rR 1 v (aL 47 l).length (eY (aL 47 l)) by simpa using ad);have av:Ext w w1:=by exact .trans (.alloc (.refl _) _) h1
 have f:Hid (Blk w1 w nH Z3):=(Blk.new w _ _).ext h1;have bk:(w:Nat)<w1:=f.out.lt;have ah:=xQ av;clear ad h1 av;obtain⟨gr,cr,rfl⟩:=aWb o.out aw;generalize au:(aL 47 l).length=R at*;have ag:=xQ au;clear au;have bi:R≤4294967281:=by omega
 go_wp2
 go_loopw [6] (fun i wr=> ∃(k n:Nat) (p:OA) (cap:Nat),k≤R∧i=I k∧n=(dZ (cO (aL 47 l) k)).length∧Ext w1 wr∧Blk wr w1 nH #[(mB (cO (aL 47 l) k):Int),R,.slice p n cap]∧
  wr.ownsRow (w1.heap.size+1) TI 1 (.slice p n cap) n (ivs (dZ (cO (aL 47 l) k)))) (fun i _=>R-(intOf i).toNat)
 case atStart=>refine⟨0,0,none,0,aW6 _,rfl,rfl,by exact .alloc (.refl _) _,?_,aW9 _ _ _ _⟩;have:=Blk.new w1 nH #[(),R,((),())];simpa[cO,mB]using this
 case round=>
  obtain⟨k,n,p,cap,hk,rfl,hn,ab,hB,hO⟩:=hrel;have HB:=xQ hB;have HO:=xQ hO;have HN:=xQ hn;clear hB hO hn;by_cases hlt:k<R
  ·obtain⟨q,hq⟩: ∃q,(aL 47 l)[k]? =some q:=⟨_,aW0 (by rw[ag.out];exact hlt)⟩
   have HQ:=xQ hq;have ax:q.length≤1048576:=HL q (aW1 hq);have e1:wr.cell? ⟨gr,k,none⟩=some (str q):=aY (aM o.out ab) k hlt q hq;clear hq;have i1:=aYp k;have i2:=aYq k R;have be:(w1:Nat)<wr:=HB.out.lt;go_wp2_with fail;refine(HS q ax 44 _ rfl _).mono ?_;rintro e w2 ⟨v2,rfl,r,h2⟩;clear e1;have a8:=(eK 44 q).2;have an:0<(aL 44 q).length:=List.length_pos_iff.2 (eX 44 q);have XM:=xQ (ab.trans h2);have BM:=xQ (HB.out.ext h2);have OM:=xQ (aM HO h2);obtain⟨bW,OW⟩: ∃bW,Hid (w2.ownsRow bW rR 1 v2 (aL 44 q).length (eY (aL 44 q))):=⟨_,r⟩
   have bg:(wr:Nat)≤w2:=h2.sz;clear r h2;obtain⟨g2,c2,rfl⟩:=aWb OW an;have a0:Hid (∀c∈aL 44 q,c.length≤1048576):=fun c hc=>aW8 ((eK 44 q).1 c hc) ax
   generalize hm:(aL 44 q).length=m at*;have HM:=hm;clear hm;obtain⟨b0,s,b1,t,b2,y⟩:=BM.out.trif;go_wp2;clear b0 b1 b2 s t y
   go_loopw [8] (fun i wz=> ∃(j n:Nat) (p:OA) (cap:Nat),j≤m∧i=I j∧n=(dZ (cO (aL 47 l) k)++((aL 44 q).take j).map iN).length∧Ext w1 wz∧Blk wz w1 nH #[m,R,.slice p n cap]∧
    wz.ownsRow (w1.heap.size+1) TI 1 (.slice p n cap) n (ivs (dZ (cO (aL 47 l) k)++((aL 44 q).take j).map iN))∧wz.ownsRow bW rR 1 (.slice (some ⟨g2,0,none⟩) m c2) m (eY (aL 44 q))) (fun i _=>m-(intOf i).toNat)
   case atStart=>
    refine⟨0,n,p,cap,aW6 _,rfl,by simpa using HN.out,XM.out.setCell (aVz _) _,?_,?_,jI BM OW.out (by decide)⟩
    ·have:=BM.out.set 0 (I m);simpa using this
    have:=jI (i:=0) (u:=I m) BM OM.out (by decide);simpa using this
   case round=>
    clear HN HO HB XM BM OM OW n p cap;obtain⟨j,n,p,cap,hj,rfl,hn,aq,hB,hO,hW⟩:=hrel;have XZ:=xQ aq;have BZ:=xQ hB;have OZ:=xQ hO;have aj:=xQ hW;have af:=xQ hn;have bh:(w1:Nat)<wr:=hB.lt;have bf:n≤1048577:=by have h3:=ap (k+1);rw[gS HQ.out,lR,aW5,aWj]at h3;rw[hn,aW5,aWj,aWn];omega
    clear aq hB hO hW hn;by_cases hlt2:j<m
    ·obtain⟨c,hc⟩: ∃c,(aL 44 q)[j]? =some c:=⟨_,aW0 (by rw[HM];exact hlt2)⟩
     have HC:=xQ hc;have a6:c.length≤1048576:=a0 c (aW1 hc);have e2:wr.cell? ⟨g2,j,none⟩=some (str c):=aY aj j hlt2 c hc;clear hc;have i3:=aYp j;have i4:=aYq j m;obtain⟨b0,s,b1,t,b2,y⟩:=BZ.out.trif;by_cases hd:c= [46]
     ·have al:(c== [46])=true:=by simp[hd]
      have ae:Hid (iN c=0):=by show _=_;rw[hd];rfl
      clear hd;go_wp2_with (at_builtin;refine dB iA rfl _ _ rfl (w1.heap.size+1) (.slice p n cap) n _ rfl (OZ.out.alloc _) _ _ (0) _ rfl (by simp) (by omega) (by simp;omega) ?_;intro p2 a w3 d b;obtain⟨X3,B3⟩:=aH6 XZ BZ.out (by decide) OZ (by omega) b;have g:=aH5 OZ b aj (by decide);clear b b0 b1 b2 s t y e2;(have b0:w3.cell? ⟨w1,0,none⟩=some (I m):=B3.cell 0);(have b1:w3.cell? ⟨w1,1,none⟩=some (I R):=B3.cell 1);(have b2:w3.cell? ⟨w1,2,none⟩=some (.slice p n cap):=B3.cell 2);(have s:w3.frozen? ⟨w1,0,none⟩=false:=B3.frozen 0);(have t:w3.frozen? ⟨w1,1,none⟩=false:=B3.frozen 1);(have y:w3.frozen? ⟨w1,2,none⟩=false:=B3.frozen 2);have bd:(w1:Nat)<w3:=B3.lt);have B4:=xQ (show Blk (w3.setCell ⟨w1,2,none⟩ (.slice p2 (n+1) a)) w1 nH #[m,R,.slice p2 (n+1) a] by have:=B3.set 2 (.slice p2 (n+1) a);simpa using this);have O4:Hid ((w3.setCell ⟨w1,2,none⟩ (.slice p2 (n+1) a)).ownsRow (w1.heap.size+1) TI 1 (.slice p2 (n+1) a) (n+1) (ivs (dZ (cO (aL 47 l) k)++((aL 44 q).take (j+1)).map iN))):=by have:=jI (i:=2) (u:= .slice p2 (n+1) a) B3 d (by decide);rw[show ivs (dZ (cO (aL 47 l) k)++((aL 44 q).take j).map iN++ [0])=ivs (dZ (cO (aL 47 l) k)++((aL 44 q).take (j+1)).map iN) by rw[aX HC.out,aWs];simp[ae.out,ivs]]at this;exact this
      have ai:=xQ (jI (i:=2) (u:= .slice p2 (n+1) a) B3 g (by decide));have X4:Ext w1 (w3.setCell ⟨w1,2,none⟩ (.slice p2 (n+1) a)):=X3.setCell (aVz _) _;clear d g B3 X3;go_roundw
      case rel=>exact⟨j+1,n+1,p2,a,by omega,by go_num,by have a9:=HM;rw[af.out];simp only[aW5,aWj,aWn];omega,X4,B4.out,O4.out,ai.out⟩
      case measure=>simp[intOf];omega
     have al:(c== [46])=false:=by simp[hd]
     obtain⟨x,hx⟩: ∃x,(bK 4 c).getD (-1)=x:=⟨_,rfl⟩
     have ae:Hid (iN c=x):=by show _=_;unfold iN;rw[if_neg hd,hx]
     have a1:=xQ (HR c x a6 hx);clear hx hd;go_wp2_with fail;go_region_law (first|(refine gG _ iA rfl (.tmp 45) (.tmp 51) rfl (w1.heap.size+1) (.slice p n cap) n _ (by simp[Act.eval,Act.put];done) (aM OZ (by exact .drew (.alloc (.refl _) _))) _ 1 1 [iv x] (by simp[Act.eval,Act.put];rfl) ((Sl.new _ #[x] _ 1 rfl (by decide)).ext (by exact .drew (.refl _))) (rD [x]) (by omega) (by simp;omega) ?_;intro p2 a w3 d b;obtain⟨X3,B3⟩:=aCs (XZ.out.trans (by exact .drew (.alloc (.refl _) _))) (BZ.out.ext (by exact .drew (.alloc (.refl _) _))) (by decide) (aM OZ (by exact .drew (.alloc (.refl _) _))) (by omega) b;have g:=aCr (aM OZ (by exact .drew (.alloc (.refl _) _))) b (aM aj (by exact .drew (.alloc (.refl _) _))) (by decide);clear b;(have c0:w3.cell? ⟨w1,0,none⟩=some (I m):=B3.cell 0);(have c1:w3.cell? ⟨w1,1,none⟩=some (I R):=B3.cell 1);(have c2:w3.cell? ⟨w1,2,none⟩=some (.slice p n cap):=B3.cell 2);(have a2:w3.frozen? ⟨w1,0,none⟩=false:=B3.frozen 0);(have a3:w3.frozen? ⟨w1,1,none⟩=false:=B3.frozen 1);(have a4:w3.frozen? ⟨w1,2,none⟩=false:=B3.frozen 2);have bd:(w1:Nat)<w3:=B3.lt)|(go_simp;go_at_call 59;refine(a1 _).mono ?_;rintro e w2 ⟨rfl,rfl⟩))
     all_goals
      clear c0 c1 c2 a2 a3 a4;have B4:=xQ (show Blk (w3.setCell ⟨w1,2,none⟩ (.slice p2 (n+1) a)) w1 nH #[m,R,.slice p2 (n+1) a] by have:=B3.set 2 (.slice p2 (n+1) a);simpa using this);have O4:Hid ((w3.setCell ⟨w1,2,none⟩ (.slice p2 (n+1) a)).ownsRow (w1.heap.size+1) TI 1 (.slice p2 (n+1) a) (n+1) (ivs (dZ (cO (aL 47 l) k)++((aL 44 q).take (j+1)).map iN))):=by have:=jI (i:=2) (u:= .slice p2 (n+1) a) B3 d (by decide);rw[show ivs (dZ (cO (aL 47 l) k)++((aL 44 q).take j).map iN)++ [iv x]=ivs (dZ (cO (aL 47 l) k)++((aL 44 q).take (j+1)).map iN) by rw[aX HC.out,aWs];simp[ae.out,ivs]]at this;exact this
      have ai:=xQ (jI (i:=2) (u:= .slice p2 (n+1) a) B3 g (by decide));have X4:Ext w1 (w3.setCell ⟨w1,2,none⟩ (.slice p2 (n+1) a)):=X3.setCell (aVz _) _;clear d g B3 X3;go_wp2;go_roundw
      case rel=>exact⟨j+1,n+1,p2,a,by omega,by go_num,by have a9:=HM;rw[af.out];simp only[aW5,aWj,aWn];omega,X4,B4.out,O4.out,ai.out⟩
      case measure=>simp[intOf];omega
    obtain rfl:j=m:=by omega
    have HT:Hid ((aL 44 q).take j=aL 44 q):=aW4 (by rw[HM];exact aVz _);go_wp2;go_roundw
    case rel=>
     refine⟨k+1,n,p,cap,by omega,by go_num,?_,XZ.out,?_,?_⟩
     ·rw[gS HQ.out,lR,af.out,HT.out]
     ·rw[gS HQ.out,zN,HM];exact BZ.out
     rw[gS HQ.out,lR];have:=OZ.out;rw[HT.out]at this;exact this
    case measure=>simp[intOf];omega
  obtain rfl:k=R:=by omega
  have a5:Hid (cO (aL 47 l) k=kF l):=zM l (by rw[ag.out];exact aVz _);have ak:Hid (dW l=(mB (cO (aL 47 l) k),(k:Int),dZ (cO (aL 47 l) k))):=by show _=_;unfold dW;rw[a5.out,ag.out];rfl
  clear ap;generalize ba:mB (cO (aL 47 l) k)=wd at*;generalize bb:dZ (cO (aL 47 l) k)=xs at*;clear ba bb;have be:(w1:Nat)<wr:=HB.out.lt;obtain⟨b0,b1,b2⟩:=HB.out.tri;have HV:=xQ (fun w' (hx:Ext wr w')=>iJ wd k p n cap xs w' ((Sl.own HO.out).ext hx));cases hok:aO wd k xs with
  |false=>
   have am:Hid (dE l=none):=by show _=_;rw[kC,ak.out];simp[hok]
   rw[hok]at HV;clear hok;go_wp2_with fail;refine Ω (HV _ (by exact .refl _)) fun w2 h2=>?_
   clear b0 b1 b2;have XF:=xQ (show Ext w1 w2 by exact .trans ab h2);clear h2;have z_:=(f.out.ext XF.out).trif;have bc:Ext w w2:=ah.out.trans XF.out;have az:(w:Nat)<w2:=(f.out.ext XF.out).lt;go_wp2;exact aYw (v:= .tuple #[aH 0 0 none 0 0,.bool false]) (jP am.out xE)
  |true=>
   rw[hok]at HV;go_wp2_with fail;refine Ω (HV _ (by exact .refl _)) fun w2 h2=>?_
   clear b0 b1 b2;have z:Ext wr w2:=by exact h2
   have B2:=xQ (HB.out.ext z);have O2:=xQ (aM HO z);have X2:=xQ (show Ext w1 w2 by exact .trans ab z);have bl:(w1:Nat)<w2:=B2.out.lt;clear h2 z;have HT:=xQ (fun w' (hx:Ext w2 w')=>wN wd k p n cap xs w' ((Sl.own O2.out).ext hx));obtain⟨b0,b1,b2⟩:=B2.out.tri;go_wp2_with fail;refine Ω (HT _ (by exact .refl _)) fun w3 h3=>?_
   clear b0 b1 b2;have aa:Ext w2 w3:=by exact h3
   have B3:=xQ (B2.out.ext aa);have O3:=xQ (aM O2 aa);have X3:=xQ (show Ext w1 w3 by have:=X2.out;exact .trans this aa);clear h3 aa;by_cases ht:cE wd k xs=l
   ·have al:(cE wd k xs==l)=true:=by simp[ht]
    have ay:Hid (dE l=some (wd,(k:Int),xs)):=by show _=_;rw[kC,ak.out];simp[hok,ht]
    clear ht hok;obtain⟨b0,b1,b2⟩:=B3.out.tri;have z_:=(f.out.ext X3.out).trif;have az:(w:Nat)<w3:=(f.out.ext X3.out).lt;have bj: ¬w.heap.size=w1.heap.size:=by omega
    go_wp2;generalize ao:World.setCell _ _ _=w5;have ar:ExtR w w3 w5:=by rw[←ao];exact(((ExtR.refl _ w3).setCell (p:=⟨w,0,none⟩) (.inl rfl) _).setCell (p:=⟨w,1,none⟩) (.inl rfl) _).setCell (p:=⟨w,2,none⟩) (.inl rfl) _
    have Y5:=(((f.out.ext X3.out).set 0 (I wd)).set 1 (I k)).set 2 (.slice p n cap);simp only[Z3,aWg,aWe,aWf]at Y5;rw[ao]at Y5;have O5:w5.ownsRow w TI 1 (.slice p n cap) n (ivs xs):=bF (O3.out.kept ar (.inr (iW O3 (f.out.ext X3.out) (by decide)))) (by omega);have X5:Ext w w5:=ExtR.new (ah.out.trans X3.out) ar (aVz _);clear ao z_ b0 b1 b2;have y_:=Y5.tri;exact aYw (v:= .tuple #[aH wd k p n cap,.bool true]) (wU ay.out HN O5 X5)
   have al:(cE wd k xs==l)=false:=by simp[ht]
   have am:Hid (dE l=none):=by show _=_;rw[kC,ak.out];simp[ht]
   clear ht hok;have z_:=(f.out.ext X3.out).trif;have bc:Ext w w3:=ah.out.trans X3.out;have az:(w:Nat)<w3:=(f.out.ext X3.out).lt;go_wp2;exact aYw (v:= .tuple #[aH 0 0 none 0 0,.bool false]) (jP am.out xE)
abbrev mN:TypeId:=32
abbrev uV:TypeId:=62
theorem aUj:ElT prog 30 uV 4:=
 ⟨underlying30,by
  obtain⟨i,hi,h0,h1,h2⟩:=info_parts (show(prog.info? uV).map (fun i=>(i.zero,i.size,i.bytes))=some (some (.agg #[(),(),(),()]),4,32) by kernel_rfl)
  exact⟨i,_,hi,h0,h1,by omega,rfl⟩,by omega⟩
theorem Sl.blkS {w:World}{cs:Array Value}(hb:Blk w g t cs):Sl w (some ⟨g,0,none⟩) 1 1 cs.size cs.toList:=by refine⟨by simp,aVz _,by unfold maxLen;omega,fun _=>⟨g,0,rfl,hb.lt,?_⟩⟩;intro j hj;rw[aWz,hb.cell];simp
theorem aMk (v:aV): ∀u∈aC v,u.oneCell'=true:=by intro u hu;simp only[aC,aWd,List.not_mem_nil,or_false]at hu;rcases hu with rfl|rfl|rfl|rfl<;>rfl
def aNd (r:aQ)(b:Bool)(w:World)(e:Ending)(w':World):Prop:=
 ∃p c q d,e= .returned (.tuple #[bV r p r.cells.length c q r.vs.length d,.bool b])∧w'.ownsRow w.heap.size TI 1 (.slice p r.cells.length c) r.cells.length (ivs r.cells)∧
  w'.ownsRow w.heap.size uV 4 (.slice q r.vs.length d) r.vs.length (r.vs.flatMap aC)∧Ext w w'
theorem fX {o:Option aQ}{w:World}(h:o=none)(hx:Ext w w'):aNd (o.getD eR) o.isSome w (.returned (.tuple #[.agg #[(),(),((),()),(),(),(),(),(),(),((),())],.bool false])) w':=by subst h;exact⟨none,0,none,0,rfl,aW9 _ _ _ _,aW9 _ _ _ _,hx⟩
theorem aBd {o:Option aQ}{f s pr cp ck bk:Int}{vs:List aV}{w:World}{p q:OA}{c d:Nat}(h:o=some ⟨W,D,xs,f,s,pr,cp,ck,bk,vs⟩)(hn:n=xs.length)(hm:m=vs.length)(ho:w'.ownsRow w TI 1 (.slice p n c) n (ivs xs))(hv:w'.ownsRow w uV 4 (.slice q m d) m (vs.flatMap aC))(hx:Ext w w'):
  aNd (o.getD eR) o.isSome w (.returned (.tuple #[.agg #[W,D,.slice p n c,f,s,pr,cp,ck,bk,.slice q m d],.bool true])) w':=by
 subst h;subst hn;subst hm;exact⟨p,c,q,d,rfl,ho,hv,hx⟩
theorem qG {l:List UInt8}(h:eF (aL 59 l)=false):bH l=none:=by unfold bH;rw[if_neg];rintro⟨a,_⟩;rw[h]at a;simp at a
def eD (ps:List (List UInt8))(k:Nat):List aV:=((ps.drop 4).take k).map (fun p=>tQ (mA p))
theorem uW (h:ps[4+k]? =some q):eD ps (k+1)=eD ps k++ [tQ (mA q)]:=by unfold eD;rw[aX (x:=q) (by rw[List.getElem?_drop];exact h),aWs];rfl
theorem wH (h:ps.length=N+4)(hk:k≤N):(eD ps k).length=k:=by simp only[eD,aWj,aWn,aWt];omega
theorem aF8 (h:ps.length=N+4):eD ps N=(ps.drop 4).map (fun p=>tQ (mA p)):=by unfold eD;rw[aW4 (by rw[aWt];omega)]
theorem aI6 (h:bR 1 p=some xs):xs= [fP p]:=by
 unfold bR at h;split at h
 ·rename_i hc;cases h
  have h1:aL 44 p= [p]:=by
   obtain⟨a,ha⟩:=List.length_eq_one_iff.1 hc.1;have hj:(44:UInt8)∉p:=by intro hm;obtain⟨x,y,rfl,hx⟩:=uJ 44 p hm;rw[iR 44 x y hx]at ha;simp only[List.cons.injEq]at ha;exact absurd ha.2 (eX 44 y)
   exact lG 44 p hj
  rw[h1];have h2:=aWo.1 hc.2 p (by rw[h1];simp);cases hr:bK 5 p with
  |none=>rw[hr]at h2;simp at h2
  |some x=>simp[fP,hr]
 simp at h
theorem uB (h:xs.length=4): ∃a b c d,xs= [a,b,c,d]:=by
 match xs,h with
 | [a,b,c,d],_=>exact⟨a,b,c,d,rfl⟩
theorem aI9 (h:bR m p=some xs):xs.length=m:=by have:=nV h;rw[←this.1];simp[mA,this.2]
theorem cW {w:World}{base:Nat}{a:Nat}(h:w.ownsRow base TI 1 (.slice (some ⟨g,0,none⟩) n a) n (ivs xs))(k:Nat)(hk:k<n)(x:Int)(hx:xs[k]? =some x):w.cell? ⟨g,k,none⟩=some (I x):=by rw[h.cellAt k (by omega)];simp[ivs,iv,hx]
theorem aSi (h4:4≤ps.length){o0:aF4}{t:List Int}{x y:List Int}(h0:dE (gK ps 0)=some o0)(h1:bR 4 (gK ps 1)=some t)(h2:bR 1 (gK ps 2)=some x)(h3:bR 1 (gK ps 3)=some y):
  eF ps=(ps.drop 4).all (fun p=>(bR 4 p).isSome):=by
 simp[eF,h4,h0,h1,h2,h3]
theorem xT (h:(dE (gK ps 0)).isSome=false∨(bR 4 (gK ps 1)).isSome=false∨(bR 1 (gK ps 2)).isSome=false∨(bR 1 (gK ps 3)).isSome=false):eF ps=false:=by unfold eF;rcases h with h|h|h|h<;>simp[h]
theorem aPb (hk:ps[4+k]? =some q)(h:bR 4 q=none):eF ps=false:=by unfold eF;rw[Bool.and_eq_false_iff];right;rw[List.all_eq_false];refine⟨q,?_,by simp[h]⟩;rw[List.mem_iff_getElem?];exact⟨k,by rw[List.getElem?_drop];exact hk⟩
theorem aBo (hl:ps.length=N+4)(h0:(dE (gK ps 0)).getD (0,0,[])=(W,D,xs)){t:List Int}(ht:mA (gK ps 1)=t):
  dG ps=⟨W,D,xs,at4 t 0,at4 t 1,at4 t 2,at4 t 3,fP (gK ps 2),fP (gK ps 3),eD ps N⟩:=by
 unfold dG;rw[h0,ht,aF8 hl]
theorem aBi {l:List UInt8}(h:eF (aL 59 l)=true):bH l=if bC (dG (aL 59 l))=true∧bI (dG (aL 59 l))=l then some (dG (aL 59 l))else none:=by unfold bH;simp[h]
theorem aBh {l:List UInt8}(h4:4≤(aL 59 l).length)(h:fM (aL 59 l)=true):bH l=if bI (dG (aL 59 l))=l then some (dG (aL 59 l))else none:=by
 rw[zW];by_cases ht:bI (dG (aL 59 l))=l
 ·have a:bC (dG (aL 59 l))=true:=by
   cases hq:bC (dG (aL 59 l))with
   |true=>rfl
   |false=>
    have e:l= []:=by rw[←ht];unfold bI;rw[if_neg (by simp[hq])]
    rw[e]at h4;simp[aL]at h4
  rw[if_pos ⟨h,a,ht⟩,if_pos ht]
 rw[if_neg (fun hc=>ht hc.2.2),if_neg ht]
theorem uD {l:List UInt8}(h:fM (aL 59 l)=false):bH l=none:=by rw[zW,if_neg];rintro⟨a,_⟩;rw[h]at a;simp at a
theorem aEt (h:(dE (gK ps 0)).isSome=false∨ ¬(aL 44 (gK ps 1)).length=4):fM ps=false:=by unfold fM;rcases h with h|h<;>simp[h]
theorem aM5 (hk:ps[4+k]? =some q)(h: ¬(aL 44 q).length=4):fM ps=false:=by unfold fM;rw[Bool.and_eq_false_iff];right;rw[List.all_eq_false];refine⟨q,?_,by simp[h]⟩;rw[List.mem_iff_getElem?];exact⟨k,by rw[List.getElem?_drop];exact hk⟩
theorem lM (h:ps[k]? =some q):gK ps k=q:=by simp[gK,h]
section
open Go
theorem Blk.putx {w w5 w9:World}{a0 a1 a2 a3 a4 a5 a6 a7 a8 a9 b0 b1 b2 b3 b4 b5 b6 b7 b8 b9:Value}(H:Blk w5 w t #[a0,a1,a2,a3,a4,a5,a6,a7,a8,a9])(X:Ext w w5)(h9:((((((((((w5.setCell ⟨w,0,none⟩ b0).setCell ⟨w,1,none⟩ b1).setCell ⟨w,2,none⟩ b2).setCell ⟨w,3,none⟩ b3).setCell ⟨w,4,none⟩ b4).setCell ⟨w,5,none⟩ b5).setCell ⟨w,6,none⟩ b6).setCell ⟨w,7,none⟩ b7).setCell ⟨w,8,none⟩ b8).setCell ⟨w,9,none⟩ b9)=w9):Blk w9 w t #[b0,b1,b2,b3,b4,b5,b6,b7,b8,b9]∧ExtR w w5 w9∧Ext w w9:=by
 subst h9;have hR:=(((((((((((ExtR.refl _ w5).setCell (p:=⟨w,0,none⟩) (.inl rfl) b0).setCell (p:=⟨w,1,none⟩) (.inl rfl) b1).setCell (p:=⟨w,2,none⟩) (.inl rfl) b2).setCell (p:=⟨w,3,none⟩) (.inl rfl) b3).setCell (p:=⟨w,4,none⟩) (.inl rfl) b4).setCell (p:=⟨w,5,none⟩) (.inl rfl) b5).setCell (p:=⟨w,6,none⟩) (.inl rfl) b6).setCell (p:=⟨w,7,none⟩) (.inl rfl) b7).setCell (p:=⟨w,8,none⟩) (.inl rfl) b8).setCell (p:=⟨w,9,none⟩) (.inl rfl) b9)
 have Y:=((((((((((H.set 0 b0).set 1 b1).set 2 b2).set 3 b3).set 4 b4).set 5 b5).set 6 b6).set 7 b7).set 8 b8).set 9 b9)
 simp only[aWg,aWe,aWf]at Y;exact⟨Y,hR,ExtR.new X hR (aVz _)⟩
end
end Go.Proofs.YthfmmibomhhmpabGreatDoor
