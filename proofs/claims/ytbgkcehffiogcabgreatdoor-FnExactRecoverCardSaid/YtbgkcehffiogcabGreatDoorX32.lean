/-
  Texts of this proof, packed (@packed).
-/
import Derived.Test.YtbgkcehffiogcabGreatDoorX31
namespace Go.Proofs.YtbgkcehffiogcabGreatDoor
open Go.RowKit Go.Proofs.Tryz
set_option linter.unusedSimpArgs false
set_option linter.unusedVariables false
set_option maxHeartbeats 8000000
set_option maxRecDepth 100000
abbrev mM:TypeId:=24
abbrev qC:TypeId:=9
abbrev Z3:Array Value:=#[(),(),((),())]
theorem aOp {w:World}{b1 b2 s1 s2 n1 n2:Nat}{e1 e2:TypeId}{v1 v2:Value}{a b:List Value}(h1:w.ownsRow b1 e1 s1 v1 n1 a)(h2:w.ownsRow b2 e2 s2 v2 n2 b)(ne:e1≠e2):v1.ownBlock=none∨v1.ownBlock≠v2.ownBlock:=by
 rcases h1.2 with⟨rfl,_⟩|⟨g,cap,cur,rfl,hb,hg,_⟩
 ·exact .inl rfl
 right;rcases h2.2 with⟨rfl,_⟩|⟨g2,cap2,cur2,rfl,hb2,hg2,_⟩
 ·simp[Value.ownBlock]
 simp only[Value.ownBlock,ne_eq,aU6];rintro rfl;rw[hg]at hg2;injection hg2 with e;injection e with _ e;exact ne e
theorem iE {w:World}{b1 s1 n1:Nat}{e1:TypeId}{v1:Value}{a:List Value}{g:Nat}{t:TypeId}{cs:Array Value}(h1:w.ownsRow b1 e1 s1 v1 n1 a)(h2:Blk w g t cs)(ne:e1≠t):v1.ownBlock≠some g:=by
 rcases h1.2 with⟨rfl,_⟩|⟨g1,cap,cur,rfl,hb,hg,_⟩
 ·simp[Value.ownBlock]
 simp only[Value.ownBlock,ne_eq,aU6];rintro rfl;unfold Blk at h2;rw[hg]at h2;injection h2 with e;injection e with _ e;exact ne e
theorem aFf {w1 wr w':World}{g n b:Nat}{o:Obj}{t:TypeId}{cs:Array Value}{v:Value}{xs:List Value}(X:Ext w1 wr)(B:Blk wr g t cs)(ht:TI≠t)(O:wr.ownsRow b TI 1 v n xs)(hb:w1.heap.size≤b)(a:(wr.alloc o).grownBy w' v.ownBlock):
  Ext w1 w'∧Blk w' g t cs:=
 ⟨(X.alloc o).grown a (fun q hq=>aTb hb (O.lt q hq).1),(B.alloc o).grown a (fun e=>iE O B ht e.symm)⟩
theorem aFe {wr w':World}{n b:Nat}{o:Obj}{v:Value}{xs:List Value}(O:wr.ownsRow b TI 1 v n xs)(a:(wr.alloc o).grownBy w' v.ownBlock){b2 s2 n2:Nat}{v2:Value}{c:List Value}{e2:TypeId}(h2:wr.ownsRow b2 e2 s2 v2 n2 c)(ne:e2≠TI):w'.ownsRow b2 e2 s2 v2 n2 c:=
 (h2.alloc o).kept a (aOp h2 O ne)
theorem iM {w':World}{g i:Nat}{t:TypeId}{cs:Array Value}(B:Blk w' g t cs){u:Value}{b2 s2 n2:Nat}{v2:Value}{a:List Value}{e2:TypeId}(h2:w'.ownsRow b2 e2 s2 v2 n2 a)(ne:e2≠t):(w'.setCell ⟨g,i,none⟩ u).ownsRow b2 e2 s2 v2 n2 a:=
 h2.kept ((ExtR.refl g w').setCell (p:=⟨g,i,none⟩) (.inl rfl) u) (.inr (iE h2 B ne))
def pA (o:Option aDa)(w:World)(e:Ending)(w':World):Prop:=
 ∃p n cap,n=(o.getD (0,0,[])).2.2.length∧e= .returned (.tuple #[aH (o.getD (0,0,[])).1 (o.getD (0,0,[])).2.1 p n cap,.bool o.isSome])∧w'.ownsRow w.heap.size TI 1 (.slice p n cap) n (ivs (o.getD (0,0,[])).2.2)∧Ext w w'
theorem iV {o:Option aDa}{w w':World}(h:o=none)(hx:Ext w w'):pA o w (.returned (.tuple #[aH 0 0 none 0 0,.bool false])) w':=by subst h;exact⟨none,0,0,rfl,rfl,aTl _ _ _ _,hx⟩
theorem uT {o:Option aDa}{wd dp:Int}{xs:List Int}{w w':World}{p:OA}{n a:Nat}(h:o=some (wd,dp,xs))(hn:n=xs.length)(ho:w'.ownsRow w TI 1 (.slice p n a) n (ivs xs))(hx:Ext w w'):pA o w (.returned (.tuple #[aH wd dp p n a,.bool true])) w':=by subst h;subst hn;exact⟨p,_,a,rfl,rfl,ho,hx⟩
def cN (rows:List (List UInt8))(k:Nat):List (List (List UInt8)):=(rows.take k).map (aK 44)
theorem xF (l:List UInt8){k:Nat}(h:(aK 47 l).length≤k):cN (aK 47 l) k=jJ l:=by unfold cN jJ;rw[aT7 h]
theorem fV {rows:List (List UInt8)}{k:Nat}{q:List UInt8}(h:rows[k]? =some q):cN rows (k+1)=cN rows k++ [aK 44 q]:=by unfold cN;rw[aZ h,aTu];rfl
theorem xG (ps:List (List (List UInt8)))(r:List (List UInt8)):lL (ps++ [r])=r.length:=by simp[lL]
def dS (ps:List (List (List UInt8))):List Int:=ps.flatten.map gY
theorem lC (ps:List (List (List UInt8)))(r:List (List UInt8)):dS (ps++ [r])=dS ps++r.map gY:=by simp[dS]
theorem aHh {l:List UInt8}{k:Nat}{q:List UInt8}(h:(aK 47 l)[k]? =some q) (hf:mQ (aK 44 q)=false):dA l=none:=by refine tI ?_;unfold rI;rw[Bool.and_eq_false_iff];right;rw[List.all_eq_false];exact⟨aK 44 q,List.mem_map_of_mem (aT4 h),by simp[hf]⟩
theorem aOg {r:List (List UInt8)}(h:4<r.length):mQ r=false:=by simp[mQ];omega
theorem aQt {r:List (List UInt8)}{j:Nat}{c:List UInt8}(h:r[j]? =some c) (hc:qH c=none):mQ r=false:=by unfold mQ;rw[Bool.and_eq_false_iff];right;rw[List.all_eq_false];exact⟨c,aT4 h,by simp[hc]⟩
theorem jF (l:List UInt8):dA l=if aO (dQ l).1 (dQ l).2.1 (dQ l).2.2=true∧cL (dQ l).1 (dQ l).2.1 (dQ l).2.2=l then some (dQ l)else none:=rfl
theorem aEo (l:List UInt8)(w:World)(hs:l.length<4294967281)(hE:Env w):U 110 #[str l] w (pA (dA l) w):=by
 have HS:Hid (∀q:List UInt8,q.length<4294967281→ ∀c w,Env w→U 109 #[str q,.string ⟨#[c]⟩] w fun e w'=> ∃v,e= .returned v∧w'.ownsRow w qC 1 v (aK c q).length (eQ (aK c q))∧Ext w w'):=
  fun q hq c w hE=>rZ ⟨q.toArray⟩ c w (by simpa[ByteArray.size]using hq) hE
 have ai:=eC 47 l;have HL:Hid (∀p∈aK 47 l,p.length<4294967281):=fun p hp=>Nat.lt_of_le_of_lt (ai.1 p hp) hs
 have HR:Hid (∀(q:List UInt8) (x:Int) (b:Bool),q.length<4294967281→(bH 2 q).getD 0=x→(bH 2 q).isSome=b→ ∀w,U 62 #[str q,I 2] w fun e w'=>e= .returned (.tuple #[x,.bool b])∧w=w'):=by intro q x b hq hx hb w;subst hx;subst hb;exact mB q 2 (by omega) (by unfold maxLen;omega) w
 have HE:=xQ hE;have bi:=ai.2;have bd:0<(aK 47 l).length:=List.length_pos_iff.2 (eN 47 l);clear ai hE;go_enter func110,ntmps110;go_wp2_with fail;refine(HS l hs 47 _ (HE.out.ext (by exact .alloc (.refl _) _))).mono ?_;rintro e w1 ⟨v,rfl,aq,h1⟩;have aj:=xQ (show w1.ownsRow (w.heap.size+1) qC 1 v (aK 47 l).length (eQ (aK 47 l)) by simpa using aq);have a8:Ext w w1:=by exact .trans (.alloc (.refl _) _) h1
 have f:Hid (Blk w1 w mM Z3):=(Blk.new w _ _).ext h1;have bt:(w:Nat)<w1:=f.out.lt;have s:=xQ a8;clear aq h1 a8;obtain⟨gr,cr,rfl⟩:=aTc aj.out bd;generalize a7:(aK 47 l).length=R at*;have am:=xQ a7;clear a7;have br:R≤4294967281:=by omega
 by_cases hR3:3<R
 ·have o:Hid (dA l=none):=tI (by unfold rI;rw[am.out];simp;omega);have a5:(3:Int)<(R:Int):=by omega
  obtain⟨z0,ab,z1,ad,z2,ae⟩:=(f.out.ext (Ext.refl w1)).trif;have ap:Ext w w1:=s.out.trans (Ext.refl w1);have al:(w:Nat)<w1:=(f.out.ext (Ext.refl w1)).lt;go_wp2;exact bodyPost_ret (v:= .tuple #[aH 0 0 none 0 0,.bool false]) (by simp[results,results110,go_sem, *]) rfl (iV o.out xE)
 have a5: ¬(3:Int)<(R:Int):=by omega
 go_wp2
 go_loopw [25] (fun i wr=> ∃(k n:Nat) (p:OA) (cap:Nat),k≤R∧i=I k∧n=(dS (cN (aK 47 l) k)).length∧n≤4*k∧Ext w1 wr∧Blk wr w1 mM #[(lL (cN (aK 47 l) k):Int),R,.slice p n cap]∧
  wr.ownsRow (w1.heap.size+1) TI 1 (.slice p n cap) n (ivs (dS (cN (aK 47 l) k)))∧ ∀r∈(cN (aK 47 l) k),mQ r=true) (fun i _=>R-(intOf i).toNat)
 case atStart=>refine⟨0,0,none,0,aT8 _,rfl,rfl,aT8 _,by exact .alloc (.refl _) _,?_,aTl _ _ _ _,by simp[cN]⟩;have:=Blk.new w1 mM #[(),R,((),())];simpa[cN,lL]using this
 case round=>
  obtain⟨k,n,p,cap,hk,rfl,hn,bc,ag,hB,hO,ah⟩:=hrel;have HB:=xQ hB;have HO:=xQ hO;have HN:=xQ hn;have HF:=xQ ah;clear hB hO hn ah;by_cases hlt:k<R
  ·obtain⟨q,hq⟩: ∃q,(aK 47 l)[k]? =some q:=⟨_,aT3 (by rw[am.out];exact hlt)⟩
   have HQ:=xQ hq;have be:q.length<4294967281:=HL q (aT4 hq);have e1:wr.cell? ⟨gr,k,none⟩=some (str q):=aW (aP aj.out ag) k hlt q hq;clear hq;have i1:(0:Int)≤(k:Int):=by omega
   have i2:(k:Int)<(R:Int):=by omega
   have bo:(w1:Nat)<wr:=HB.out.lt;go_wp2_with fail;refine(HS q be 44 _ (HE.out.ext (s.out.trans (by exact ag)))).mono ?_;rintro e w2 ⟨v2,rfl,ak,h2⟩;clear e1;have bj:=(eC 44 q).2;have a2:0<(aK 44 q).length:=List.length_pos_iff.2 (eN 44 q);have XM:=xQ (ag.trans h2);have BM:=xQ (HB.out.ext h2);have OM:=xQ (aP HO h2);obtain⟨bW,OW⟩: ∃bW,Hid (w2.ownsRow bW qC 1 v2 (aK 44 q).length (eQ (aK 44 q))):=⟨_,ak⟩
   have bp:(wr:Nat)≤w2:=h2.sz;clear ak h2;obtain⟨g2,c2,rfl⟩:=aTc OW a2;have bg:Hid (∀c∈aK 44 q,c.length<4294967281):=fun c hc=>Nat.lt_of_le_of_lt ((eC 44 q).1 c hc) be
   generalize hm:(aK 44 q).length=m at*;have HM:=hm;clear hm;by_cases hm4:4<m
   ·have o:Hid (dA l=none):=aHh HQ (aOg (by rw[HM];exact hm4));have bb:(4:Int)<(m:Int):=by omega
    obtain⟨z0,ab,z1,ad,z2,ae⟩:=(f.out.ext XM.out).trif;have ap:Ext w w2:=s.out.trans XM.out;have al:(w:Nat)<w2:=(f.out.ext XM.out).lt;go_wp2;exact bodyPost_ret (v:= .tuple #[aH 0 0 none 0 0,.bool false]) (by simp[results,results110,go_sem, *]) rfl (iV o.out xE)
   have bb: ¬(4:Int)<(m:Int):=by omega
   obtain⟨b0,t,b1,z,b2,aa⟩:=BM.out.trif;go_wp2;clear b0 b1 b2 t z aa
   go_loopw [40] (fun i wz=> ∃(j n:Nat) (p:OA) (cap:Nat),j≤m∧i=I j∧n=(dS (cN (aK 47 l) k)++((aK 44 q).take j).map gY).length∧n≤4*k+j∧Ext w1 wz∧Blk wz w1 mM #[m,R,.slice p n cap]∧
    wz.ownsRow (w1.heap.size+1) TI 1 (.slice p n cap) n (ivs (dS (cN (aK 47 l) k)++((aK 44 q).take j).map gY))∧wz.ownsRow bW qC 1 (.slice (some ⟨g2,0,none⟩) m c2) m (eQ (aK 44 q))∧ ∀c∈(aK 44 q).take j,(qH c).isSome=true) (fun i _=>m-(intOf i).toNat)
   case atStart=>
    refine⟨0,n,p,cap,aT8 _,rfl,by simpa using HN.out,by omega,XM.out.setCell (aT2 _) _,?_,?_,iM BM OW.out (by decide),by simp⟩
    ·have:=BM.out.set 0 (I m);simpa using this
    have:=iM (i:=0) (u:=I m) BM OM.out (by decide);simpa using this
   case round=>
    clear HN HO HB XM BM OM OW bc n p cap;obtain⟨j,n,p,cap,hj,rfl,hn,bc,a4,hB,hO,hW,ba⟩:=hrel;have XZ:=xQ a4;have BZ:=xQ hB;have OZ:=xQ hO;have az:=xQ hW;have aw:=xQ hn;have au:=xQ ba;have bq:(w1:Nat)<wr:=hB.lt;clear a4 hB hO hW hn ba;by_cases hlt2:j<m
    ·obtain⟨c,hc⟩: ∃c,(aK 44 q)[j]? =some c:=⟨_,aT3 (by rw[HM];exact hlt2)⟩
     have HC:=xQ hc;have a9:c.length<4294967281:=bg c (aT4 hc);have e2:wr.cell? ⟨g2,j,none⟩=some (str c):=aW az j hlt2 c hc;clear hc;have i3:(0:Int)≤(j:Int):=by omega
     have i4:(j:Int)<(m:Int):=by omega
     obtain⟨b0,t,b1,z,b2,aa⟩:=BZ.out.trif;by_cases hd:c= [46]
     ·have a1:(c== [46])=true:=by simp[hd]
      have ar:Hid (gY c=0):=by show _=_;rw[hd];rfl
      have av:Hid (∀c∈(aK 44 q).take (j+1),(qH c).isSome=true):=by
       rw[xQ (aZ HC.out)];intro x hx;rcases aTi.1 hx with h|h
       ·exact au x h
       obtain rfl:x=c:=by simpa using h
       rw[hd];rfl
      clear hd;go_wp2_with (at_builtin;refine cW gJ rfl _ _ rfl (w1.heap.size+1) (.slice p n cap) n _ rfl (OZ.out.alloc _) _ _ (0) _ rfl (by simp) (by omega) (by simp;omega) ?_;intro p2 a w3 g d;obtain⟨X3,B3⟩:=aFf XZ BZ.out (by decide) OZ (by omega) d;have af:=aFe OZ d az (by decide);clear d b0 b1 b2 t z aa e2;(have b0:w3.cell? ⟨w1,0,none⟩=some (I m):=B3.cell 0);(have b1:w3.cell? ⟨w1,1,none⟩=some (I R):=B3.cell 1);(have b2:w3.cell? ⟨w1,2,none⟩=some (.slice p n cap):=B3.cell 2);(have t:w3.frozen? ⟨w1,0,none⟩=false:=B3.frozen 0);(have z:w3.frozen? ⟨w1,1,none⟩=false:=B3.frozen 1);(have aa:w3.frozen? ⟨w1,2,none⟩=false:=B3.frozen 2);have bn:(w1:Nat)<w3:=B3.lt);have B4:=xQ (show Blk (w3.setCell ⟨w1,2,none⟩ (.slice p2 (n+1) a)) w1 mM #[m,R,.slice p2 (n+1) a] by have:=B3.set 2 (.slice p2 (n+1) a);simpa using this);have O4:Hid ((w3.setCell ⟨w1,2,none⟩ (.slice p2 (n+1) a)).ownsRow (w1.heap.size+1) TI 1 (.slice p2 (n+1) a) (n+1) (ivs (dS (cN (aK 47 l) k)++((aK 44 q).take (j+1)).map gY))):=by have:=iM (i:=2) (u:= .slice p2 (n+1) a) B3 g (by decide);rw[aTx,show((aK 44 q).take j).map gY++ [0]=((aK 44 q).take (j+1)).map gY by rw[aZ HC.out,aTu];simp[ar.out]]at this;exact this
      have ay:Hid ((w3.setCell ⟨w1,2,none⟩ (.slice p2 (n+1) a)).ownsRow bW qC 1 (.slice (some ⟨g2,0,none⟩) m c2) m (eQ (aK 44 q))):=iM B3 af (by decide);have X4:Ext w1 (w3.setCell ⟨w1,2,none⟩ (.slice p2 (n+1) a)):=X3.setCell (aT2 _) _;clear g af B3;go_roundw
      case rel=>exact⟨j+1,n+1,p2,a,by omega,by go_num,by have bk:=HM;rw[aw.out];simp only[aTa,aTk,aTq];omega,by omega,X4,B4.out,O4.out,ay.out,av.out⟩
      case measure=>simp[intOf];omega
     have a1:(c== [46])=false:=by simp[hd]
     cases hr:bH 2 c with
     |none=>have o:Hid (dA l=none):=aHh HQ (aQt HC (by unfold qH;rw[if_neg hd,hr]));have ax:=xQ (HR c 0 false a9 (by rw[hr];rfl) (by rw[hr];rfl));clear hr hd;go_wp2_with fail;refine(ax _).mono ?_;rintro e w2 ⟨rfl,rfl⟩;clear b0 b1 b2 t z aa e2;obtain⟨z0,ab,z1,ad,z2,ae⟩:=(f.out.ext XZ.out).trif;have ap:Ext w wr:=s.out.trans XZ.out;have al:(w:Nat)<wr:=(f.out.ext XZ.out).lt;go_wp2;exact bodyPost_ret (v:= .tuple #[aH 0 0 none 0 0,.bool false]) (by simp[results,results110,go_sem, *]) rfl (iV o.out xE)
     |some x=>
      have ar:Hid (gY c=x):=aKr (by unfold qH;rw[if_neg hd,hr]);have av:Hid (∀c∈(aK 44 q).take (j+1),(qH c).isSome=true):=by
       rw[xQ (aZ HC.out)];intro y hy;rcases aTi.1 hy with h|h
       ·exact au y h
       obtain rfl:y=c:=by simpa using h
       unfold qH;rw[if_neg hd,hr];rfl
      have ax:=xQ (HR c x true a9 (by rw[hr];rfl) (by rw[hr];rfl));clear hr hd;go_wp2_with fail;refine(ax _).mono ?_;rintro e w2 ⟨rfl,rfl⟩;go_wp2_with (at_builtin;refine cW gJ rfl _ _ rfl (w1.heap.size+1) (.slice p n cap) n _ rfl (OZ.out.alloc _) _ _ (x) _ rfl (by simp) (by omega) (by simp;omega) ?_;intro p2 a w3 g d;obtain⟨X3,B3⟩:=aFf XZ BZ.out (by decide) OZ (by omega) d;have af:=aFe OZ d az (by decide);clear d b0 b1 b2 t z aa e2;(have b0:w3.cell? ⟨w1,0,none⟩=some (I m):=B3.cell 0);(have b1:w3.cell? ⟨w1,1,none⟩=some (I R):=B3.cell 1);(have b2:w3.cell? ⟨w1,2,none⟩=some (.slice p n cap):=B3.cell 2);(have t:w3.frozen? ⟨w1,0,none⟩=false:=B3.frozen 0);(have z:w3.frozen? ⟨w1,1,none⟩=false:=B3.frozen 1);(have aa:w3.frozen? ⟨w1,2,none⟩=false:=B3.frozen 2);have bn:(w1:Nat)<w3:=B3.lt);have B4:=xQ (show Blk (w3.setCell ⟨w1,2,none⟩ (.slice p2 (n+1) a)) w1 mM #[m,R,.slice p2 (n+1) a] by have:=B3.set 2 (.slice p2 (n+1) a);simpa using this);have O4:Hid ((w3.setCell ⟨w1,2,none⟩ (.slice p2 (n+1) a)).ownsRow (w1.heap.size+1) TI 1 (.slice p2 (n+1) a) (n+1) (ivs (dS (cN (aK 47 l) k)++((aK 44 q).take (j+1)).map gY))):=by have:=iM (i:=2) (u:= .slice p2 (n+1) a) B3 g (by decide);rw[aTx,show((aK 44 q).take j).map gY++ [x]=((aK 44 q).take (j+1)).map gY by rw[aZ HC.out,aTu];simp[ar.out]]at this;exact this
      have ay:Hid ((w3.setCell ⟨w1,2,none⟩ (.slice p2 (n+1) a)).ownsRow bW qC 1 (.slice (some ⟨g2,0,none⟩) m c2) m (eQ (aK 44 q))):=iM B3 af (by decide);have X4:Ext w1 (w3.setCell ⟨w1,2,none⟩ (.slice p2 (n+1) a)):=X3.setCell (aT2 _) _;clear g af B3;go_roundw
      case rel=>exact⟨j+1,n+1,p2,a,by omega,by go_num,by have bk:=HM;rw[aw.out];simp only[aTa,aTk,aTq];omega,by omega,X4,B4.out,O4.out,ay.out,av.out⟩
      case measure=>simp[intOf];omega
    obtain rfl:j=m:=by omega
    have HT:Hid ((aK 44 q).take j=aK 44 q):=aT7 (by rw[HM];exact aT2 _);go_wp2;go_roundw
    case rel=>
     refine⟨k+1,n,p,cap,by omega,by go_num,?_,by omega,XZ.out,?_,?_,?_⟩
     ·rw[fV HQ.out,lC,aw.out,HT.out]
     ·rw[fV HQ.out,xG,HM];exact BZ.out
     ·rw[fV HQ.out,lC];have:=OZ.out;rw[HT.out]at this;exact this
     rw[fV HQ.out];intro r hr;rcases aTi.1 hr with h|h
     ·exact HF r h
     obtain rfl:r=aK 44 q:=by simpa using h
     have h2:=au.out;rw[HT.out]at h2;simp only[mQ,aTd,decide_eq_true_eq,aTp];exact⟨by rw[HM];omega,h2⟩
    case measure=>simp[intOf];omega
  obtain rfl:k=R:=by omega
  have bh:Hid (cN (aK 47 l) k=jJ l):=xF l (by rw[am.out];exact aT2 _);have a0:Hid (dQ l=(lL (cN (aK 47 l) k),(k:Int),dS (cN (aK 47 l) k))):=by show _=_;unfold dQ;rw[bh.out,am.out];rfl
  generalize bl:lL (cN (aK 47 l) k)=wd at*;generalize bm:dS (cN (aK 47 l) k)=xs at*;clear bl bm;have bo:(w1:Nat)<wr:=HB.out.lt;obtain⟨b0,b1,b2⟩:=HB.out.tri;have HV:=xQ (fun w' (hx:Ext wr w')=>gS wd k p n cap xs w' ((Sl.own HO.out).ext hx));cases hok:aO wd k xs with
  |false=>
   have o:Hid (dA l=none):=by show _=_;rw[jF,a0.out];simp[hok]
   rw[hok]at HV;clear hok;go_wp2_with fail;refine Ω (HV _ (by exact .refl _)) fun w2 h2=>?_
   clear b0 b1 b2;have XF:=xQ (show Ext w1 w2 by exact .trans ag h2);clear h2;obtain⟨z0,ab,z1,ad,z2,ae⟩:=(f.out.ext XF.out).trif;have ap:Ext w w2:=s.out.trans XF.out;have al:(w:Nat)<w2:=(f.out.ext XF.out).lt;go_wp2;exact bodyPost_ret (v:= .tuple #[aH 0 0 none 0 0,.bool false]) (by simp[results,results110,go_sem, *]) rfl (iV o.out xE)
  |true=>
   rw[hok]at HV;go_wp2_with fail;refine Ω (HV _ (by exact .refl _)) fun w2 h2=>?_
   clear b0 b1 b2;have an:Ext wr w2:=by exact h2
   have B2:=xQ (HB.out.ext an);have O2:=xQ (aP HO an);have X2:=xQ (show Ext w1 w2 by exact .trans ag an);have bu:(w1:Nat)<w2:=B2.out.lt;clear h2 an;have HT:=xQ (fun w' (hx:Ext w2 w') (hE:Env w')=>vE wd k p n cap xs w' hE ((Sl.own O2.out).ext hx));obtain⟨b0,b1,b2⟩:=B2.out.tri;go_wp2_with fail;refine Ω (HT _ (by exact .refl _) (HE.out.ext (s.out.trans (X2.out.trans (by exact .refl _))))) fun w3 h3=>?_
   clear b0 b1 b2;have ao:Ext w2 w3:=by exact h3
   have B3:=xQ (B2.out.ext ao);have O3:=xQ (aP O2 ao);have X3:=xQ (show Ext w1 w3 by have:=X2.out;exact .trans this ao);clear h3 ao;by_cases ht:cL wd k xs=l
   ·have a1:(cL wd k xs==l)=true:=by simp[ht]
    have bf:Hid (dA l=some (wd,(k:Int),xs)):=by show _=_;rw[jF,a0.out];simp[hok,ht]
    clear ht hok;obtain⟨b0,b1,b2⟩:=B3.out.tri;obtain⟨z0,ab,z1,ad,z2,ae⟩:=(f.out.ext X3.out).trif;have al:(w:Nat)<w3:=(f.out.ext X3.out).lt;have bs: ¬w.heap.size=w1.heap.size:=by omega
    go_wp2;generalize a3:World.setCell _ _ _=w5;have a6:ExtR w w3 w5:=by rw[←a3];exact(((ExtR.refl _ w3).setCell (p:=⟨w,0,none⟩) (.inl rfl) _).setCell (p:=⟨w,1,none⟩) (.inl rfl) _).setCell (p:=⟨w,2,none⟩) (.inl rfl) _
    have Y5:=(((f.out.ext X3.out).set 0 (I wd)).set 1 (I k)).set 2 (.slice p n cap);simp only[Z3,aTh,aTe,aTf]at Y5;rw[a3]at Y5;have O5:w5.ownsRow w TI 1 (.slice p n cap) n (ivs xs):=bD (O3.out.kept a6 (.inr (iE O3 (f.out.ext X3.out) (by decide)))) (by omega);have X5:Ext w w5:=ExtR.new (s.out.trans X3.out) a6 (aT2 _);clear a3 z0 z1 z2 ab ad ae b0 b1 b2;obtain⟨y0,y1,y2⟩:=Y5.tri;exact bodyPost_ret (v:= .tuple #[aH wd k p n cap,.bool true]) (by simp[results,results110,go_sem, *]) rfl (uT bf.out HN O5 X5)
   have a1:(cL wd k xs==l)=false:=by simp[ht]
   have o:Hid (dA l=none):=by show _=_;rw[jF,a0.out];simp[ht]
   clear ht hok;obtain⟨z0,ab,z1,ad,z2,ae⟩:=(f.out.ext X3.out).trif;have ap:Ext w w3:=s.out.trans X3.out;have al:(w:Nat)<w3:=(f.out.ext X3.out).lt;go_wp2;exact bodyPost_ret (v:= .tuple #[aH 0 0 none 0 0,.bool false]) (by simp[results,results110,go_sem, *]) rfl (iV o.out xE)
def vV (l:List UInt8)(w:World)(e:Ending)(w':World):Prop:=
 ∃p n cap,n=(aK 44 l).length∧e= .returned (.tuple #[.slice p n cap,.bool ((n:Int)==4)])∧w'.ownsRow w.heap.size TI 1 (.slice p n cap) n (ivs (lJ l))∧Ext w w'
theorem aO0 (l:List UInt8)(w:World)(hs:l.length≤1099511627776):U 96 #[str l] w (vV l w):=by
 have HC:Hid (∀w,U 55 #[str l,.int .u8 44] w fun e w'=> ∃v,e= .returned v∧w'.ownsRow w qC 1 v (aK 44 l).length (eQ (aK 44 l))∧Ext w w'):=fun w=>lQ ⟨l.toArray⟩ 44 44 rfl w (by simpa[ByteArray.size]using hs)
 have n:Hid (∀c∈aK 44 l,c.length≤maxLen):=fun c hc=>by have:=(eC 44 l).1 c hc;unfold maxLen;omega
 have HW:Hid (∀c:List UInt8,c.length≤maxLen→ ∀w,U 97 #[str c] w (Z (I (fC c)) w)):=fun c hc w=>xU c w hc
 have s:=(eC 44 l).2;have j:0<(aK 44 l).length:=List.length_pos_iff.2 (eN 44 l);have HF:Hid (lJ l=(aK 44 l).map fC):=rfl;unfold vV;rw[HF.out];generalize hm:(aK 44 l).length=m at*;have HM:=hm;clear hm;go_enter func96,ntmps96;go_wp2_with fail;refine(HC _).mono ?_;rintro e w1 ⟨v,rfl,b,h1⟩;obtain⟨g,c,rfl⟩:=aTc b j;have OW:=xQ b;have X1:=xQ (show Ext w w1 by exact h1);have r:(w:Nat)≤w1:=h1.sz;clear b h1;go_wp2;go_loopw [5,6] (fun v i wr=> ∃(k:Nat) (p:OA) (cap:Nat),k≤m∧i=I k∧v= .slice p k cap∧Ext w1 wr∧wr.ownsRow w1 TI 1 (.slice p k cap) k (ivs (((aK 44 l).take k).map fC))) (fun _ i _=>m-(intOf i).toNat)
 case atStart=>exact⟨0,_,_,aT8 _,rfl,rfl,by exact .alloc (.refl _) _,aUc _ #[] 0 (aT2 _) (by simp[maxLen]) rfl⟩
 case round=>
  obtain⟨k,p,cap,hk,rfl,rfl,hE,hO⟩:=hrel;have HO:=xQ hO;clear hO;by_cases hlt:k<m
  ·obtain⟨q,hq⟩: ∃q,(aK 44 l)[k]? =some q:=⟨_,aT3 (by rw[HM];exact hlt)⟩
   have HQ:=xQ hq;have o:=n q (aT4 hq);have e1:wr.cell? ⟨g,k,none⟩=some (str q):=aW (aP OW hE) k hlt q hq;clear hq;have i1:(0:Int)≤(k:Int):=by omega
   have i2:(k:Int)<(m:Int):=by omega
   go_wp2_with fail;refine Ω (HW q o _) fun w2 h2=>?_
   have h:Ext wr w2:=by exact h2
   have O2:=xQ (aP HO h);have X2:Ext w1 w2:=hE.trans h;have t:=X2.sz;clear h2 e1;go_wp2_with (at_builtin;refine cW gJ rfl _ _ rfl w1 (.slice p k cap) k _ rfl (O2.out.alloc _) _ _ (fC q) _ rfl (by simp) (by omega) (by simp;omega) ?_;intro p2 f w3 d a);have X3:Ext w1 w3:=(X2.alloc _).grown a (fun q hq=>(O2.out.lt q hq).1);have O3:Hid (w3.ownsRow w1 TI 1 (.slice p2 (k+1) f) (k+1) (ivs (((aK 44 l).take (k+1)).map fC))):=by rw[aZ HQ.out,aTu];exact d
   clear d a;go_roundw
   case rel=>exact⟨k+1,p2,f,by omega,by go_num,rfl,X3,O3.out⟩
   case measure=>simp[intOf];omega
  obtain rfl:k=m:=by omega
  go_wp2;refine bodyPost_ret (v:= .tuple #[.slice p k cap,.bool ((k:Int)==4)]) (by simp[results,results96,go_sem, *]) rfl ?_;refine⟨p,k,cap,rfl,rfl,?_,X1.out.trans hE⟩;have:=HO.out;rw[aT7 (by rw[HM];exact aT2 _)]at this;exact bD this r
def sW (o:Option (List Int))(w:World)(e:Ending)(w':World):Prop:=
 ∃p n cap,n=(o.getD []).length∧e= .returned (.tuple #[.slice p n cap,.bool o.isSome])∧w'.ownsRow w.heap.size TI 1 (.slice p n cap) n (ivs (o.getD []))∧Ext w w'
theorem xL {o:Option (List Int)}{w w':World}(h:o=none)(hx:Ext w w'):sW o w (.returned (.tuple #[((),()),.bool false])) w':=by subst h;exact⟨none,0,0,rfl,rfl,aTl _ _ _ _,hx⟩
theorem aGc {m:Nat}{l:List UInt8}(h: ¬(aK 44 l).length=m):bP m l=none:=by unfold bP;rw[if_neg (fun hc=>h hc.1)]
theorem aGd {m k:Nat}{l q:List UInt8}(h:(aK 44 l)[k]? =some q) (hq:bH 5 q=none):bP m l=none:=by unfold bP;rw[if_neg];rintro⟨_,h2⟩;have:=aTp.1 h2 q (aT4 h);rw[hq]at this;simp at this
abbrev qG (c:List UInt8):Int:=(bH 5 c).getD 0
theorem aOq {m:Nat}{l:List UInt8}(h:(aK 44 l).length=m)(h2: ∀q∈aK 44 l,(bH 5 q).isSome=true):bP m l=some ((aK 44 l).map qG):=by unfold bP;rw[if_pos ⟨h,aTp.2 h2⟩]
theorem aM9 {xs:List (List UInt8)}{k n:Nat}{c:List UInt8}(h:k<n)(hx:xs[k]? =some c) (hl:(xs.take k).length=k) (x:Int) (hc:qG c=x):(ivs ((xs.take k).map qG++List.replicate (n-k) 0)).set k (I x)=ivs ((xs.take (k+1)).map qG++List.replicate (n-(k+1)) 0):=by
 subst hc;rw[aZ hx,show n-k=(n-(k+1))+1 by omega,aUy];simp only[ivs,aTu,aUn,List.map_nil];have a:(List.map iv (List.map qG (xs.take k))).length=k:=by rw[aTk,aTk,hl]
 rw[aVa _ _ (by rw[a];exact aT2 _),a,aUr,aTe,aTx];rfl
theorem aOz {xs:List (List UInt8)}{k n:Nat}(h:k<n)(hl:(xs.take k).length=k):(ivs ((xs.take k).map qG++List.replicate (n-k) 0))[k]? =some (I 0):=by
 rw[show n-k=(n-(k+1))+1 by omega,aUy];simp only[ivs,aTu,aUn];have a:(List.map iv (List.map qG (xs.take k))).length=k:=by rw[aTk,aTk,hl]
 rw[aTn (by rw[a];exact aT2 _),a,aUr];rfl
theorem vD (l:List UInt8)(n:Nat)(w:World)(ap:1≤n)(hn:n≤10)(hs:l.length<4294967281)(hE:Env w):U 111 #[str l,n] w (sW (bP n l) w):=by
 obtain⟨i0,hi,af,ag,ai⟩:=info_parts (show(prog.info? 3).map (fun i=>(i.zero,i.size,i.bytes))=some (some (I 0),1,8) by kernel_rfl)
 have HS:Hid (∀w,Env w→U 109 #[str l,.string ⟨#[44]⟩] w fun e w'=> ∃v,e= .returned v∧w'.ownsRow w qC 1 v (aK 44 l).length (eQ (aK 44 l))∧Ext w w'):=
  fun w hE=>rZ ⟨l.toArray⟩ 44 w (by simpa[ByteArray.size]using hs) hE
 have j:=eC 44 l;have HL:Hid (∀p∈aK 44 l,p.length<4294967281):=fun p hp=>Nat.lt_of_le_of_lt (j.1 p hp) hs
 have HR:Hid (∀(q:List UInt8) (x:Int) (b:Bool),q.length<4294967281→(bH 5 q).getD 0=x→(bH 5 q).isSome=b→ ∀w,U 62 #[str q,I 5] w fun e w'=>e= .returned (.tuple #[x,.bool b])∧w=w'):=by intro q x b hq hx hb w;subst hx;subst hb;exact mB q 5 (by omega) (by unfold maxLen;omega) w
 have HE:=xQ hE;have u:=j.2;have r:0<(aK 44 l).length:=List.length_pos_iff.2 (eN 44 l);clear j hE;go_enter func111,ntmps111;go_wp2_with fail;refine(HS _ (HE.out.ext (by exact .refl _))).mono ?_;rintro e w1 ⟨v,rfl,a,h1⟩;obtain⟨g,c,rfl⟩:=aTc a r;have OW:=xQ a;have X1:=xQ (show Ext w w1 by exact h1);have ah:(w:Nat)≤w1:=h1.sz;clear a h1;by_cases hm:(aK 44 l).length=n
 ·have HM:=hm;have ab:(((aK 44 l).length:Int)==(n:Int))=true:=by simp[hm]
  rw[hm]at OW r u ab⊢;clear hm;go_wp2_with (at_make;refine wpList_make_full _ rfl _ _ 22 rfl w1 3 i0 (I 0) 1 underlying22 hi af ag .i64 .i64 _ _ n rfl rfl rfl rfl (by rw[ai];omega) (by unfold maxLen;omega) (by simp) ?_;intro w0 d f);have al:Ext w1 w0:=(Ext.refl w1).grown f (fun q hq=>by cases hq);have an:=(d.lt w1 rfl).2;rw[aM1]at d;have ak:=xQ d;clear d f hi af ag ai;go_loopw [22] (fun i wr=> ∃k:Nat,k≤n∧i=I k∧wr.ownsRow w1 TI 1 (.slice (some ⟨w1,0,none⟩) n n) n (ivs (((aK 44 l).take k).map qG++List.replicate (n-k) 0))∧Ext w1 wr∧ ∀q∈(aK 44 l).take k,(bH 5 q).isSome=true) (fun i _=>n-(intOf i).toNat)
  case atStart=>exact⟨0,aT8 _,rfl,by simpa using ak.out,al,by simp⟩
  case round=>
   obtain⟨k,hk,rfl,a,t,aa⟩:=hrel;have HO:=xQ a;have HF:=xQ aa;clear a aa;by_cases hlt:k<n
   ·obtain⟨q,hq⟩: ∃q,(aK 44 l)[k]? =some q:=⟨_,aT3 (by rw[HM];exact hlt)⟩
    have HQ:=xQ hq;have ad:=HL q (aT4 hq);have e1:wr.cell? ⟨g,k,none⟩=some (str q):=aW (aP OW t) k hlt q hq;clear hq;have i1:(0:Int)≤(k:Int):=by omega
    have i2:(k:Int)<(n:Int):=by omega
    cases hr:bH 5 q with
    |none=>have z:Hid (bP n l=none):=aGd HQ hr;have s:=xQ (HR q 0 false ad (by rw[hr];rfl) (by rw[hr];rfl));clear hr;go_wp2_with fail;refine(s _).mono ?_;rintro e w2 ⟨rfl,rfl⟩;go_wp2;exact bodyPost_ret (v:= .tuple #[((),()),.bool false]) (by simp[results,results111,go_sem, *]) rfl <| xL z.out (X1.out.trans (by exact t))
    |some x=>
     have s:=xQ (HR q x true ad (by rw[hr];rfl) (by rw[hr];rfl));have aj:Hid (∀q∈(aK 44 l).take (k+1),(bH 5 q).isSome=true):=by
      rw[xQ (aZ HQ.out)];intro y hy;rcases aTi.1 hy with h|h
      ·exact HF y h
      obtain rfl:y=q:=by simpa using h
      rw[hr];rfl
     have am:Hid (qG q=x):=by show _=_;unfold qG;rw[hr];rfl
     clear hr;have o:((aK 44 l).take k).length=k:=by rw[aTq,HM];omega
     have ao:(w1:Nat)<wr:=(HO.out.lt w1 rfl).2;have o0:wr.cell? ⟨w1,k,none⟩=some (I 0):=by rw[HO.out.cellAt k (by omega)];exact aOz hlt o
     have f0:wr.frozen? ⟨w1,k,none⟩=false:=HO.out.frozenAt k;have HN:Hid ((wr.setCell ⟨w1,k,none⟩ (I x)).ownsRow w1 TI 1 (.slice (some ⟨w1,0,none⟩) n n) n (ivs (((aK 44 l).take (k+1)).map qG++List.replicate (n-(k+1)) 0))):=by have:=(HO.out.stored k (I x)).1;rw[aM9 hlt HQ o x am.out]at this;exact this
     go_wp2_with fail;refine(s _).mono ?_;rintro e w2 ⟨rfl,rfl⟩;go_wp2;go_roundw
     case rel=>exact⟨k+1,by omega,by go_num,HN.out,xE,aj.out⟩
     case measure=>simp[intOf];omega
   obtain rfl:k=n:=by omega
   have hT:Hid ((aK 44 l).take k=aK 44 l):=aT7 (by rw[HM];exact aT2 _);have ae:Hid (bP k l=some ((aK 44 l).map qG)):=aOq HM (by have:=HF.out;rwa[hT.out]at this);go_wp2;refine bodyPost_ret (v:= .tuple #[.slice (some ⟨w1,0,none⟩) k k,.bool true]) (by simp[results,results111,go_sem, *]) rfl ?_;rw[ae.out];refine⟨_,k,_,by simp[HM],rfl,?_,X1.out.trans (by exact t)⟩;have:=HO.out;rw[hT.out,aUr,List.replicate_zero,aTy]at this;exact bD this ah
 have z:Hid (bP n l=none):=aGc hm;have ab:(((aK 44 l).length:Int)==(n:Int))=false:=by rw[beq_eq_false_iff_ne];omega
 generalize (aK 44 l).length=m at*;clear hm;go_wp2;exact bodyPost_ret (v:= .tuple #[((),()),.bool false]) (by simp[results,results111,go_sem, *]) rfl <| xL z.out (X1.out.trans (by exact .refl _))
theorem aB5 {w1 wr w':World}{g n b:Nat}{t:TypeId}{cs:Array Value}{v:Value}{xs:List Value}{e:TypeId}{sz:Nat}(X:Ext w1 wr)(B:Blk wr g t cs)(ht:e≠t)(O:wr.ownsRow b e sz v n xs)(hb:w1.heap.size≤b)(a:wr.grownBy w' v.ownBlock):
  Ext w1 w'∧Blk w' g t cs:=
 ⟨X.grown a (fun q hq=>aTb hb (O.lt q hq).1),B.grown a (fun h=>iE O B ht h.symm)⟩
theorem aB4 {wr w':World}{n b:Nat}{v:Value}{xs:List Value}{e:TypeId}{sz:Nat}(O:wr.ownsRow b e sz v n xs)(a:wr.grownBy w' v.ownBlock){b2 s2 n2:Nat}{v2:Value}{c:List Value}{e2:TypeId}(h2:wr.ownsRow b2 e2 s2 v2 n2 c)(ne:e2≠e):w'.ownsRow b2 e2 s2 v2 n2 c:=
 h2.kept a (aOp h2 O ne)
theorem aQa (c:UInt8): ∀l:List UInt8,((aK c l).map (fun p=>p.length+1)).sum=l.length+1:=by
 intro l;induction l with
 |nil=>rfl
 |cons x xs ih=>
  unfold aK;split
  ·simp[ih];omega
  cases hq:aK c xs with
  |nil=>exact absurd hq (eN c xs)
  |cons p ps=>rw[hq]at ih;simp at ih⊢;omega
theorem aN0 (rows:List (List UInt8)):(dS (rows.map (aK 44))).length≤(rows.map (fun p=>p.length+1)).sum:=by
 induction rows with
 |nil=>simp[dS]
 |cons r rs ih=>have:=(eC 44 r).2;simp only[dS,aUn,List.flatten_cons,aTu,aTa,aTk,List.sum_cons]at ih⊢;omega
theorem aNg (rows:List (List UInt8))(k:Nat):((rows.take k).map (fun p=>p.length+1)).sum≤(rows.map (fun p=>p.length+1)).sum:=by
 conv=>rhs;rw[←List.take_append_drop k rows,aTu,List.sum_append]
 omega
theorem aQc (l:List UInt8)(k:Nat):(dS (cN (aK 47 l) k)).length≤l.length+1:=by have h1:=aN0 ((aK 47 l).take k);have h2:=aNg (aK 47 l) k;have h3:=aQa 47 l;unfold cN;omega
theorem aDn (l:List UInt8)(w:World)(hs:l.length≤1048576):U 95 #[str l] w (pA (dA l) w):=by
 have HS:Hid (∀q:List UInt8,q.length≤1048576→ ∀(c:UInt8) (ci:Int),ci=(c.toNat:Int)→ ∀w,U 55 #[str q,.int .u8 ci] w fun e w'=> ∃v,e= .returned v∧w'.ownsRow w qC 1 v (aK c q).length (eQ (aK c q))∧Ext w w'):=
  fun q hq c ci hc w=>lQ ⟨q.toArray⟩ c ci hc w (by simp only[ByteArray.size,List.size_toArray];omega)
 have h:=eC 47 l;have HL:Hid (∀p∈aK 47 l,p.length≤1048576):=fun p hp=>aTb (h.1 p hp) hs
 have HR:Hid (∀(q:List UInt8) (x:Int),q.length≤1048576→(bH 4 q).getD (-1)=x→ ∀w,U 57 #[str q] w fun e w'=>e= .returned (I x)∧w=w'):=by intro q x hq hx w;subst hx;exact nV q (by unfold maxLen;omega) w
 have au:Hid (∀k,(dS (cN (aK 47 l) k)).length≤1048577):=fun k=>by have:=aQc l k;omega
 have ba:=h.2;have az:0<(aK 47 l).length:=List.length_pos_iff.2 (eN 47 l);clear h;go_enter func95,ntmps95;go_wp2_with fail;refine(HS l hs 47 _ rfl _).mono ?_;rintro e w1 ⟨v,rfl,ad,h1⟩;have o:=xQ (show w1.ownsRow (w.heap.size+1) qC 1 v (aK 47 l).length (eQ (aK 47 l)) by simpa using ad);have ay:Ext w w1:=by exact .trans (.alloc (.refl _) _) h1
 have f:Hid (Blk w1 w mM Z3):=(Blk.new w _ _).ext h1;have bn:(w:Nat)<w1:=f.out.lt;have ah:=xQ ay;clear ad h1 ay;obtain⟨gr,cr,rfl⟩:=aTc o.out az;generalize ax:(aK 47 l).length=R at*;have ag:=xQ ax;clear ax;have bl:R≤4294967281:=by omega
 go_wp2
 go_loopw [6] (fun i wr=> ∃(k n:Nat) (p:OA) (cap:Nat),k≤R∧i=I k∧n=(dS (cN (aK 47 l) k)).length∧Ext w1 wr∧Blk wr w1 mM #[(lL (cN (aK 47 l) k):Int),R,.slice p n cap]∧
  wr.ownsRow (w1.heap.size+1) TI 1 (.slice p n cap) n (ivs (dS (cN (aK 47 l) k)))) (fun i _=>R-(intOf i).toNat)
 case atStart=>refine⟨0,0,none,0,aT8 _,rfl,rfl,by exact .alloc (.refl _) _,?_,aTl _ _ _ _⟩;have:=Blk.new w1 mM #[(),R,((),())];simpa[cN,lL]using this
 case round=>
  obtain⟨k,n,p,cap,hk,rfl,hn,ab,hB,hO⟩:=hrel;have HB:=xQ hB;have HO:=xQ hO;have HN:=xQ hn;clear hB hO hn;by_cases hlt:k<R
  ·obtain⟨q,hq⟩: ∃q,(aK 47 l)[k]? =some q:=⟨_,aT3 (by rw[ag.out];exact hlt)⟩
   have HQ:=xQ hq;have a0:q.length≤1048576:=HL q (aT4 hq);have e1:wr.cell? ⟨gr,k,none⟩=some (str q):=aW (aP o.out ab) k hlt q hq;clear hq;have i1:(0:Int)≤(k:Int):=by omega
   have i2:(k:Int)<(R:Int):=by omega
   have bh:(w1:Nat)<wr:=HB.out.lt;go_wp2_with fail;refine(HS q a0 44 _ rfl _).mono ?_;rintro e w2 ⟨v2,rfl,r,h2⟩;clear e1;have bb:=(eC 44 q).2;have an:0<(aK 44 q).length:=List.length_pos_iff.2 (eN 44 q);have XM:=xQ (ab.trans h2);have BM:=xQ (HB.out.ext h2);have OM:=xQ (aP HO h2);obtain⟨bW,OW⟩: ∃bW,Hid (w2.ownsRow bW qC 1 v2 (aK 44 q).length (eQ (aK 44 q))):=⟨_,r⟩
   have bj:(wr:Nat)≤w2:=h2.sz;clear r h2;obtain⟨g2,c2,rfl⟩:=aTc OW an;have a3:Hid (∀c∈aK 44 q,c.length≤1048576):=fun c hc=>aTb ((eC 44 q).1 c hc) a0
   generalize hm:(aK 44 q).length=m at*;have HM:=hm;clear hm;obtain⟨b0,s,b1,t,b2,y⟩:=BM.out.trif;go_wp2;clear b0 b1 b2 s t y
   go_loopw [8] (fun i wz=> ∃(j n:Nat) (p:OA) (cap:Nat),j≤m∧i=I j∧n=(dS (cN (aK 47 l) k)++((aK 44 q).take j).map gY).length∧Ext w1 wz∧Blk wz w1 mM #[m,R,.slice p n cap]∧
    wz.ownsRow (w1.heap.size+1) TI 1 (.slice p n cap) n (ivs (dS (cN (aK 47 l) k)++((aK 44 q).take j).map gY))∧wz.ownsRow bW qC 1 (.slice (some ⟨g2,0,none⟩) m c2) m (eQ (aK 44 q))) (fun i _=>m-(intOf i).toNat)
   case atStart=>
    refine⟨0,n,p,cap,aT8 _,rfl,by simpa using HN.out,XM.out.setCell (aT2 _) _,?_,?_,iM BM OW.out (by decide)⟩
    ·have:=BM.out.set 0 (I m);simpa using this
    have:=iM (i:=0) (u:=I m) BM OM.out (by decide);simpa using this
   case round=>
    clear HN HO HB XM BM OM OW n p cap;obtain⟨j,n,p,cap,hj,rfl,hn,av,hB,hO,hW⟩:=hrel;have XZ:=xQ av;have BZ:=xQ hB;have OZ:=xQ hO;have aj:=xQ hW;have af:=xQ hn;have bk:(w1:Nat)<wr:=hB.lt;have bi:n≤1048577:=by have h3:=au (k+1);rw[fV HQ.out,lC,aTa,aTk]at h3;rw[hn,aTa,aTk,aTq];omega
    clear av hB hO hW hn;by_cases hlt2:j<m
    ·obtain⟨c,hc⟩: ∃c,(aK 44 q)[j]? =some c:=⟨_,aT3 (by rw[HM];exact hlt2)⟩
     have HC:=xQ hc;have a9:c.length≤1048576:=a3 c (aT4 hc);have e2:wr.cell? ⟨g2,j,none⟩=some (str c):=aW aj j hlt2 c hc;clear hc;have i3:(0:Int)≤(j:Int):=by omega
     have i4:(j:Int)<(m:Int):=by omega
     obtain⟨b0,s,b1,t,b2,y⟩:=BZ.out.trif;by_cases hd:c= [46]
     ·have al:(c== [46])=true:=by simp[hd]
      have ae:Hid (gY c=0):=by show _=_;rw[hd];rfl
      clear hd;go_wp2_with (at_builtin;refine cW gJ rfl _ _ rfl (w1.heap.size+1) (.slice p n cap) n _ rfl (OZ.out.alloc _) _ _ (0) _ rfl (by simp) (by omega) (by simp;omega) ?_;intro p2 a w3 d b;obtain⟨X3,B3⟩:=aFf XZ BZ.out (by decide) OZ (by omega) b;have g:=aFe OZ b aj (by decide);clear b b0 b1 b2 s t y e2;(have b0:w3.cell? ⟨w1,0,none⟩=some (I m):=B3.cell 0);(have b1:w3.cell? ⟨w1,1,none⟩=some (I R):=B3.cell 1);(have b2:w3.cell? ⟨w1,2,none⟩=some (.slice p n cap):=B3.cell 2);(have s:w3.frozen? ⟨w1,0,none⟩=false:=B3.frozen 0);(have t:w3.frozen? ⟨w1,1,none⟩=false:=B3.frozen 1);(have y:w3.frozen? ⟨w1,2,none⟩=false:=B3.frozen 2);have bg:(w1:Nat)<w3:=B3.lt);have B4:=xQ (show Blk (w3.setCell ⟨w1,2,none⟩ (.slice p2 (n+1) a)) w1 mM #[m,R,.slice p2 (n+1) a] by have:=B3.set 2 (.slice p2 (n+1) a);simpa using this);have O4:Hid ((w3.setCell ⟨w1,2,none⟩ (.slice p2 (n+1) a)).ownsRow (w1.heap.size+1) TI 1 (.slice p2 (n+1) a) (n+1) (ivs (dS (cN (aK 47 l) k)++((aK 44 q).take (j+1)).map gY))):=by have:=iM (i:=2) (u:= .slice p2 (n+1) a) B3 d (by decide);rw[show ivs (dS (cN (aK 47 l) k)++((aK 44 q).take j).map gY++ [0])=ivs (dS (cN (aK 47 l) k)++((aK 44 q).take (j+1)).map gY) by rw[aZ HC.out,aTu];simp[ae.out,ivs]]at this;exact this
      have ai:=xQ (iM (i:=2) (u:= .slice p2 (n+1) a) B3 g (by decide));have X4:Ext w1 (w3.setCell ⟨w1,2,none⟩ (.slice p2 (n+1) a)):=X3.setCell (aT2 _) _;clear d g B3 X3;go_roundw
      case rel=>exact⟨j+1,n+1,p2,a,by omega,by go_num,by have bc:=HM;rw[af.out];simp only[aTa,aTk,aTq];omega,X4,B4.out,O4.out,ai.out⟩
      case measure=>simp[intOf];omega
     have al:(c== [46])=false:=by simp[hd]
     obtain⟨x,hx⟩: ∃x,(bH 4 c).getD (-1)=x:=⟨_,rfl⟩
     have ae:Hid (gY c=x):=by show _=_;unfold gY;rw[if_neg hd,hx]
     have a4:=xQ (HR c x a9 hx);clear hx hd;go_wp2_with fail;go_region_law (first|(refine fO _ gJ rfl (.tmp 45) (.tmp 51) rfl (w1.heap.size+1) (.slice p n cap) n _ (by simp[Act.eval,Act.put];done) (aP OZ (by exact .drew (.alloc (.refl _) _))) _ 1 1 [iv x] (by simp[Act.eval,Act.put];rfl) ((Sl.new _ #[x] _ 1 rfl (by decide)).ext (by exact .drew (.refl _))) (pO [x]) (by omega) (by simp;omega) ?_;intro p2 a w3 d b;obtain⟨X3,B3⟩:=aB5 (XZ.out.trans (by exact .drew (.alloc (.refl _) _))) (BZ.out.ext (by exact .drew (.alloc (.refl _) _))) (by decide) (aP OZ (by exact .drew (.alloc (.refl _) _))) (by omega) b;have g:=aB4 (aP OZ (by exact .drew (.alloc (.refl _) _))) b (aP aj (by exact .drew (.alloc (.refl _) _))) (by decide);clear b;(have c0:w3.cell? ⟨w1,0,none⟩=some (I m):=B3.cell 0);(have c1:w3.cell? ⟨w1,1,none⟩=some (I R):=B3.cell 1);(have c2:w3.cell? ⟨w1,2,none⟩=some (.slice p n cap):=B3.cell 2);(have a5:w3.frozen? ⟨w1,0,none⟩=false:=B3.frozen 0);(have a6:w3.frozen? ⟨w1,1,none⟩=false:=B3.frozen 1);(have a7:w3.frozen? ⟨w1,2,none⟩=false:=B3.frozen 2);have bg:(w1:Nat)<w3:=B3.lt)|(go_simp;go_at_call 57;refine(a4 _).mono ?_;rintro e w2 ⟨rfl,rfl⟩))
     all_goals
      clear c0 c1 c2 a5 a6 a7;have B4:=xQ (show Blk (w3.setCell ⟨w1,2,none⟩ (.slice p2 (n+1) a)) w1 mM #[m,R,.slice p2 (n+1) a] by have:=B3.set 2 (.slice p2 (n+1) a);simpa using this);have O4:Hid ((w3.setCell ⟨w1,2,none⟩ (.slice p2 (n+1) a)).ownsRow (w1.heap.size+1) TI 1 (.slice p2 (n+1) a) (n+1) (ivs (dS (cN (aK 47 l) k)++((aK 44 q).take (j+1)).map gY))):=by have:=iM (i:=2) (u:= .slice p2 (n+1) a) B3 d (by decide);rw[show ivs (dS (cN (aK 47 l) k)++((aK 44 q).take j).map gY)++ [iv x]=ivs (dS (cN (aK 47 l) k)++((aK 44 q).take (j+1)).map gY) by rw[aZ HC.out,aTu];simp[ae.out,ivs]]at this;exact this
      have ai:=xQ (iM (i:=2) (u:= .slice p2 (n+1) a) B3 g (by decide));have X4:Ext w1 (w3.setCell ⟨w1,2,none⟩ (.slice p2 (n+1) a)):=X3.setCell (aT2 _) _;clear d g B3 X3;go_wp2;go_roundw
      case rel=>exact⟨j+1,n+1,p2,a,by omega,by go_num,by have bc:=HM;rw[af.out];simp only[aTa,aTk,aTq];omega,X4,B4.out,O4.out,ai.out⟩
      case measure=>simp[intOf];omega
    obtain rfl:j=m:=by omega
    have HT:Hid ((aK 44 q).take j=aK 44 q):=aT7 (by rw[HM];exact aT2 _);go_wp2;go_roundw
    case rel=>
     refine⟨k+1,n,p,cap,by omega,by go_num,?_,XZ.out,?_,?_⟩
     ·rw[fV HQ.out,lC,af.out,HT.out]
     ·rw[fV HQ.out,xG,HM];exact BZ.out
     rw[fV HQ.out,lC];have:=OZ.out;rw[HT.out]at this;exact this
    case measure=>simp[intOf];omega
  obtain rfl:k=R:=by omega
  have a8:Hid (cN (aK 47 l) k=jJ l):=xF l (by rw[ag.out];exact aT2 _);have ak:Hid (dQ l=(lL (cN (aK 47 l) k),(k:Int),dS (cN (aK 47 l) k))):=by show _=_;unfold dQ;rw[a8.out,ag.out];rfl
  clear au;generalize bd:lL (cN (aK 47 l) k)=wd at*;generalize be:dS (cN (aK 47 l) k)=xs at*;clear bd be;have bh:(w1:Nat)<wr:=HB.out.lt;obtain⟨b0,b1,b2⟩:=HB.out.tri;have HV:=xQ (fun w' (hx:Ext wr w')=>iC wd k p n cap xs w' ((Sl.own HO.out).ext hx));cases hok:aO wd k xs with
  |false=>
   have am:Hid (dA l=none):=by show _=_;rw[jF,ak.out];simp[hok]
   rw[hok]at HV;clear hok;go_wp2_with fail;refine Ω (HV _ (by exact .refl _)) fun w2 h2=>?_
   clear b0 b1 b2;have XF:=xQ (show Ext w1 w2 by exact .trans ab h2);clear h2;obtain⟨z0,ap,z1,aq,z2,ar⟩:=(f.out.ext XF.out).trif;have bf:Ext w w2:=ah.out.trans XF.out;have a2:(w:Nat)<w2:=(f.out.ext XF.out).lt;go_wp2;exact bodyPost_ret (v:= .tuple #[aH 0 0 none 0 0,.bool false]) (by simp[results,results95,go_sem, *]) rfl (iV am.out xE)
  |true=>
   rw[hok]at HV;go_wp2_with fail;refine Ω (HV _ (by exact .refl _)) fun w2 h2=>?_
   clear b0 b1 b2;have z:Ext wr w2:=by exact h2
   have B2:=xQ (HB.out.ext z);have O2:=xQ (aP HO z);have X2:=xQ (show Ext w1 w2 by exact .trans ab z);have bo:(w1:Nat)<w2:=B2.out.lt;clear h2 z;have HT:=xQ (fun w' (hx:Ext w2 w')=>uN wd k p n cap xs w' ((Sl.own O2.out).ext hx));obtain⟨b0,b1,b2⟩:=B2.out.tri;go_wp2_with fail;refine Ω (HT _ (by exact .refl _)) fun w3 h3=>?_
   clear b0 b1 b2;have aa:Ext w2 w3:=by exact h3
   have B3:=xQ (B2.out.ext aa);have O3:=xQ (aP O2 aa);have X3:=xQ (show Ext w1 w3 by have:=X2.out;exact .trans this aa);clear h3 aa;by_cases ht:cL wd k xs=l
   ·have al:(cL wd k xs==l)=true:=by simp[ht]
    have a1:Hid (dA l=some (wd,(k:Int),xs)):=by show _=_;rw[jF,ak.out];simp[hok,ht]
    clear ht hok;obtain⟨b0,b1,b2⟩:=B3.out.tri;obtain⟨z0,ap,z1,aq,z2,ar⟩:=(f.out.ext X3.out).trif;have a2:(w:Nat)<w3:=(f.out.ext X3.out).lt;have bm: ¬w.heap.size=w1.heap.size:=by omega
    go_wp2;generalize ao:World.setCell _ _ _=w5;have aw:ExtR w w3 w5:=by rw[←ao];exact(((ExtR.refl _ w3).setCell (p:=⟨w,0,none⟩) (.inl rfl) _).setCell (p:=⟨w,1,none⟩) (.inl rfl) _).setCell (p:=⟨w,2,none⟩) (.inl rfl) _
    have Y5:=(((f.out.ext X3.out).set 0 (I wd)).set 1 (I k)).set 2 (.slice p n cap);simp only[Z3,aTh,aTe,aTf]at Y5;rw[ao]at Y5;have O5:w5.ownsRow w TI 1 (.slice p n cap) n (ivs xs):=bD (O3.out.kept aw (.inr (iE O3 (f.out.ext X3.out) (by decide)))) (by omega);have X5:Ext w w5:=ExtR.new (ah.out.trans X3.out) aw (aT2 _);clear ao z0 z1 z2 ap aq ar b0 b1 b2;obtain⟨y0,y1,y2⟩:=Y5.tri;exact bodyPost_ret (v:= .tuple #[aH wd k p n cap,.bool true]) (by simp[results,results95,go_sem, *]) rfl (uT a1.out HN O5 X5)
   have al:(cL wd k xs==l)=false:=by simp[ht]
   have am:Hid (dA l=none):=by show _=_;rw[jF,ak.out];simp[ht]
   clear ht hok;obtain⟨z0,ap,z1,aq,z2,ar⟩:=(f.out.ext X3.out).trif;have bf:Ext w w3:=ah.out.trans X3.out;have a2:(w:Nat)<w3:=(f.out.ext X3.out).lt;go_wp2;exact bodyPost_ret (v:= .tuple #[aH 0 0 none 0 0,.bool false]) (by simp[results,results95,go_sem, *]) rfl (iV am.out xE)
end Go.Proofs.YtbgkcehffiogcabGreatDoor
