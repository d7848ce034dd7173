/-
  Texts of this proof, packed (@packed).
-/
import Derived.Test.YthfmmibomhhmpaaGreatDoorY4
import Derived.Test.YthfmmibomhhmpaaGreatDoorY11
namespace Go.Proofs.YthfmmibomhhmpaaGreatDoor
open Go.RowKit
set_option linter.unusedSimpArgs false
set_option linter.unusedVariables false
set_option maxHeartbeats 8000000
set_option maxRecDepth 100000
section
open Go.Proofs.Tryz
theorem aGq (aA:Int)(n u:Nat):sD aA n (-1) u=aU aA n u:=by unfold sD;rw[List.filter_eq_self];intro v hv;first|(simp;done)|(simp;omega)
theorem aN6 (aA aB:Int)(p:OA)(n g u:Nat)(R:Int)(w:World)(hg:Hid ((aA,n)∈jW))(bw:4≤n)(hn:n≤12)(hu:u<n)(hR:Hid (R=aZ aA u 0))(bu:0≤R)
  (HP:xC 151 #[aH aA aB p n g,u,()] w fun w' e w''=>e= .returned (I R)∧Ext w' w'')
  (HF:xC 207 #[aH aA aB p n g,(),(-1:Int)] w fun w' e w''=> ∃D,(D.length=n∧ ∀v,v<n→D.getD v 0=aZ aA v 0)∧bC D w' e w'')
  (HC:Hid (∀(k:Nat),k<n→ ∀w',Ext w w'→U 208 #[aH aA aB p n g,k] w' (bC (bK (aU aA n k)) w'))):
  U 183 #[aH aA aB p n g,u,(),(-1:Int)] w (bC (bK (dK aA n 12 u)) w):=by
 have a1:=aVt u;have a2:=aVu u n;have a3:((-1:Int)==(u:Int))=false:=by first|(simp;done)|(simp;omega)
 have a4:decide (R<0)=false:=by first|(simp;done)|(simp;omega)
 go_enter func183,ntmps183;go_wp2_with fail;refine Z (HP _ (by exact .alloc (.alloc (.refl _) _) _)) fun w1 ah=>?_
 have B1:=xQ (((Blk.new w TH3 #[aA,aB,.slice p n g]).alloc (.cells #[] TI)).ext ah);have ho:((w.alloc (.cells #[aA,aB,.slice p n g] TH3)).alloc (.cells #[] TI)).ownsRow (w.heap.size+1) TI 1 (.slice (some ⟨(w.alloc (.cells #[aA,aB,.slice p n g] TH3)).heap.size,0,none⟩) 0 0) 0 []:=aU5 _ #[] 0 (by simp) (by simp[maxLen]) rfl;have O1:=xQ (aW ho ah);have X1:Ext w w1:=(((Ext.refl _).alloc _).alloc _).trans ah;have s1:w.heap.size+1<w1.heap.size:=by have:=ah.sz;simp at this;omega
 clear ho ah;obtain⟨b0,b1,b2⟩:=B1.out.cells3;have n1:=aVw ((n:Int)-1);have t1:decide ((-1:Int)≤ -1∧(-1:Int)≤(n:Int)-1)=true:=by first|(simp;done)|(simp;omega)
 have HI:Hid (∀w,U 27 #[(-1:Int),(-1:Int),((n:Int)-1:Int)] w fun e w'=>e= .returned (.bool true)∧w=w'):=fun w=>by have:=tV (-1) (-1) ((n:Int)-1) w;rwa[t1]at this
 clear t1;go_wp2_with fail;refine(HI _).mono ?_;rintro e w2 ⟨rfl,rfl⟩;go_wp2_with fail;clear b0 b1 b2;refine(HF _ (by exact X1)).mono ?_;rintro e w2 ⟨D,⟨au,a8⟩,q2,c2,rfl,o2,an⟩;rw[au]at o2⊢;have HD:=xQ au;have HV:=xQ a8;have X2:=xQ (X1.trans an);have O2:=xQ (aW O1 an);have ar:=xQ (show w2.ownsRow (w.heap.size+1) TI 1 (.slice (some ⟨w.heap.size+1,0,none⟩) 0 0) 0 (ivs []) by simpa using O2.out);have B2:=xQ (B1.out.ext an);clear au a8 an O1 X1;have s2:=B2.out.lt;obtain⟨gF,rfl,bq,br⟩:=fK o2 (by omega);have F2:=xQ (bM o2 (Nat.le_of_lt s1));clear o2 B1;have dU:D[u]? =some R:=by have:=(dR (D:=D) (v:=u) (by rw[HD.out];exact hu)).1;rw[this,HV u hu,hR.out]
 have cU:w2.cell? ⟨gF,u,none⟩=some (I R):=by have:=F2.out.cellAt u (by omega);rw[this];simp[ivs,dU]
 clear dU;obtain⟨wA,bm⟩: ∃wA:World,wA=w2:=⟨_,rfl⟩
 have bj:w.heap.size+1≤w2.heap.size:=s2;go_wp2_with (at_builtin;go_loud (refine iK rfl _ _ rfl (w.heap.size+1) _ _ [] rfl (ar.out.alloc _) _ _ (u:Int) _ rfl (by simp) (by omega) (aTg bj (by simp)) ?_;intro p' a w3 c ad m;have r:(Value.slice p' (0+1) a).ownBlock=(Value.slice (some ⟨w.heap.size+1,0,none⟩) 0 0).ownBlock∨(Value.slice p' (0+1) a).ownBlock=some (w2.alloc (.cells #[u] TI)).heap.size:=m;have b:World.grownBy _ w3 (Value.slice (some ⟨w.heap.size+1,0,none⟩) 0 0).ownBlock:=ad;have X3:=xQ (Ext.own (X2.out.alloc _) (ar.out.alloc _) b (by omega));have B3:=xQ ((B2.out.alloc _).grown b (by first|(simp[Value.ownBlock];done)|(simp[Value.ownBlock];omega)));have F3:=xQ ((F2.out.alloc _).kept b (.inr (by first|(simp[Value.ownBlock];done)|(simp[Value.ownBlock];omega))));have O3:=xQ c;have z3:=b.size;have A3:=xQ r;clear c ad r b m));have a7:Hid ((Value.slice p' (0+1) a).ownBlock≠some gF):=by
  show _≠_;rcases A3.out with h|h
  ·rw[h];simp[Value.ownBlock];(try omega)
  rw[h];simp;omega
 clear A3 X2 B2 F2 O2 ar bm wA z3 cU;have aw:=xQ (cA hg.out hu);go_wp2;go_loopw [1,9] (fun v o wr=> ∃(x f:Nat) (pre:List Nat) (q:OA) (l lc:Nat),v=I x∧x<n∧aZ aA x 0≤f∧pre++dK aA n f x=dK aA n 12 u∧o= .slice q l lc∧l=pre.length+1∧wr.ownsRow (w.heap.size+1) TI 1 (.slice q l lc) l (ivs (bK (pre++ [x])))∧wr.ownsRow (w.heap.size+1) TI 1 (.slice (some ⟨gF,0,none⟩) n c2) n (ivs D)∧(Value.slice q l lc).ownBlock≠some gF∧Ext w wr∧Blk wr w TH3 #[aA,aB,.slice p n g]∧w3.heap.size≤wr.heap.size) (fun v _ _=>(aZ aA (intOf v) 0).toNat)
 case atStart=>exact⟨u,12,[],p',1,a,rfl,hu,by have:=aw.out.2.1;omega,rfl,rfl,rfl,by simpa[bK]using O3.out,F3.out,a7.out,X3.out,B3.out,aT5 _⟩
 case round=>
  clear O3 F3 a7 X3 B3;obtain⟨x,f,pre,q,l,lc,rfl,hx,hf,ag,rfl,hl,hO,hF,bd,al,hB,bx⟩:=hrel;have aq:=xQ hO;have a0:=xQ hF;have a6:=xQ bd;have HB:=xQ hB;have HW:=xQ ag;have ap:=xQ (cA hg.out hx);have az:=xQ hf;have bo:l≤12:=by have h1:=congrArg List.length ag;have h2:=nZ hg.out f x hx hf;have h3:=nZ hg.out 12 u hu (by have:=aw.out.2.1;omega);have h4:=aw.out.2.1;have h5:=ap.out.1;rw[aTc]at h1;omega
  have bz:=HB.out.lt;have a5:=xQ hl;clear hO hF bd hB ag hf hl;by_cases h0:x=0
  ·have t0:((x:Int)!=0)=false:=by simp[h0]
   have ao:Hid (pre++ [x]=dK aA n 12 u):=by show _=_;rw[←HW.out];subst h0;cases f<;>simp[dK]
   clear h0;go_wp2;go_ret;exact dO (by rw[←ao.out];have:=a5.out;simp[bK];omega) (by rw[←ao.out];exact bM aq (Nat.le_succ _)) al
  have t0:((x:Int)!=0)=true:=by simp[h0]
  obtain⟨J,bi,am,av⟩:=aJh hg.out hx h0;obtain⟨e1,e2,e3⟩:=ap.out.2.2.2.1 h0;have bn:=xQ h0;obtain⟨y,hy⟩: ∃y,y=mO aA n x:=⟨_,rfl⟩
  rw[←hy]at am e1 e2 e3;have HY:=xQ hy;clear hy h0;obtain⟨nb,ae⟩: ∃nb,nb=aU aA n x:=⟨_,rfl⟩
  rw[←ae]at bi am av;have ay:Hid (∀w',Ext w w'→U 208 #[aH aA aB p n g,x] w' (bC (bK nb) w')):=by rw[ae];exact HC x hx
  have bg:=xQ ae;have bk:nb.length≤12:=by rw[ae];exact aTg (aUb _ _) (by simp;omega)
  have a9:=xQ am;have ba:=xQ av;have ak:=xQ e3;clear ae am av e2 e3;have bc:(bK nb).length=nb.length:=by simp[bK]
  obtain⟨b0,b1,b2⟩:=HB.out.cells3;go_wp2_with fail;clear b0 b1 b2;refine(ay _ al).mono ?_;rintro e w5 ⟨q5,c5,rfl,o5,ai⟩;rw[bc]at o5⊢;obtain⟨gN,rfl,bs,bt⟩:=fK o5 (by omega);have O5:=xQ (aW aq ai);have F5:=xQ (aW a0 ai);have B5:=xQ (HB.out.ext ai);have X5:=xQ (al.trans ai);have N5:=xQ o5;clear aq a0 HB al o5 ai ay;go_wp2;go_loopw [12] (fun i wz=> ∃j:Nat,j≤J∧i=I j∧Ext w5 wz) (fun i _=>J-(intOf i).toNat)
  case atStart=>exact⟨0,aTd _,rfl,Ext.refl _⟩
  case round=>
   obtain⟨j,hj,rfl,hZ⟩:=hrel;obtain⟨v,hv⟩: ∃v,nb[j]? =some v:=⟨_,aT6 (by omega)⟩
   have af:v<n:=(bZ.1 (by rw[←bg.out];exact aT7 hv:v∈aU aA n x)).1;have aj:=xQ hv;have aa:=(dR (D:=D) (v:=v) (by rw[HD.out];exact af)).1;have ab:=(dR (D:=D) (v:=x) (by rw[HD.out];exact hx)).1;rw[HV v af]at aa;rw[HV x hx]at ab;obtain⟨dv,s⟩: ∃d,d=aZ aA v 0:=⟨_,rfl⟩
   obtain⟨dx,z⟩: ∃d,d=aZ aA x 0:=⟨_,rfl⟩
   have gv:=cA hg.out af;have gx:=ap.out;rw[←s]at aa gv;rw[←z]at ab gx;have m1:=aVt j;have m2:(j:Int)<(nb.length:Int):=by omega
   have m3:=aVt v;have m4:=aVu v n;have m5:=aVt x;have m6:=aVu x n;have m7:((v:Int)== -1)=false:=by first|(simp;done)|(simp;omega)
   have w7:=aVw (dx-1);have FZ:=xQ (aW F5 hZ);have NZ:=xQ (aW N5 hZ);have cn:wr.cell? ⟨gN,j,none⟩=some (I v):=by have:=NZ.out.cellAt j (by omega);rw[this];simp[ivs,bK,aj.out]
   have cf:wr.cell? ⟨gF,v,none⟩=some (I dv):=by have:=FZ.out.cellAt v (by omega);rw[this];simp only[ivs,aTo,aa,aU4]
   have cx:wr.cell? ⟨gF,x,none⟩=some (I dx):=by have:=FZ.out.cellAt x (by omega);rw[this];simp only[ivs,aTo,ab,aU4]
   by_cases hjJ:j<J
   ·have be:(dv !=dx-1)=true:=by
     have:=ba.out j v hjJ aj.out;rw[←s,←z]at this;simpa using this
    clear aa ab s z gv gx;go_wp2;go_quiet (fail);go_wp2;go_roundw
    case rel=>exact⟨j+1,by omega,by go_num,by exact .drewN hZ _⟩
    case measure=>simp[intOf];omega
   obtain rfl:j=J:=by omega
   have bl:v=y:=by have h1:=aj.out;rw[a9.out]at h1;injection h1 with h1;exact h1.symm
   subst bl;have be:(dv !=dx-1)=false:=by have:=ak.out;rw[←s,←z]at this;simp[this]
   have bb:=xQ (show 1≤aZ aA (x:Int) 0 by have h1:=(cA hg.out af).1;have h2:=ak.out;omega);clear aa ab s gv;go_wp2;go_quiet (fail);generalize bf:World.drewN _ _=wq;have t:Ext w5 wq:=by rw[←bf];exact hZ.drewN _
   clear bf cn cf cx FZ NZ hZ;have OQ:=xQ (aW O5 t);have FQ:=xQ (aW F5 t);have NQ:=xQ (aW N5 t);have BQ:=xQ (B5.out.ext t);have XQ:=xQ (X5.out.trans t);have zq:=t.sz;clear O5 F5 N5 B5 X5 t;have cn:wq.cell? ⟨gN,j,none⟩=some (I v):=by have:=NQ.out.cellAt j (by omega);rw[this];simp[ivs,bK,aj.out]
   have lO:w.heap.size+1≤wq.heap.size:=by omega
   have bp:=(FQ.out.lt gF rfl).2;go_wp2_with (at_builtin;go_loud (refine iK rfl _ _ rfl (w.heap.size+1) (.slice q l lc) l (bK (pre++ [x])) rfl (OQ.out.alloc _) _ _ (v:Int) _ rfl (by simp) (by omega) (aTg lO (by simp)) ?_;intro p' a w9 c ad m;have r:(Value.slice p' (l+1) a).ownBlock=(Value.slice q l lc).ownBlock∨(Value.slice p' (l+1) a).ownBlock=some (wq.alloc (.cells #[v] TI)).heap.size:=m;have b:World.grownBy _ w9 (Value.slice q l lc).ownBlock:=ad;have X9:=xQ (Ext.own (XQ.out.alloc _) (OQ.out.alloc _) b (by omega));have B9:=xQ (rW OQ b BQ.out);have F9:=xQ ((FQ.out.alloc _).kept b (.inr (Ne.symm a6.out)));have O9:=xQ c;have z9:=b.size;have A9:=xQ r;clear c ad r b m));have bh:Hid ((Value.slice p' (l+1) a).ownBlock≠some gF):=by
    show _≠_;rcases A9.out with h|h
    ·rw[h];exact a6.out
    rw[h];simp;omega
   have b3:(wq:Nat)≤w9:=aTg (by simp) z9;clear z9 cn;have bv:0<f:=by have:=az.out;have:=bb.out;omega
   obtain⟨f',rfl⟩: ∃f',f=f'+1:=⟨f-1,by omega⟩
   have ax:Hid ((pre++ [x])++dK aA n f' v=dK aA n 12 u):=by
    show _=_;rw[←HW.out]
    conv=>rhs;rw[dK,if_neg bn.out,←HY.out]
    simp
   go_roundw
   case rel=>exact⟨v,f',pre++ [x],p',l+1,a,by go_num,af,by have:=ak.out;have:=az.out;omega,ax.out,rfl,by have:=a5.out;simp;omega,by have:=O9.out;simpa[bK]using this,F9.out,bh.out,X9.out,B9.out,by omega⟩
   case measure=>simp[intOf];have:=ak.out;have:=bb.out;omega
theorem aC8 (aA aB:Int)(p:OA)(n a u:Nat)(xs:List Int)(w:World)(hS:Sl w p n a 1 (ivs xs))(b:aN aA aB xs=true)(hu:u<n):
  U 183 #[aH aA aB p n a,u,(),(-1:Int)] w (bC (bK (dK aA n 12 u)) w):=by
 have hl:=hS.ilen;obtain⟨g1,g2,g3,g4,g5,g6,g7,g8,g9⟩:=bN b;have hg:=sV (n:=n) g1 g2 g3 g4 (by omega);refine aN6 aA aB p n a u (aZ aA u 0) w hg (by omega) (by omega) hu rfl (cA hg hu).1 (fun w' hx=> ?_) (fun w' hx=> ?_) (fun k hk w' hx=> ?_)
 ·have:=aCp aA aB u 0 p n a xs w' (hS.ext hx);rwa[dS,if_pos ⟨b,by omega,by omega⟩]at this
 ·refine(aLu aA aB p n a 0 (-1) xs w' (hS.ext hx) b (by omega)).mono ?_;rintro e w2 ⟨D,hD,hr⟩;exact⟨D,⟨hD.len,fun v hv=>aBz hg (aGq aA n) hD hv⟩,hr⟩
 have:=aHl aA aB k p n a xs w' (hS.ext hx) b (by omega) (by omega);rwa[mM]at this
end
def cO:List Int→Nat→List Nat→List Int×List Sl2
 |xs,_,[]=>(xs,[])
 |xs,a,b::l=>if xs.getD b 0=0 then cO xs b l else((cO ((xs.set a (xs.getD b 0)).set b 0) b l).1,((b:Int),(a:Int))::(cO ((xs.set a (xs.getD b 0)).set b 0) b l).2)
theorem sS {xs:List Int}{a b:Nat}{l:List Nat}(h:xs.getD b 0=0):cO xs a (b::l)=cO xs b l:=by rw[cO,if_pos h]
theorem qO {xs:List Int}{a b:Nat}{l:List Nat}(h: ¬xs.getD b 0=0):cO xs a (b::l)=((cO ((xs.set a (xs.getD b 0)).set b 0) b l).1,((b:Int),(a:Int))::(cO ((xs.set a (xs.getD b 0)).set b 0) b l).2):=by rw[cO,if_neg h]
def oO (aA:Int)(n:Nat):Nat→List Nat→Prop
 |_,[]=>True
 |a,b::l=>b∈aU aA n a∧oO aA n b l
theorem cY {aA aB:Int}{xs:List Int}(h:aN aA aB xs=true):iC aA aB xs.length=true:=by unfold aN at h;rw[aTf]at h;exact h.1
theorem qP {aA aB:Int}{xs:List Int}(h:aN aA aB xs=true)(b:Nat):0≤xs.getD b 0:=by
 unfold aN at h;rw[aTf]at h;have h1:=((eI _ _).1 h.2).1;rw[aTb];cases hx:xs[b]? with
 |none=>simp
 |some x=>exact(h1 x (aT7 hx)).1
theorem aG2 {aA aB:Int}{xs:List Int}{a b:Nat}(h:aN aA aB xs=true)(ha:a<xs.length)(h0:xs.getD a 0=0)(hb:b∈aU aA xs.length a):bH aA aB xs (b:Int) (a:Int)=decide (0<xs.getD b 0):=by
 obtain⟨h1,h2⟩:=bZ.1 hb;have h3:dS aA aB xs (b:Int) (a:Int)=1:=by unfold dS;rw[if_pos ⟨h,⟨by omega,by omega⟩,by omega,by omega⟩,aA1];exact h2
 unfold bH;rw[h3];simp only[aUz,h0];simp
theorem aDo {aA aB:Int}{xs:List Int}{a b:Nat}(h:aN aA aB xs=true)(ha:a<xs.length)(h0:xs.getD a 0=0)(hb:b∈aU aA xs.length a)(hx: ¬xs.getD b 0=0):bH aA aB xs (b:Int) (a:Int)=true∧bL aA aB xs (b:Int) (a:Int)=(xs.set a (xs.getD b 0)).set b 0:=by
 have h1:=aG2 h ha h0 hb;have h2:decide (0<xs.getD b 0)=true:=by have:=qP h b;simp only[decide_eq_true_eq];omega
 rw[h2]at h1;exact⟨h1,by unfold bL;rw[if_pos h1];simp only[aUz]⟩
theorem aPa {aA aB:Int}{xs:List Int}{a b:Nat}(h:aN aA aB xs=true)(ha:a<xs.length)(h0:xs.getD a 0=0)(hb:b∈aU aA xs.length a)(hx:xs.getD b 0=0):bH aA aB xs (b:Int) (a:Int)=false:=by rw[aG2 h ha h0 hb,hx];rfl
theorem vO {aA aB:Int}{xs:List Int}{a b:Nat}(h:aN aA aB xs=true)(ha:a<xs.length)(h0:xs.getD a 0=0)(hb:b∈aU aA xs.length a)(hx: ¬xs.getD b 0=0):
  aN aA aB ((xs.set a (xs.getD b 0)).set b 0)=true∧((xs.set a (xs.getD b 0)).set b 0).length=xs.length∧((xs.set a (xs.getD b 0)).set b 0).getD b 0=0:=by
 obtain⟨h1,h2⟩:=aDo h ha h0 hb hx;refine⟨by rw[←h2];exact jK _ _ h,by simp,?_⟩;have hl:=(bZ.1 hb).1;rw[aTb,aTh (by simp;exact hl)];rfl
theorem aAr {aA aB:Int}: ∀(l:List Nat) (xs:List Int) (a:Nat),aN aA aB xs=true→a<xs.length→xs.getD a 0=0→oO aA xs.length a l→
  bD aA aB xs (cO xs a l).2=((cO xs a l).1,(cO xs a l).2.length)∧aN aA aB (cO xs a l).1=true∧(cO xs a l).1.length=xs.length∧(cO xs a l).2.length≤l.length∧(cO xs a l).1.getD ((a::l).getLast (by simp)) 0=0:=by
 intro l;induction l with
 |nil=>intro xs a h ha h0 _;exact⟨rfl,h,rfl,aT5 _,by simpa[cO]using h0⟩
 |cons b l ih=>
  intro xs a h ha h0 hs;obtain⟨hb,d⟩:=hs;have c:=(bZ.1 hb).1;by_cases hx:xs.getD b 0=0
  ·rw[sS hx];obtain⟨i1,i2,i3,i4,i5⟩:=ih xs b h c hx d;exact⟨i1,i2,i3,by simp;omega,by simpa using i5⟩
  obtain⟨n1,n2,n3⟩:=vO h ha h0 hb hx;obtain⟨d1,d2⟩:=aDo h ha h0 hb hx;obtain⟨i1,i2,i3,i4,i5⟩:=ih _ b n1 (by rw[n2];exact c) n3 (by rw[n2];exact d);rw[qO hx];refine⟨?_,i2,by rw[i3,n2],by simp only[aUh];omega,by simpa using i5⟩;dsimp only;rw[eW d1,d2,i1];rfl
theorem uQ {aA:Int}{n:Nat}(h:(aA,n)∈jW): ∀(f u:Nat),u<n→oO aA n u (dK aA n f u).tail:=by
 intro f;induction f with
 |zero=>intro u _;exact trivial
 |succ f ih=>
  intro u hu;unfold dK;by_cases h0:u=0
  ·rw[if_pos h0];exact trivial
  rw[if_neg h0];obtain⟨h1,h2,_⟩:=(cA h hu).2.2.2.1 h0;have:=ih (mO aA n u) h1;have hh:=uR aA n f (mO aA n u);simp only[List.tail_cons];cases hw:dK aA n f (mO aA n u)with
  |nil=>rw[hw]at hh;simp at hh
  |cons x l=>rw[hw]at hh this;simp at hh;subst hh;exact⟨h2,this⟩
theorem xX (aA:Int)(n f u:Nat):dK aA n f u=u::(dK aA n f u).tail:=by
 have hh:=uR aA n f u;cases hw:dK aA n f u with
 |nil=>rw[hw]at hh;simp at hh
 |cons x l=>rw[hw]at hh;simp at hh;subst hh;rfl
theorem aMz {aA:Int}{n:Nat}(h:(aA,n)∈jW): ∀(f u:Nat),u<n→aZ aA u 0≤f→(dK aA n f u).getLast? =some 0:=by
 intro f;induction f with
 |zero=>intro u hu ha;have g:=cA h hu;have:u=0:=g.2.2.1.1 (by have:=g.1;simp at ha;omega);subst this;rfl
 |succ f ih=>
  intro u hu ha;unfold dK;by_cases h0:u=0
  ·rw[if_pos h0];simp[h0]
  rw[if_neg h0];obtain⟨h1,h2,h3⟩:=(cA h hu).2.2.2.1 h0;have:=ih (mO aA n u) h1 (by rw[h3];simp at ha;omega);rw[List.getLast?_cons,this];rfl
def bP (xs:List Int):List Nat:=(List.range xs.length).filter (dC xs)
theorem uG (xs:List Int):nJ xs=(bP xs).map (fun(k:Nat)=>(k:Int)):=by
 unfold nJ bP;generalize xs.length=k;induction k with
 |zero=>rfl
 |succ k ih=>rw[aUt,aU2,aUj,fZ,ih];congr 1;cases h:dC xs k<;>simp[h]
theorem lC {xs:List Int}{u:Nat}(h:u∈bP xs):u<xs.length∧xs.getD u 0=0:=by unfold bP at h;rw[aTs]at h;refine⟨by simpa using h.1,?_⟩;have h2:=h.2;unfold dC at h2;rw[aTb,eq_of_beq h2];rfl
def pA (aA:Int)(best:Option Nat)(u:Nat):Option Nat:=
 match best with
 |none=>some u
 |some v=>if aZ aA u 0<aZ aA v 0 then some u else some v
def dM (aA:Int)(l:List Nat):Option Nat:=l.foldl (pA aA) none
theorem aCz (aA:Int)(l:List Nat)(u:Nat):dM aA (l++ [u])=pA aA (dM aA l) u:=by simp[dM]
theorem lM (aA:Int)(l:List Nat):(dM aA l=none↔l= [])∧ ∀u,dM aA l=some u→u∈l:=by
 suffices h: ∀(l pre:List Nat) (b:Option Nat),(b=none↔pre= [])→(∀u,b=some u→u∈pre)→((l.foldl (pA aA) b=none↔pre++l= [])∧ ∀u,l.foldl (pA aA) b=some u→u∈pre++l)from by simpa[dM]using h l [] none (by simp) (by simp)
 intro l;induction l with
 |nil=>intro pre b h1 h2;simpa using⟨h1,h2⟩
 |cons x l ih=>
  intro pre b h1 h2
  have:=ih (pre++ [x]) (pA aA b x) (by
   unfold pA;cases b with
   |none=>simp
   |some v=>simp;split<;>simp) (by
   intro u hu;unfold pA at hu;cases b with
   |none=>simp at hu;simp[hu]
   |some v=>
    simp only at hu;split at hu
    ·injection hu with hu;simp[hu]
    ·injection hu with hu;subst hu;exact aU8 _ (h2 v rfl))
  simpa using this
def jA (aA:Int)(xs:List Int):Option (List Int×List Sl2):=(dM aA (bP xs)).map (fun u=>cO xs u (dK aA xs.length 12 u).tail)
def nA (aA aB:Int)(xs:List Int)(id:Int):Option (List Int×Nat):=
 match jA aA xs with
 |none=>none
 |some r=>if(dE aA aB r.1 id).2 then some ((dE aA aB r.1 id).1,r.2.length)else none
theorem lA {aA aB:Int}{xs:List Int}(h:aN aA aB xs=true):(aA,xs.length)∈jW:=by obtain⟨h1,h2,h3,h4,h5,h6,h7⟩:=cG (cY h);exact sV h1 h2 h3 h4 h7
theorem qX {aA aB:Int}{xs:List Int}(h:aN aA aB xs=true){r:List Int×List Sl2}(hr:jA aA xs=some r):
  bD aA aB xs r.2=(r.1,r.2.length)∧aN aA aB r.1=true∧r.1.length=xs.length∧r.2.length≤5∧r.1.getD 0 0=0:=by
 unfold jA at hr;cases hn:dM aA (bP xs)with
 |none=>rw[hn]at hr;simp at hr
 |some u=>
  rw[hn]at hr;simp at hr;subst hr;obtain⟨hu,h0⟩:=lC ((lM aA _).2 u hn);have hg:=lA h;have g:=cA hg hu;obtain⟨f1,f2,f3,f4,f5⟩:=aAr _ xs u h hu h0 (uQ hg 12 u hu);have hl:=nZ hg 12 u hu (by have:=g.2.1;omega);have hw:=aMz hg 12 u hu (by have:=g.2.1;omega);refine⟨f1,f2,f3,?_,?_⟩
  ·have:=g.2.1;rw[List.length_tail]at f4;omega
  have hc:=xX aA xs.length 12 u;rw[hc,List.getLast?_eq_some_getLast (by simp)]at hw;injection hw with hw;rw[hw]at f5;exact f5
section
open Go.Proofs.Tryz
theorem aKp (aA aB:Int)(p:OA)(n c:Nat)(b a m c2:Nat)(ws:List Nat)(w:World)(ai:4≤n)(hn:n≤12)(ah:0<m)(hm:m≤12)(j:Hid (ws.length=m))(hb:b<w.heap.size)
  (HS:Hid (∀(k x:Nat),ws[k]? =some x→w.cell? ⟨b,a+k,none⟩=some (I x))) (x0:Nat) (c0:w.cell? ⟨b,a,none⟩=some (I x0))
  (HA:Hid (∀(k x y:Nat),ws[k]? =some x→ws[k+1]? =some y→ ∀w',Ext w w'→U 151 #[aH aA aB p n c,x,y] w' (O (I 1) w')))
  (HV:xB 25 #[aH aA aB p n c] w true)
  (HI:Hid (∀w,U 27 #[x0,(),((n:Int)-1:Int)] w fun e w'=>e= .returned (.bool true)∧w=w')):
  U 184 #[aH aA aB p n c,.slice (some ⟨b,a,none⟩) m c2] w (O (.bool true) w):=by
 go_enter func184,ntmps184;go_wp2;go_loopw [5] (fun i wr=> ∃k:Nat,1≤k∧k≤m∧i=I k∧Ext w wr∧Blk wr w TH3 #[aA,aB,.slice p n c]) (fun i _=>m-(intOf i).toNat)
 case atStart=>exact⟨1,aT5 _,by omega,rfl,by exact .alloc (.refl _) _,Blk.new _ _ _⟩
 case round=>
  obtain⟨k,ag,hk,rfl,hE,hB⟩:=hrel;have HB:=xQ hB;clear hB;have o:b<wr:=aT4 hb hE.sz;by_cases hlt:k<m
  ·obtain⟨x,hx⟩: ∃x,ws[k-1]? =some x:=⟨_,aT6 (by rw[j.out];omega)⟩
   obtain⟨y,hy⟩: ∃y,ws[k]? =some y:=⟨_,aT6 (by rw[j.out];omega)⟩
   have HK:=xQ (HA (k-1) x y hx (by rw[show k-1+1=k by omega];exact hy));have ca:wr.cell? ⟨b,a+(k-1),none⟩=some (I x):=(hE.cells.1 _ _ hb).trans (HS (k-1) x hx);have cb:wr.cell? ⟨b,a+k,none⟩=some (I y):=(hE.cells.1 _ _ hb).trans (HS k y hy);clear hx hy c0;have i1:=aVt k;have i2:=aVu k m;have i3:(k:Int)-1<(m:Int):=by omega
   have i4:((k:Int)-1).toNat=k-1:=by omega
   have i5:(1:Int)≤(k:Int):=by omega
   go_wp2;refine rL (gl [gEq (.agg #[aA,aB,.slice p n c]),gEq (.slice (some ⟨b,a,none⟩) m c2),gEq (k:Int),gEq ((k:Int)-1:Int),gEq (.pointer (some ⟨b,a+(k-1),none⟩)),gEq (x:Int),gEq (.slice (some ⟨b,a,none⟩) m c2),gEq (k:Int),gEq (.pointer (some ⟨b,a+k,none⟩)),gEq (y:Int),gEq (I 1),gEq (.bool false)]) 12 12 [(0,some 12),(1,some 13),(2,some 14),(3,some 15),(4,some 16),(5,some 17),(6,some 18),(7,some 19),(8,some 20),(9,some 21),(10,some 22),(11,some 23)] ?steps ?fin
   case steps=>
    refine sC [] rfl (fun wi hx=> ?_) ?_
    ·intro K hK;have hX:=hx.of_drew;obtain⟨d,u,v⟩:=(HB.out.ext hX).tri;go_simp;exact hK _ _ ⟨.agg #[aA,aB,.slice p n c],rfl,rfl,Ext.refl _⟩
    refine sS0 [] (sS0 [] ?_);refine sC [(2,some 14)] rfl (fun wi hx=> ?_) ?_
    ·intro v2 h2 K hK;obtain rfl:=h2;have aj:=aVw ((k:Int)-1);go_simp;exact hK _ _ ⟨I ((k:Int)-1),rfl,rfl,Ext.refl _⟩
    refine sS2 [(1,some 13),(3,some 15)] ?_;refine sC [(4,some 16)] rfl (fun wi hx=> ?_) ?_
    ·intro v4 h4 K hK;obtain rfl:=h4;have hX:=hx.of_drew;have d:wi.cell? ⟨b,a+(k-1),none⟩=some (I x):=(hX.cells.1 _ _ o).trans ca;go_simp;exact hK _ _ ⟨I x,rfl,rfl,Ext.refl _⟩
    refine sS0 [] (sS0 [] (sS2 [(6,some 18),(7,some 19)] ?_));refine sC [(8,some 20)] rfl (fun wi hx=> ?_) ?_
    ·intro v8 h8 K hK;obtain rfl:=h8;have hX:=hx.of_drew;have d:wi.cell? ⟨b,a+k,none⟩=some (I y):=(hX.cells.1 _ _ o).trans cb;go_simp;exact hK _ _ ⟨I y,rfl,rfl,Ext.refl _⟩
    refine sC [(0,some 12),(5,some 17),(9,some 21)] rfl (fun wi hx=> ?_) ?_
    ·intro v0 h0 v5 h5 v9 h9 K hK;subst h0 h5 h9;go_wp2_with fail;refine Z (HK _ (hE.trans hx.of_drew)) fun w5 q=>?_
     go_simp;exact hK _ _ ⟨I 1,rfl,rfl,q⟩
    exact sS1 [(10,some 22)] StepsL.nil
   case fin=>
    intro wi hx v0 h0 v1 h1 v2 h2 v3 h3 v4 h4 v5 h5 v6 h6 v7 h7 v8 h8 v9 h9 s f t g;subst h0 h1 h2 h3 h4 h5 h6 h7 h8 h9;obtain rfl:=f;obtain rfl:=g;refine wpAny_done (by kernel_rfl) ?_ _;go_frame;have h:=hx.of_drew;go_wp2;go_roundw
    case rel=>exact⟨k+1,by omega,by omega,by go_num,hE.trans h,HB.out.ext h⟩
    case measure=>simp[intOf];omega
  obtain rfl:m=k:=by omega
  have r:=(hE.cells.1 _ _ hb).trans c0;clear c0;have c0:=r;clear r;have i2:(0:Int)<(m:Int):=by omega
  have i6:=aVw ((n:Int)-1);go_wp2;refine rL (gl [gEq (.agg #[aA,aB,.slice p n c]),gEq (.bool true),gEq (.bool true),gEq (.slice (some ⟨b,a,none⟩) m c2),gEq (m:Int),gEq (.bool true),gEq (.bool true),gEq (.bool true),gEq (.slice (some ⟨b,a,none⟩) m c2),gEq (.pointer (some ⟨b,a,none⟩)),gEq (x0:Int),gEq (.pointer (some ⟨w,2,none⟩)),gEq (.slice p n c),gEq (n:Int),gEq ((n:Int)-1:Int),gEq (.bool true),gEq (.bool true),gEq (.bool true)]) 18 18 [(0,some 24),(1,some 25),(2,some 26),(3,some 27),(4,some 28),(5,some 29),(6,some 30),(7,some 31),(8,some 32),(9,some 33),(10,some 34),(11,some 35),(12,some 36),(13,some 37),(14,some 38),(15,some 39),(16,some 40),(17,some 4)] ?steps ?fin
  case steps=>
   refine sC [] rfl (fun wi hx=> ?_) ?_
   ·intro K hK;have hX:=hx.of_drew;obtain⟨d,u,v⟩:=(HB.out.ext hX).tri;go_simp;exact hK _ _ ⟨.agg #[aA,aB,.slice p n c],rfl,rfl,Ext.refl _⟩
   refine sC [(0,some 24)] rfl (fun wi hx=> ?_) ?_
   ·intro v0 h0 K hK;obtain rfl:=h0;go_wp2_with fail;refine Z (HV _ (hE.trans hx.of_drew)) fun w5 q=>?_
    go_simp;exact hK _ _ ⟨.bool true,rfl,rfl,q⟩
   refine sS1 [(1,some 25)] (sS1 [(2,some 26)] (sS2 [(2,some 26),(3,some 27)] (sS2 [(2,some 26),(4,some 28)] (sS2 [(2,some 26),(5,some 29)] (sS1 [(6,some 30)] (sS1 [(7,some 31)] (sS2 [(7,some 31),(8,some 32)] ?_)))))));refine sC [(7,some 31),(9,some 33)] rfl (fun wi hx=> ?_) ?_
   ·intro v7 h7 v9 h9 K hK;subst h7 h9;have hX:=hx.of_drew;have d:wi.cell? ⟨b,a,none⟩=some (I x0):=(hX.cells.1 _ _ o).trans c0;go_simp;exact hK _ _ ⟨I x0,rfl,rfl,Ext.refl _⟩
   refine sS1 [(7,some 31)] ?_;refine sC [(7,some 31),(11,some 35)] rfl (fun wi hx=> ?_) ?_
   ·intro v7 h7 t g K hK;obtain rfl:=h7;obtain rfl:=g;have hX:=hx.of_drew;have d:=(HB.out.ext hX).cl 2;go_simp;exact hK _ _ ⟨.slice p n c,rfl,rfl,Ext.refl _⟩
   refine sS2 [(7,some 31),(12,some 36)] (sS2 [(7,some 31),(13,some 37)] ?_);refine sC [(7,some 31),(10,some 34),(14,some 38)] rfl (fun wi hx=> ?_) ?_
   ·intro v7 h7 s f af l K hK;obtain rfl:=h7;obtain rfl:=f;obtain rfl:=l;go_wp2_with fail;refine(HI _).mono ?_;rintro e w5 ⟨rfl,rfl⟩;go_simp;exact hK _ _ ⟨.bool true,rfl,rfl,Ext.refl _⟩
   exact sS2 [(7,some 31),(15,some 39)] (sS1 [(16,some 40)] StepsL.nil)
  case fin=>intro wi hx v0 h0 v1 h1 v2 h2 v3 h3 v4 h4 v5 h5 v6 h6 v7 h7 v8 h8 v9 h9 s f t g ak z al aa af l am ab an ad ao ae;subst h0 h1 h2 h3 h4 h5 h6 h7 h8 h9;obtain rfl:=f;obtain rfl:=g;obtain rfl:=z;obtain rfl:=aa;obtain rfl:=l;obtain rfl:=ab;obtain rfl:=ad;obtain rfl:=ae;refine wpAny_done (by kernel_rfl) ?_ _;go_frame;have h:=hx.of_drew;go_wp2;go_ret;exact⟨rfl,hE.trans h⟩
theorem oS (a b:Int): ∀u∈aM (a,b),u.oneCell'=true:=by intro u hu;simp[aM]at hu;rcases hu with rfl|rfl<;>rfl
theorem aNj (aA aB:Int)(pb po:Nat)(n d:Nat)(xs:List Int)(b f m c2 u:Nat)(s ws:List Nat)(w:World)(b4:4≤n)(hn:n≤12)(b3:0<m)(hm:m≤12)(bd:Hid (ws=u::s))(a6:Hid (ws.length=m))(hb:b<w.heap.size)(bo:pb<w.heap.size)
  (bm:Hid (aN aA aB xs=true))(a3:Hid (xs.length=n))(hu:u<n)(bq:Hid (xs.getD u 0=0))(bp:Hid (oO aA n u s))
  (HS:Hid (∀(k x:Nat),ws[k]? =some x→w.cell? ⟨b,f+k,none⟩=some (I x))) (bg:w.cell? ⟨b,f,none⟩=some (I u)) (bf:w.cell? ⟨pb,po+u,none⟩=some (I 0))
  (HW:xB 184 #[aH aA aB (some ⟨pb,po,none⟩) n d,.slice (some ⟨b,f,none⟩) m c2] w true)
  (HL:xC 48 #[aH aA aB (some ⟨pb,po,none⟩) n d] w fun w' e w''=> ∃q c,e= .returned (aH aA aB q n c)∧w''.ownsRow w' TI 1 (.slice q n c) n (ivs xs)∧Ext w' w''):
  U 147 #[aH aA aB (some ⟨pb,po,none⟩) n d,.slice (some ⟨b,f,none⟩) m c2] w (gH (cO xs u s).2 w):=by
 have j1:=aVt u;have j2:=aVu u n;go_enter func147,ntmps147;go_wp2;have ME:=(((Mem.start w).c0 TH3 #[aA,aB,.slice (some ⟨pb,po,none⟩) n d]).made0 TSL 2 (w.heap.size+1) (by simp))
 have X0:=xQ (show Ext w ((w.alloc (.cells #[aA,aB,.slice (some ⟨pb,po,none⟩) n d] TH3)).alloc (.cells #[] TSL))from ME.ext);refine rL (gl [gEq (.agg #[aA,aB,.slice (some ⟨pb,po,none⟩) n d]),gEq (.slice (some ⟨b,f,none⟩) m c2),gEq (.bool true),gEq (.bool false),gEq (.bool false),gEq (.pointer (some ⟨w,2,none⟩)),gEq (.slice (some ⟨pb,po,none⟩) n d),gEq (.slice (some ⟨b,f,none⟩) m c2),gEq (.pointer (some ⟨b,f,none⟩)),gEq (u:Int),gEq (.pointer (some ⟨pb,po+u,none⟩)),gEq (I 0),gEq (.bool false),gEq (.bool false)]) 14 14 [(0,some 12),(1,some 13),(2,some 14),(3,some 15),(4,some 16),(5,some 17),(6,some 18),(7,some 19),(8,some 20),(9,some 21),(10,some 22),(11,some 23),(12,some 24),(13,some 25)] ?steps ?fin
 case steps=>
  refine sC [] rfl (fun wi hx=> ?_) ?_
  ·intro K hK;have hX:Ext ((w.alloc (.cells #[aA,aB,.slice (some ⟨pb,po,none⟩) n d] TH3)).alloc (.cells #[] TSL)) wi:=by exact .trans (.drew (.refl _)) hx
   obtain⟨ab,bz,b0⟩:=((ME.bk 1).ext hX).tri;go_simp;exact hK _ _ ⟨.agg #[aA,aB,.slice (some ⟨pb,po,none⟩) n d],rfl,rfl,Ext.refl _⟩
  refine sS0 [] ?_;refine sC [(0,some 12),(1,some 13)] rfl (fun wi hx=> ?_) ?_
  ·intro v0 h0 v1 h1 K hK;subst h0 h1;have hX:Ext w wi:=by exact .trans (.drew (.alloc (.alloc (.refl _) _) _)) hx
   go_wp2_with fail;refine Z (HW _ hX) fun w5 ah=>?_
   go_simp;exact hK _ _ ⟨.bool true,rfl,rfl,ah⟩
  refine sS1 [(2,some 14)] (sS1 [(3,some 15)] (sS1 [(4,some 16)] ?_));refine sC [(4,some 16),(5,some 17)] rfl (fun wi hx=> ?_) ?_
  ·intro v4 h4 v5 h5 K hK;subst h4 h5;have hX:Ext ((w.alloc (.cells #[aA,aB,.slice (some ⟨pb,po,none⟩) n d] TH3)).alloc (.cells #[] TSL)) wi:=by exact .trans (.drew (.refl _)) hx
   have ab:=((ME.bk 1).ext hX).cl 2;go_simp;exact hK _ _ ⟨.slice (some ⟨pb,po,none⟩) n d,rfl,rfl,Ext.refl _⟩
  refine sS1 [(4,some 16)] (sS2 [(4,some 16),(7,some 19)] ?_);refine sC [(4,some 16),(8,some 20)] rfl (fun wi hx=> ?_) ?_
  ·intro v4 h4 v8 h8 K hK;subst h4 h8;have hX:Ext ((w.alloc (.cells #[aA,aB,.slice (some ⟨pb,po,none⟩) n d] TH3)).alloc (.cells #[] TSL)) wi:=by exact .trans (.drew (.refl _)) hx
   have ab:wi.cell? ⟨b,f,none⟩=some (I u):=(X0.out.trans hX).cells.1 _ _ hb |>.trans bg;go_simp;exact hK _ _ ⟨I u,rfl,rfl,Ext.refl _⟩
  refine sS3 [(4,some 16),(6,some 18),(9,some 21)] ?_;refine sC [(4,some 16),(10,some 22)] rfl (fun wi hx=> ?_) ?_
  ·intro v4 h4 bc ad K hK;obtain rfl:=h4;obtain rfl:=ad;have hX:Ext ((w.alloc (.cells #[aA,aB,.slice (some ⟨pb,po,none⟩) n d] TH3)).alloc (.cells #[] TSL)) wi:=by exact .trans (.drew (.refl _)) hx
   have ab:wi.cell? ⟨pb,po+u,none⟩=some (I 0):=(X0.out.trans hX).cells.1 _ _ bo |>.trans bf;go_simp;exact hK _ _ ⟨I 0,rfl,rfl,Ext.refl _⟩
  exact sS2 [(4,some 16),(11,some 23)] (sS2 [(4,some 16),(12,some 24)] StepsL.nil)
 case fin=>
  intro wi hx v0 h0 v1 h1 v2 h2 v3 h3 v4 h4 v5 h5 v6 h6 v7 h7 v8 h8 v9 h9 bc ad b6 bh b7 bi b8 bj;subst h0 h1 h2 h3 h4 h5 h6 h7 h8 h9;obtain rfl:=ad;obtain rfl:=bh;obtain rfl:=bi;obtain rfl:=bj;refine wpAny_done (by kernel_rfl) ?_ _;try go_frame
  have hX:Ext ((w.alloc (.cells #[aA,aB,.slice (some ⟨pb,po,none⟩) n d] TH3)).alloc (.cells #[] TSL)) wi:=hx.of_drew;have M1:=(ME.adv hX)
  clear ME X0 hx hX;obtain⟨c0,c1,c2⟩:=(M1.bk 1).tri;go_wp2_with fail;clear c0 c1 c2;refine(HL _ M1.ext).mono ?_;rintro e w2 ⟨q0,c0,rfl,a5,a8⟩;have M2:=(M1.call a8 a5)
  clear M1 a8 a5 HW;have ay:=xQ (M2.c0 TH3 #[aA,aB,.slice q0 n c0]);go_wp2;go_loopw [5,7] (fun v i wr=> ∃(k x:Nat) (rest:List Nat) (ys:List Int) (q:OA) (c:Nat) (q5:OA) (l lc:Nat) (sl:List Sl2),1≤k∧k≤m∧i=I k∧v= .slice q5 l lc∧l=sl.length∧l≤k∧ws.drop (k-1)=x::rest∧aN aA aB ys=true∧ys.length=n∧x<n∧ys.getD x 0=0∧oO aA n x rest∧sl++(cO ys x rest).2=(cO xs u s).2∧Mem w wr [aI w w2 TH3 #[aA,aB,.slice q n c],aJ w TI 1 (q) (n) (c) (ivs ys),aJ w TSL 2 (q5) (l) (lc) (sl.flatMap aM),aI w w TH3 #[aA,aB,.slice (some ⟨pb,po,none⟩) n d]]) (fun _ i _=>m-(intOf i).toNat)
  case atStart=>exact⟨1,u,s,xs,q0,c0,some ⟨w.heap.size+1,0,none⟩,0,0,[],aT5 _,by omega,rfl,rfl,rfl,by omega,by rw[bd.out];rfl,bm.out,a3.out,hu,bq.out,bp.out,rfl,ay.out⟩
  case round=>
   clear ay M2;obtain⟨k,x,rest,ys,q,c,q5,l,lc,sl,b1,hk,rfl,rfl,hl,b2,az,al,a4,av,a7,an,am,hM⟩:=hrel;have af:=xQ az;have o:=xQ al;have g:=xQ a4;have aq:=xQ a7;have aa:=xQ an;have t:=xQ am;have ap:=xQ hl;have HM:=hM;clear az al a4 a7 an am hM hl;by_cases hlt:k<m
   ·obtain⟨y,rest',p⟩: ∃y rest',rest=y::rest':=by
     have h1:=congrArg List.length af.out;rw[aUm,a6.out]at h1;cases rest with
     |nil=>simp at h1;omega
     |cons y r=>exact⟨y,r,rfl⟩
    subst p;have ba:ws[k-1]? =some x:=by have:=congrArg (fun z=>z[0]?) af.out;simpa using this
    have ae:ws.drop k=y::rest':=by have:=congrArg List.tail af.out;rw[List.tail_drop,show k-1+1=k by omega]at this;exact this
    have bb:ws[k]? =some y:=by have:=congrArg (fun z=>z[0]?) ae;simpa using this
    have aj:=xQ ae;have ar:y∈aU aA n x:=aa.out.1;have a9:y<n:=(bZ.1 ar).1;have ao:=xQ ar;have ai:=HM.ext;have ca:wr.cell? ⟨b,f+(k-1),none⟩=some (I x):=(ai.cells.1 _ _ hb).trans (HS (k-1) x ba);have cb:wr.cell? ⟨b,f+k,none⟩=some (I y):=(ai.cells.1 _ _ hb).trans (HS k y bb);have ax:b<wr:=aT4 hb ai.sz;clear ae ar ba bb ai;have i1:=aVt k;have i2:=aVu k m;have i3:(k:Int)-1<(m:Int):=by omega
    have i4:((k:Int)-1).toNat=k-1:=by omega
    have i5:(1:Int)≤(k:Int):=by omega
    go_wp2;refine rL (gl [gEq (.slice (some ⟨b,f,none⟩) m c2),gEq (k:Int),gEq (.pointer (some ⟨b,f+k,none⟩)),gEq (y:Int),gEq (.slice (some ⟨b,f,none⟩) m c2),gEq (k:Int),gEq ((k:Int)-1:Int),gEq (.pointer (some ⟨b,f+(k-1),none⟩)),gEq (x:Int),gEq (.agg #[y,x]),aJ4 wr TSL #[(),()]]) 11 12 [(0,some 35),(1,some 36),(2,some 37),(3,some 38),(4,some 39),(5,some 40),(6,some 41),(7,some 42),(8,some 43),(9,some 44),(10,some 8)] ?steps ?fin
    case steps=>
     refine sS0 [] (sS0 [] (sS2 [(0,some 35),(1,some 36)] ?_));refine sC [(2,some 37)] rfl (fun wi hx=> ?_) ?_
     ·intro v2 h2 K hK;obtain rfl:=h2;have hX:=hx.of_drew;have ab:wi.cell? ⟨b,f+k,none⟩=some (I y):=(hX.cells.1 _ _ ax).trans cb;go_simp;exact hK _ _ ⟨I y,rfl,rfl,Ext.refl _⟩
     refine sS0 [] (sS0 [] ?_);refine sC [(5,some 40)] rfl (fun wi hx=> ?_) ?_
     ·intro v5 h5 K hK;obtain rfl:=h5;have b5:=aVw ((k:Int)-1);go_simp;exact hK _ _ ⟨I ((k:Int)-1),rfl,rfl,Ext.refl _⟩
     refine sS2 [(4,some 39),(6,some 41)] ?_;refine sC [(7,some 42)] rfl (fun wi hx=> ?_) ?_
     ·intro v7 h7 K hK;obtain rfl:=h7;have hX:=hx.of_drew;have ab:wi.cell? ⟨b,f+(k-1),none⟩=some (I x):=(hX.cells.1 _ _ ax).trans ca;go_simp;exact hK _ _ ⟨I x,rfl,rfl,Ext.refl _⟩
     refine sS2 [(3,some 38),(8,some 43)] ?_;refine sC [] rfl (fun wi hx=> ?_) StepsL.nil
     ·intro K hK;go_simp;exact hK _ _ ⟨.pointer (some ⟨wi,0,none⟩),rfl,⟨wi.heap.size,rfl,by have:=hx.sz;simp at this;omega,Blk.new _ _ _⟩,(Ext.refl _).alloc _⟩
    case fin=>
     intro wi hx v0 h0 v1 h1 v2 h2 v3 h3 v4 h4 v5 h5 v6 h6 v7 h7 v8 h8 v9 h9 bc ad;subst h0 h1 h2 h3 h4 h5 h6 h7 h8 h9;obtain⟨ag,rfl,ak,aw⟩:=ad;have hX:Ext wr wi:=hx.of_drew;have M1:=(show Mem w wi [aI w (ag) TSL #[(),()],aI w w2 TH3 #[aA,aB,.slice q n c],aJ w TI 1 (q) (n) (c) (ivs ys),aJ w TSL 2 (q5) (l) (lc) (sl.flatMap aM),aI w w TH3 #[aA,aB,.slice (some ⟨pb,po,none⟩) n d]]from HM.blkOf hX aw ak)
     clear HM hx hX ca cb aw ak;try go_frame
     have z0:=(M1.bk 0).cl 0;have bw:=(M1.bk 0).frozen 0;have z1:=(M1.bk 0).cl 1;have bx:=(M1.bk 0).frozen 1;refine wpAny_ready (rs:= [11]) (by kernel_rfl) (by simp) ?_;refine AllReady.cons rfl (fun K hK=> ?_) AllReady.nil;go_simp;refine hK _ _ ?_;clear hK K z0 bw z1 bx;have M2:=((M1.st 0 0 (I y)).st 0 1 (I x))
     generalize ((wi.setCell ⟨ag,0,none⟩ (I y)).setCell ⟨ag,1,none⟩ (I x))=w4 at M2⊢;clear M1;refine wpAny_done (by kernel_rfl) ?_ _;try go_frame
     obtain⟨h,j⟩:=M2.nq 0 1;obtain⟨n0,n1,n2⟩:=(M2.bk 1).tri;have s0:=(M2.bk 0).cl 0;have s1:=(M2.bk 0).cl 1;have HD:=xQ (fun w' (hx:Ext w4 w')=>nB aA aB (y:Int) (x:Int) q n c ys w' ((M2.sq 2).ext hx) o.out);go_wp2_with fail;refine(HD _ (by exact .refl _)).mono ?_;rintro e w5 ⟨q6,c6,rfl,au,ah⟩;have a2:(bL aA aB ys (y:Int) (x:Int)).length=n:=by rw[dG,g.out]
     rw[a2]at au⊢;clear a2 HD h j n0 n1 n2 s0 s1;have M3:=(M2.call ah au)
     clear M2 ah au;have br:=M3.hi 1;have bs:=M3.hi 2;by_cases hy0:ys.getD y 0=0
     ·have hm:bH aA aB ys (y:Int) (x:Int)=false:=by have:=aPa o (by rw[g.out];exact av) aq (by rw[g.out];exact ao.out) hy0;exact this
      have hr:=xQ (sS (a:=x) (l:=rest') hy0);have be:=xQ hy0;clear hy0;rw[hm];clear hm;go_wp2;go_roundw
      case rel=>exact⟨k+1,y,rest',ys,q,c,q5,l,lc,sl,by omega,by omega,by go_num,rfl,ap.out,by omega,by rw[aVd];exact aj.out,o.out,g.out,a9,be.out,aa.out.2,by rw[←t.out,hr.out],((M3.c0 TH3 #[aA,aB,.slice q6 n c6]).pick [3,4,5,6] (by decide) rfl)⟩
      case measure=>simp[intOf];omega
     obtain⟨hm,hd⟩:=aDo o (by rw[g.out];exact av) aq (by rw[g.out];exact ao.out) hy0;obtain⟨n1,n2,n3⟩:=vO o (by rw[g.out];exact av) aq (by rw[g.out];exact ao.out) hy0;have hr:=xQ (qO (a:=x) (l:=rest') hy0);rw[hd]at M3;rw[hm];clear hm hd hy0;generalize (ys.set x (ys.getD y 0)).set y 0=zs at*;have N1:=xQ n1;have N2:=xQ n2;have N3:=xQ n3;clear n1 n2 n3;obtain⟨h,j⟩:=M3.nq 1 2;obtain⟨n0,bt,n1,bu,n2,bv⟩:=(M3.bk 2).trif;have s0:=(M3.bk 1).cl 0;have s1:=(M3.bk 1).cl 1;go_wp2_with (at_builtin;go_loud (refine cJ rS rfl _ _ rfl (((((M3.store (i:=2) rfl 0 (I aA)).store (i:=2) rfl 1 (I aB)).store (i:=2) rfl 2 (.slice q6 n c6)).bn TH3 #[aA,aB,.slice q6 n c6] w5).adv ((Ext.refl _).alloc (.cells #[y,x] TSL))) 5 rfl rfl (aM ((y:Int),(x:Int))) rfl (eD _ _ _ 1 2 _ (by simp) (by simp) (by simp[maxLen])) (oS _ _) (by omega) ?_;intro q7 c7 w6 M6));clear h j n0 bt n1 bu n2 bv s0 s1;have M7:=(show Mem w w6 [aI w w5 TH3 #[aA,aB,.slice q6 n c6],aJ w TI 1 (q6) (n) (c6) (ivs zs),aI w (ag) TSL #[y,x],aI w w2 TH3 #[aA,aB,.slice q6 n c6],aJ w TI 1 (q) (n) (c) (ivs ys),aJ w TSL 2 (q7) (l+1) (c7) (sl.flatMap aM++aM ((y:Int),(x:Int))),aI w w TH3 #[aA,aB,.slice (some ⟨pb,po,none⟩) n d]]from M6)
     clear M6 M3;have a1:Hid (sl.flatMap aM++aM ((y:Int),(x:Int))=(sl++ [((y:Int),(x:Int))]).flatMap aM):=by show _=_;rw[aTz];simp
     rw[a1.out]at M7;clear a1;go_wp2;go_roundw
     case rel=>exact⟨k+1,y,rest',zs,q6,c6,q7,l+1,c7,sl++ [((y:Int),(x:Int))],by omega,by omega,by go_num,rfl,by rw[aTc,←ap.out];rfl,by omega,by rw[aVd];exact aj.out,N1.out,by rw[N2.out,g.out],a9,N3.out,aa.out.2,by rw[←t.out,hr.out];simp,(M7.pick [3,1,5,6] (by decide) rfl)⟩
     case measure=>simp[intOf];omega
   obtain rfl:m=k:=by omega
   have p:rest= []:=by
    have h1:=congrArg List.length af.out;rw[aUm,a6.out]at h1;cases rest with
    |nil=>rfl
    |cons y r=>simp at h1;omega
   subst p;have a0:Hid (sl=(cO xs u s).2):=by show _=_;rw[←t.out];simp[cO]
   go_wp2;go_ret;have bl:=ap.out;subst bl;rw[←a0.out];exact⟨q5,lc,rfl,HM.ow 2,HM.ext⟩
abbrev aVq (w:World)(p:Option Addr)(xs:List Int)(c:Nat):Item:=aJ w.heap.size TI 1 p xs.length c (ivs xs)
abbrev aVs (r:aL)(p:Option Addr)(c:Nat)(q:Option Addr)(d:Nat):Array Value:=#[.int .i64 r.aA,.int .i64 r.aB,.slice p r.cells.length c,.int .i64 r.free,.int .i64 r.step,.int .i64 r.aD,.int .i64 r.aF,.int .i64 r.aC,.int .i64 r.aG,.slice q r.vs.length d]
end
end Go.Proofs.YthfmmibomhhmpaaGreatDoor
