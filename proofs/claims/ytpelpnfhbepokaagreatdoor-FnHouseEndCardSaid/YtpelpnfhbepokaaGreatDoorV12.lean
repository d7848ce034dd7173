/-
  Texts of this proof, packed (@packed).
-/
import Derived.Test.YtpelpnfhbepokaaGreatDoorV11
namespace Go.Proofs.YtpelpnfhbepokaaGreatDoor
open Go.RowKit
set_option linter.unusedVariables false
set_option linter.unusedSimpArgs false
set_option maxHeartbeats 8000000
set_option maxRecDepth 100000
theorem aBh (aA:Int)(n u:Nat):oM aA n (-1) u=aS aA n u:=by unfold oM;rw[List.filter_eq_self];intro v hv;first|(simp;done)|(simp;omega)
theorem aGz (aA aB:Int)(p:OA)(n g u:Nat)(R:Int)(w:World)(hg:Hid ((aA,n)∈gU))(bx:4≤n)(hn:n≤12)(hu:u<n)(hR:Hid (R=aW aA u 0))(bv:0≤R)
  (HP:xC 183 #[aH aA aB p n g,(u:Int),()] w fun w' e w''=>e= .returned (.int .i64 R)∧Ext w' w'')
  (HF:xC 227 #[aH aA aB p n g,(),(-1:Int)] w fun w' e w''=> ∃D,(D.length=n∧ ∀v,v<n→D.getD v 0=aW aA v 0)∧aX D w' e w'')
  (HC:Hid (∀(k:Nat),k<n→ ∀w',Ext w w'→Calls Tryz.prog 228 #[aH aA aB p n g,k] w' (aX (bF (aS aA n k)) w'))):
  Calls Tryz.prog 204 #[aH aA aB p n g,(u:Int),(),(-1:Int)] w (aX (bF (cX aA n 12 u)) w):=by
 have a1:(0:Int)≤(u:Int):=by omega
 have a2:(u:Int)<(n:Int):=by omega
 have a3:((-1:Int)==(u:Int))=false:=by first|(simp;done)|(simp;omega)
 have a4:decide (R<0)=false:=by first|(simp;done)|(simp;omega)
 go_enter Tryz.func204,Tryz.ntmps204;go_wp2_with fail;refine(HP _ (by exact .alloc (.alloc (.refl _) _) _)).mono ?_;rintro e w1 ⟨rfl,ai⟩;have B1:=xQ (((Blk.new w TH3 #[aA,aB,.slice p n g]).alloc (.cells #[] TI)).ext ai);have ho:((w.alloc (.cells #[aA,aB,.slice p n g] TH3)).alloc (.cells #[] TI)).ownsRow (w.heap.size+1) TI 1 (.slice (some ⟨(w.alloc (.cells #[aA,aB,.slice p n g] TH3)).heap.size,0,none⟩) 0 0) 0 []:=World.ownsRow_made _ #[] 0 (by simp) (by simp[maxLen]) rfl;have O1:=xQ (bG ho ai);have X1:Ext w w1:=(((Ext.refl _).alloc _).alloc _).trans ai;have s1:w.heap.size+1<w1.heap.size:=by have:=ai.sz;simp at this;omega
 clear ho ai;obtain⟨b0,b1,b2⟩:=B1.out.cells3;have n1:IntKind.i64.wrap ((n:Int)-1)=(n:Int)-1:=IntWalk.i64_in _ (by omega);have t1:decide ((-1:Int)≤ -1∧(-1:Int)≤(n:Int)-1)=true:=by first|(simp;done)|(simp;omega)
 have HI:Hid (∀w,Calls Tryz.prog 43 #[(-1:Int),(-1:Int),((n:Int)-1:Int)] w fun e w'=>e= .returned (.bool true)∧w=w'):=fun w=>by have:=pZ (-1) (-1) ((n:Int)-1) w;rwa[t1]at this
 clear t1;go_wp2_with fail;refine(HI _).mono ?_;rintro e w2 ⟨rfl,rfl⟩;go_wp2_with fail;clear b0 b1 b2;refine(HF _ (by exact X1)).mono ?_;rintro e w2 ⟨D,⟨au,a8⟩,q2,c2,rfl,o2,aj⟩;rw[au]at o2⊢;have HD:=xQ au;have HV:=xQ a8;have X2:=xQ (X1.trans aj);have O2:=xQ (bG O1 aj);have ar:=xQ (show w2.ownsRow (w.heap.size+1) TI 1 (.slice (some ⟨w.heap.size+1,0,none⟩) 0 0) 0 (ivs []) by simpa using O2.out);have B2:=xQ (B1.out.ext aj);have z2:=aj.sz;clear au a8 aj O1 X1;have s2:=B2.out.lt;obtain⟨gF,rfl,br,bs⟩:=eM o2 (by omega);have F2:=xQ (bE o2 (Nat.le_of_lt s1));have bp:Hid (gF≠w.heap.size+1):=by show _≠_;omega
 clear o2 B1;have dU:D[u]? =some R:=by have:=(dD (D:=D) (v:=u) (by rw[HD.out];exact hu)).1;rw[this,HV u hu,hR.out]
 have cU:w2.cell? ⟨gF,u,none⟩=some (.int .i64 R):=by have:=F2.out.cellAt u (by omega);rw[this];simp[ivs,dU]
 clear dU;obtain⟨wA,bm⟩: ∃wA:World,wA=w2:=⟨_,rfl⟩
 have bj:w.heap.size+1≤w2.heap.size:=s2;go_wp2_with (at_builtin;go_loud (refine fU rfl _ _ rfl (w.heap.size+1) _ _ [] rfl (ar.out.alloc _) _ _ (u:Int) _ rfl (by simp) (by omega) (Nat.le_trans bj (by simp)) ?_;intro p' a w3 c ae m;have r:(Value.slice p' (0+1) a).ownBlock=(Value.slice (some ⟨w.heap.size+1,0,none⟩) 0 0).ownBlock∨(Value.slice p' (0+1) a).ownBlock=some (w2.alloc (.cells #[(u:Int)] TI)).heap.size:=m;have b:World.grownBy _ w3 (Value.slice (some ⟨w.heap.size+1,0,none⟩) 0 0).ownBlock:=ae;have X3:=xQ (Ext.own (X2.out.alloc _) (ar.out.alloc _) b (by omega));have B3:=xQ ((B2.out.alloc _).grown b (by first|(simp[Value.ownBlock];done)|(simp[Value.ownBlock];omega)));have F3:=xQ ((F2.out.alloc _).kept b (.inr (by first|(simp[Value.ownBlock];done)|(simp[Value.ownBlock];omega))));have O3:=xQ c;have z3:=b.size;have A3:=xQ r;clear c ae r b m));have a7:Hid ((Value.slice p' (0+1) a).ownBlock≠some gF):=by
  show _≠_;rcases A3.out with h|h
  ·rw[h];simp[Value.ownBlock];(try omega)
  rw[h];simp;omega
 have s3:w2.heap.size≤w3.heap.size:=Nat.le_trans (by simp) z3;clear A3 X2 B2 F2 O2 ar bm wA z3 cU;have aw:=xQ (bT hg.out hu);go_wp2;go_loopw [1,9] (fun v o wr=> ∃(x f:Nat) (pre:List Nat) (q:OA) (l lc:Nat),v= .int .i64 (x:Int)∧x<n∧aW aA x 0≤f∧pre++cX aA n f x=cX aA n 12 u∧o= .slice q l lc∧l=pre.length+1∧wr.ownsRow (w.heap.size+1) TI 1 (.slice q l lc) l (ivs (bF (pre++ [x])))∧wr.ownsRow (w.heap.size+1) TI 1 (.slice (some ⟨gF,0,none⟩) n c2) n (ivs D)∧(Value.slice q l lc).ownBlock≠some gF∧Ext w wr∧Blk wr w.heap.size TH3 #[aA,aB,.slice p n g]∧w3.heap.size≤wr.heap.size) (fun v _ _=>(aW aA (intOf v) 0).toNat)
 case atStart=>exact⟨u,12,[],p',1,a,rfl,hu,by have:=aw.out.2.1;omega,rfl,rfl,rfl,by simpa[bF]using O3.out,F3.out,a7.out,X3.out,B3.out,Nat.le_refl _⟩
 case round=>
  clear O3 F3 a7 X3 B3;obtain⟨x,f,pre,q,l,lc,rfl,hx,hf,ah,rfl,hl,hO,hF,bd,am,hB,bz⟩:=hrel;have aq:=xQ hO;have a0:=xQ hF;have a6:=xQ bd;have HB:=xQ hB;have HW:=xQ ah;have ap:=xQ (bT hg.out hx);have az:=xQ hf;have bo:l≤12:=by have h1:=congrArg List.length ah;have h2:=lP hg.out f x hx hf;have h3:=lP hg.out 12 u hu (by have:=aw.out.2.1;omega);have h4:=aw.out.2.1;have h5:=ap.out.1;rw[List.length_append]at h1;omega
  have b3:=HB.out.lt;have a5:=xQ hl;clear hO hF bd hB ah hf hl;by_cases h0:x=0
  ·have t0:((x:Int)!=0)=false:=by simp[h0]
   have ao:Hid (pre++ [x]=cX aA n 12 u):=by show _=_;rw[←HW.out];subst h0;cases f<;>simp[cX]
   clear h0;go_wp2;go_ret;exact cZ (by rw[←ao.out];have:=a5.out;simp[bF];omega) (by rw[←ao.out];exact bE aq (Nat.le_succ _)) am
  have t0:((x:Int)!=0)=true:=by simp[h0]
  obtain⟨J,bi,an,av⟩:=aE2 hg.out hx h0;obtain⟨e1,e2,e3⟩:=ap.out.2.2.2.1 h0;have bn:=xQ h0;obtain⟨y,hy⟩: ∃y,y=kI aA n x:=⟨_,rfl⟩
  rw[←hy]at an e1 e2 e3;have HY:=xQ hy;clear hy h0;obtain⟨nb,af⟩: ∃nb,nb=aS aA n x:=⟨_,rfl⟩
  rw[←af]at bi an av;have ay:Hid (∀w',Ext w w'→Calls Tryz.prog 228 #[aH aA aB p n g,(x:Int)] w' (aX (bF nb) w')):=by rw[af];exact HC x hx
  have bg:=xQ af;have bk:nb.length≤12:=by rw[af];exact Nat.le_trans (List.length_filter_le _ _) (by simp;omega)
  have a9:=xQ an;have ba:=xQ av;have al:=xQ e3;clear af an av e2 e3;have bc:(bF nb).length=nb.length:=by simp[bF]
  obtain⟨b0,b1,b2⟩:=HB.out.cells3;go_wp2_with fail;clear b0 b1 b2;refine(ay _ am).mono ?_;rintro e w5 ⟨q5,c5,rfl,o5,aa⟩;rw[bc]at o5⊢;obtain⟨gN,rfl,bt,bu⟩:=eM o5 (by omega);have O5:=xQ (bG aq aa);have F5:=xQ (bG a0 aa);have B5:=xQ (HB.out.ext aa);have X5:=xQ (am.trans aa);have N5:=xQ o5;have z5:=aa.sz;clear aq a0 HB am o5 aa ay;go_wp2;go_loopw [12] (fun i wz=> ∃j:Nat,j≤J∧i= .int .i64 j∧Ext w5 wz) (fun i _=>J-(intOf i).toNat)
  case atStart=>exact⟨0,Nat.zero_le _,rfl,Ext.refl _⟩
  case round=>
   obtain⟨j,hj,rfl,hZ⟩:=hrel;obtain⟨v,hv⟩: ∃v,nb[j]? =some v:=⟨_,List.getElem?_eq_getElem (by omega)⟩
   have ag:v<n:=(bQ.1 (by rw[←bg.out];exact List.mem_of_getElem? hv:v∈aS aA n x)).1;have ak:=xQ hv;have ab:=(dD (D:=D) (v:=v) (by rw[HD.out];exact ag)).1;have ad:=(dD (D:=D) (v:=x) (by rw[HD.out];exact hx)).1;rw[HV v ag]at ab;rw[HV x hx]at ad;obtain⟨dv,s⟩: ∃d,d=aW aA v 0:=⟨_,rfl⟩
   obtain⟨dx,z⟩: ∃d,d=aW aA x 0:=⟨_,rfl⟩
   have gv:=bT hg.out ag;have gx:=ap.out;rw[←s]at ab gv;rw[←z]at ad gx;have m1:(0:Int)≤(j:Int):=by omega
   have m2:(j:Int)<(nb.length:Int):=by omega
   have m3:(0:Int)≤(v:Int):=by omega
   have m4:(v:Int)<(n:Int):=by omega
   have m5:(0:Int)≤(x:Int):=by omega
   have m6:(x:Int)<(n:Int):=by omega
   have m7:((v:Int)== -1)=false:=by first|(simp;done)|(simp;omega)
   have w7:IntKind.i64.wrap (dx-1)=dx-1:=IntWalk.i64_in _ (by omega);have FZ:=xQ (bG F5 hZ);have NZ:=xQ (bG N5 hZ);have cn:wr.cell? ⟨gN,j,none⟩=some (.int .i64 (v:Int)):=by have:=NZ.out.cellAt j (by omega);rw[this];simp[ivs,bF,ak.out]
   have cf:wr.cell? ⟨gF,v,none⟩=some (.int .i64 dv):=by have:=FZ.out.cellAt v (by omega);rw[this];simp only[ivs,List.getElem?_map,ab,Option.map_some]
   have cx:wr.cell? ⟨gF,x,none⟩=some (.int .i64 dx):=by have:=FZ.out.cellAt x (by omega);rw[this];simp only[ivs,List.getElem?_map,ad,Option.map_some]
   by_cases hjJ:j<J
   ·have be:(dv !=dx-1)=true:=by
     have:=ba.out j v hjJ ak.out;rw[←s,←z]at this;simpa using this
    clear ab ad s z gv gx;go_wp2;go_quiet (fail);go_wp2;go_roundw
    case rel=>exact⟨j+1,by omega,by go_num,by exact .drewN hZ _⟩
    case measure=>simp[intOf];omega
   obtain rfl:j=J:=by omega
   have bl:v=y:=by have h1:=ak.out;rw[a9.out]at h1;injection h1 with h1;exact h1.symm
   subst bl;have be:(dv !=dx-1)=false:=by have:=al.out;rw[←s,←z]at this;simp[this]
   have bb:=xQ (show 1≤aW aA (x:Int) 0 by have h1:=(bT hg.out ag).1;have h2:=al.out;omega);clear ab ad s gv;go_wp2;go_quiet (fail);generalize bf:World.drewN _ _=wq;have t:Ext w5 wq:=by rw[←bf];exact hZ.drewN _
   clear bf cn cf cx FZ NZ hZ;have OQ:=xQ (bG O5 t);have FQ:=xQ (bG F5 t);have NQ:=xQ (bG N5 t);have BQ:=xQ (B5.out.ext t);have XQ:=xQ (X5.out.trans t);have zq:=t.sz;clear O5 F5 N5 B5 X5 t;have cn:wq.cell? ⟨gN,j,none⟩=some (.int .i64 (v:Int)):=by have:=NQ.out.cellAt j (by omega);rw[this];simp[ivs,bF,ak.out]
   have lO:w.heap.size+1≤wq.heap.size:=by omega
   have bq:=(FQ.out.lt gF rfl).2;go_wp2_with (at_builtin;go_loud (refine fU rfl _ _ rfl (w.heap.size+1) (.slice q l lc) l (bF (pre++ [x])) rfl (OQ.out.alloc _) _ _ (v:Int) _ rfl (by simp) (by omega) (Nat.le_trans lO (by simp)) ?_;intro p' a w9 c ae m;have r:(Value.slice p' (l+1) a).ownBlock=(Value.slice q l lc).ownBlock∨(Value.slice p' (l+1) a).ownBlock=some (wq.alloc (.cells #[(v:Int)] TI)).heap.size:=m;have b:World.grownBy _ w9 (Value.slice q l lc).ownBlock:=ae;have X9:=xQ (Ext.own (XQ.out.alloc _) (OQ.out.alloc _) b (by omega));have B9:=xQ (oG OQ b BQ.out);have F9:=xQ ((FQ.out.alloc _).kept b (.inr (Ne.symm a6.out)));have O9:=xQ c;have z9:=b.size;have A9:=xQ r;clear c ae r b m));have bh:Hid ((Value.slice p' (l+1) a).ownBlock≠some gF):=by
    show _≠_;rcases A9.out with h|h
    ·rw[h];exact a6.out
    rw[h];simp;omega
   have b4:wq.heap.size≤w9.heap.size:=Nat.le_trans (by simp) z9;clear z9 cn;have bw:0<f:=by have:=az.out;have:=bb.out;omega
   obtain⟨f',rfl⟩: ∃f',f=f'+1:=⟨f-1,by omega⟩
   have ax:Hid ((pre++ [x])++cX aA n f' v=cX aA n 12 u):=by
    show _=_;rw[←HW.out]
    conv=>rhs;rw[cX,if_neg bn.out,←HY.out]
    simp
   go_roundw
   case rel=>exact⟨v,f',pre++ [x],p',l+1,a,by go_num,ag,by have:=al.out;have:=az.out;omega,ax.out,rfl,by have:=a5.out;simp;omega,by have:=O9.out;simpa[bF]using this,F9.out,bh.out,X9.out,B9.out,by omega⟩
   case measure=>simp[intOf];have:=al.out;have:=bb.out;omega
theorem xH (aA aB:Int)(p:OA)(n a u:Nat)(xs:List Int)(w:World)(hS:Sl w p n a 1 (ivs xs))(b:aM aA aB xs=true)(hu:u<n):
  Calls Tryz.prog 204 #[aH aA aB p n a,(u:Int),(),(-1:Int)] w (aX (bF (cX aA n 12 u)) w):=by
 have hl:=hS.ilen;obtain⟨g1,g2,g3,g4,g5,g6,g7,g8,g9⟩:=bM b;have hg:=pC (n:=n) g1 g2 g3 g4 (by omega);refine aGz aA aB p n a u (aW aA u 0) w hg (by omega) (by omega) hu rfl (bT hg hu).1 (fun w' hx=> ?_) (fun w' hx=> ?_) (fun k hk w' hx=> ?_)
 ·have:=xX aA aB u 0 p n a xs w' (hS.ext hx);rwa[dE,if_pos ⟨b,by omega,by omega⟩]at this
 ·refine(aFr aA aB p n a 0 (-1) xs w' (hS.ext hx) b (by omega)).mono ?_;rintro e w2 ⟨D,hD,hr⟩;exact⟨D,⟨hD.len,fun v hv=>wX hg (aBh aA n) hD hv⟩,hr⟩
 have:=aCa aA aB k p n a xs w' (hS.ext hx) b (by omega) (by omega);rwa[kH]at this
end Go.Proofs.YtpelpnfhbepokaaGreatDoor
namespace Go.Proofs.YtpelpnfhbepokaaGreatDoor
open Go.RowKit
set_option linter.unusedVariables false
set_option linter.unusedSimpArgs false
def cC:List Int→Nat→List Nat→List Int×List Sl2
 |xs,_,[]=>(xs,[])
 |xs,a,b::l=>if xs.getD b 0=0 then cC xs b l else((cC ((xs.set a (xs.getD b 0)).set b 0) b l).1,((b:Int),(a:Int))::(cC ((xs.set a (xs.getD b 0)).set b 0) b l).2)
theorem pB {xs:List Int}{a b:Nat}{l:List Nat}(h:xs.getD b 0=0):cC xs a (b::l)=cC xs b l:=by rw[cC,if_pos h]
theorem nJ {xs:List Int}{a b:Nat}{l:List Nat}(h: ¬xs.getD b 0=0):cC xs a (b::l)=((cC ((xs.set a (xs.getD b 0)).set b 0) b l).1,((b:Int),(a:Int))::(cC ((xs.set a (xs.getD b 0)).set b 0) b l).2):=by rw[cC,if_neg h]
def mE (aA:Int)(n:Nat):Nat→List Nat→Prop
 |_,[]=>True
 |a,b::l=>b∈aS aA n a∧mE aA n b l
theorem cM {aA aB:Int}{xs:List Int}(h:aM aA aB xs=true):fN aA aB xs.length=true:=by unfold aM at h;rw[Bool.and_eq_true]at h;exact h.1
theorem nK {aA aB:Int}{xs:List Int}(h:aM aA aB xs=true)(b:Nat):0≤xs.getD b 0:=by
 unfold aM at h;rw[Bool.and_eq_true]at h;have h1:=((dO _ _).1 h.2).1;rw[List.getD_eq_getElem?_getD];cases hx:xs[b]? with
 |none=>simp
 |some x=>exact(h1 x (List.mem_of_getElem? hx)).1
theorem aAz {aA aB:Int}{xs:List Int}{a b:Nat}(h:aM aA aB xs=true)(ha:a<xs.length)(h0:xs.getD a 0=0)(hb:b∈aS aA xs.length a):bB aA aB xs (b:Int) (a:Int)=decide (0<xs.getD b 0):=by
 obtain⟨h1,h2⟩:=bQ.1 hb;have h3:dE aA aB xs (b:Int) (a:Int)=1:=by unfold dE;rw[if_pos ⟨h,⟨by omega,by omega⟩,by omega,by omega⟩,uZ];exact h2
 unfold bB;rw[h3];simp only[Int.toNat_natCast,h0];simp
theorem yP {aA aB:Int}{xs:List Int}{a b:Nat}(h:aM aA aB xs=true)(ha:a<xs.length)(h0:xs.getD a 0=0)(hb:b∈aS aA xs.length a)(hx: ¬xs.getD b 0=0):bB aA aB xs (b:Int) (a:Int)=true∧bH aA aB xs (b:Int) (a:Int)=(xs.set a (xs.getD b 0)).set b 0:=by
 have h1:=aAz h ha h0 hb;have h2:decide (0<xs.getD b 0)=true:=by have:=nK h b;simp only[decide_eq_true_eq];omega
 rw[h2]at h1;exact⟨h1,by unfold bH;rw[if_pos h1];simp only[Int.toNat_natCast]⟩
theorem aIt {aA aB:Int}{xs:List Int}{a b:Nat}(h:aM aA aB xs=true)(ha:a<xs.length)(h0:xs.getD a 0=0)(hb:b∈aS aA xs.length a)(hx:xs.getD b 0=0):bB aA aB xs (b:Int) (a:Int)=false:=by rw[aAz h ha h0 hb,hx];rfl
theorem rJ {aA aB:Int}{xs:List Int}{a b:Nat}(h:aM aA aB xs=true)(ha:a<xs.length)(h0:xs.getD a 0=0)(hb:b∈aS aA xs.length a)(hx: ¬xs.getD b 0=0):
  aM aA aB ((xs.set a (xs.getD b 0)).set b 0)=true∧((xs.set a (xs.getD b 0)).set b 0).length=xs.length∧((xs.set a (xs.getD b 0)).set b 0).getD b 0=0:=by
 obtain⟨h1,h2⟩:=yP h ha h0 hb hx;refine⟨by rw[←h2];exact gZ _ _ h,by simp,?_⟩;have hl:=(bQ.1 hb).1;rw[List.getD_eq_getElem?_getD,List.getElem?_set_self (by simp;exact hl)];rfl
theorem vO {aA aB:Int}: ∀(l:List Nat) (xs:List Int) (a:Nat),aM aA aB xs=true→a<xs.length→xs.getD a 0=0→mE aA xs.length a l→
  aY aA aB xs (cC xs a l).2=((cC xs a l).1,(cC xs a l).2.length)∧aM aA aB (cC xs a l).1=true∧(cC xs a l).1.length=xs.length∧(cC xs a l).2.length≤l.length∧(cC xs a l).1.getD ((a::l).getLast (by simp)) 0=0:=by
 intro l;induction l with
 |nil=>intro xs a h ha h0 _;exact⟨rfl,h,rfl,Nat.le_refl _,by simpa[cC]using h0⟩
 |cons b l ih=>
  intro xs a h ha h0 hs;obtain⟨hb,d⟩:=hs;have c:=(bQ.1 hb).1;by_cases hx:xs.getD b 0=0
  ·rw[pB hx];obtain⟨i1,i2,i3,i4,i5⟩:=ih xs b h c hx d;exact⟨i1,i2,i3,by simp;omega,by simpa using i5⟩
  obtain⟨n1,n2,n3⟩:=rJ h ha h0 hb hx;obtain⟨d1,d2⟩:=yP h ha h0 hb hx;obtain⟨i1,i2,i3,i4,i5⟩:=ih _ b n1 (by rw[n2];exact c) n3 (by rw[n2];exact d);rw[nJ hx];refine⟨?_,i2,by rw[i3,n2],by simp only[List.length_cons];omega,by simpa using i5⟩;dsimp only;rw[eD d1,d2,i1];rfl
theorem qS {aA:Int}{n:Nat}(h:(aA,n)∈gU): ∀(f u:Nat),u<n→mE aA n u (cX aA n f u).tail:=by
 intro f;induction f with
 |zero=>intro u _;exact trivial
 |succ f ih=>
  intro u hu;unfold cX;by_cases h0:u=0
  ·rw[if_pos h0];exact trivial
  rw[if_neg h0];obtain⟨h1,h2,_⟩:=(bT h hu).2.2.2.1 h0;have:=ih (kI aA n u) h1;have hh:=qT aA n f (kI aA n u);simp only[List.tail_cons];cases hw:cX aA n f (kI aA n u)with
  |nil=>rw[hw]at hh;simp at hh
  |cons x l=>rw[hw]at hh this;simp at hh;subst hh;exact⟨h2,this⟩
theorem tM (aA:Int)(n f u:Nat):cX aA n f u=u::(cX aA n f u).tail:=by
 have hh:=qT aA n f u;cases hw:cX aA n f u with
 |nil=>rw[hw]at hh;simp at hh
 |cons x l=>rw[hw]at hh;simp at hh;subst hh;rfl
theorem aGv {aA:Int}{n:Nat}(h:(aA,n)∈gU): ∀(f u:Nat),u<n→aW aA u 0≤f→(cX aA n f u).getLast? =some 0:=by
 intro f;induction f with
 |zero=>intro u hu ha;have g:=bT h hu;have:u=0:=g.2.2.1.1 (by have:=g.1;simp at ha;omega);subst this;rfl
 |succ f ih=>
  intro u hu ha;unfold cX;by_cases h0:u=0
  ·rw[if_pos h0];simp[h0]
  rw[if_neg h0];obtain⟨h1,h2,h3⟩:=(bT h hu).2.2.2.1 h0;have:=ih (kI aA n u) h1 (by rw[h3];simp at ha;omega);rw[List.getLast?_cons,this];rfl
def bJ (xs:List Int):List Nat:=(List.range xs.length).filter (cP xs)
theorem qK (xs:List Int):lC xs=(bJ xs).map (fun(k:Nat)=>(k:Int)):=by
 unfold lC bJ;generalize xs.length=k;induction k with
 |zero=>rfl
 |succ k ih=>rw[List.range_succ,List.filter_append,List.map_append,eW,ih];congr 1;cases h:cP xs k<;>simp[h]
theorem jF {xs:List Int}{u:Nat}(h:u∈bJ xs):u<xs.length∧xs.getD u 0=0:=by unfold bJ at h;rw[List.mem_filter]at h;refine⟨by simpa using h.1,?_⟩;have h2:=h.2;unfold cP at h2;rw[List.getD_eq_getElem?_getD,eq_of_beq h2];rfl
def mK (aA:Int)(best:Option Nat)(u:Nat):Option Nat:=
 match best with
 |none=>some u
 |some v=>if aW aA u 0<aW aA v 0 then some u else some v
def cQ (aA:Int)(l:List Nat):Option Nat:=l.foldl (mK aA) none
theorem yD (aA:Int)(l:List Nat)(u:Nat):cQ aA (l++ [u])=mK aA (cQ aA l) u:=by simp[cQ]
theorem iG (aA:Int)(l:List Nat):(cQ aA l=none↔l= [])∧ ∀u,cQ aA l=some u→u∈l:=by
 suffices h: ∀(l pre:List Nat) (b:Option Nat),(b=none↔pre= [])→(∀u,b=some u→u∈pre)→((l.foldl (mK aA) b=none↔pre++l= [])∧ ∀u,l.foldl (mK aA) b=some u→u∈pre++l)from by simpa[cQ]using h l [] none (by simp) (by simp)
 intro l;induction l with
 |nil=>intro pre b h1 h2;simpa using⟨h1,h2⟩
 |cons x l ih=>
  intro pre b h1 h2
  have:=ih (pre++ [x]) (mK aA b x) (by
   unfold mK;cases b with
   |none=>simp
   |some v=>simp;split<;>simp) (by
   intro u hu;unfold mK at hu;cases b with
   |none=>simp at hu;simp[hu]
   |some v=>
    simp only at hu;split at hu
    ·injection hu with hu;simp[hu]
    ·injection hu with hu;subst hu;exact List.mem_append_left _ (h2 v rfl))
  simpa using this
def gJ (aA:Int)(xs:List Int):Option (List Int×List Sl2):=(cQ aA (bJ xs)).map (fun u=>cC xs u (cX aA xs.length 12 u).tail)
def kW (aA aB:Int)(xs:List Int)(id:Int):Option (List Int×Nat):=
 match gJ aA xs with
 |none=>none
 |some r=>if(cR aA aB r.1 id).2 then some ((cR aA aB r.1 id).1,r.2.length)else none
theorem jE {aA aB:Int}{xs:List Int}(h:aM aA aB xs=true):(aA,xs.length)∈gU:=by obtain⟨h1,h2,h3,h4,h5,h6,h7⟩:=bZ (cM h);exact pC h1 h2 h3 h4 h7
theorem nN {aA aB:Int}{xs:List Int}(h:aM aA aB xs=true){r:List Int×List Sl2}(hr:gJ aA xs=some r):
  aY aA aB xs r.2=(r.1,r.2.length)∧aM aA aB r.1=true∧r.1.length=xs.length∧r.2.length≤5∧r.1.getD 0 0=0:=by
 unfold gJ at hr;cases hn:cQ aA (bJ xs)with
 |none=>rw[hn]at hr;simp at hr
 |some u=>
  rw[hn]at hr;simp at hr;subst hr;obtain⟨hu,h0⟩:=jF ((iG aA _).2 u hn);have hg:=jE h;have g:=bT hg hu;obtain⟨f1,f2,f3,f4,f5⟩:=vO _ xs u h hu h0 (qS hg 12 u hu);have hl:=lP hg 12 u hu (by have:=g.2.1;omega);have hw:=aGv hg 12 u hu (by have:=g.2.1;omega);refine⟨f1,f2,f3,?_,?_⟩
  ·have:=g.2.1;rw[List.length_tail]at f4;omega
  have hc:=tM aA xs.length 12 u;rw[hc,List.getLast?_eq_some_getLast (by simp)]at hw;injection hw with hw;rw[hw]at f5;exact f5
set_option maxHeartbeats 8000000
set_option maxRecDepth 100000
theorem aEy (aA aB:Int)(p:OA)(n c:Nat)(b a m c2:Nat)(ws:List Nat)(w:World)(ai:4≤n)(hn:n≤12)(ah:0<m)(hm:m≤12)(j:Hid (ws.length=m))(hb:b<w.heap.size)
  (HS:Hid (∀(k x:Nat),ws[k]? =some x→w.cell? ⟨b,a+k,none⟩=some (.int .i64 (x:Int)))) (x0:Nat) (c0:w.cell? ⟨b,a,none⟩=some (.int .i64 (x0:Int)))
  (HA:Hid (∀(k x y:Nat),ws[k]? =some x→ws[k+1]? =some y→ ∀w',Ext w w'→Calls Tryz.prog 183 #[aH aA aB p n c,(x:Int),(y:Int)] w' fun e w''=>e= .returned (.int .i64 1)∧Ext w' w''))
  (HV:xB 41 #[aH aA aB p n c] w true)
  (HI:Hid (∀w,Calls Tryz.prog 43 #[(x0:Int),(),((n:Int)-1:Int)] w fun e w'=>e= .returned (.bool true)∧w=w')):
  Calls Tryz.prog 205 #[aH aA aB p n c,.slice (some ⟨b,a,none⟩) m c2] w fun e w'=>e= .returned (.bool true)∧Ext w w':=by
 go_enter Tryz.func205,Tryz.ntmps205;go_wp2;go_loopw [5] (fun i wr=> ∃k:Nat,1≤k∧k≤m∧i= .int .i64 (k:Int)∧Ext w wr∧Blk wr w.heap.size TH3 #[aA,aB,.slice p n c]) (fun i _=>m-(intOf i).toNat)
 case atStart=>exact⟨1,Nat.le_refl _,by omega,rfl,by exact .alloc (.refl _) _,Blk.new _ _ _⟩
 case round=>
  obtain⟨k,ag,hk,rfl,hE,hB⟩:=hrel;have HB:=xQ hB;clear hB;have o:b<wr.heap.size:=Nat.lt_of_lt_of_le hb hE.sz;by_cases hlt:k<m
  ·obtain⟨x,hx⟩: ∃x,ws[k-1]? =some x:=⟨_,List.getElem?_eq_getElem (by rw[j.out];omega)⟩
   obtain⟨y,hy⟩: ∃y,ws[k]? =some y:=⟨_,List.getElem?_eq_getElem (by rw[j.out];omega)⟩
   have HK:=xQ (HA (k-1) x y hx (by rw[show k-1+1=k by omega];exact hy));have ca:wr.cell? ⟨b,a+(k-1),none⟩=some (.int .i64 (x:Int)):=(hE.cells.1 _ _ hb).trans (HS (k-1) x hx);have cb:wr.cell? ⟨b,a+k,none⟩=some (.int .i64 (y:Int)):=(hE.cells.1 _ _ hb).trans (HS k y hy);clear hx hy c0;have i1:(0:Int)≤(k:Int):=by omega
   have i2:(k:Int)<(m:Int):=by omega
   have i3:(k:Int)-1<(m:Int):=by omega
   have i4:((k:Int)-1).toNat=k-1:=by omega
   have i5:(1:Int)≤(k:Int):=by omega
   go_wp2;refine rL (gl [gEq (.agg #[aA,aB,.slice p n c]),gEq (.slice (some ⟨b,a,none⟩) m c2),gEq (k:Int),gEq ((k:Int)-1:Int),gEq (.pointer (some ⟨b,a+(k-1),none⟩)),gEq (x:Int),gEq (.slice (some ⟨b,a,none⟩) m c2),gEq (k:Int),gEq (.pointer (some ⟨b,a+k,none⟩)),gEq (y:Int),gEq (.int .i64 1),gEq (.bool false)]) 12 12 [(0,some 12),(1,some 13),(2,some 14),(3,some 15),(4,some 16),(5,some 17),(6,some 18),(7,some 19),(8,some 20),(9,some 21),(10,some 22),(11,some 23)] ?steps ?fin
   case steps=>
    refine sC [] rfl (fun wi hx=> ?_) ?_
    ·intro K hK;have hX:=hx.of_drew;obtain⟨d,u,v⟩:=(HB.out.ext hX).tri;go_simp;exact hK _ _ ⟨.agg #[aA,aB,.slice p n c],rfl,rfl,Ext.refl _⟩
    refine sS0 [] (sS0 [] ?_);refine sC [(2,some 14)] rfl (fun wi hx=> ?_) ?_
    ·intro v2 h2 K hK;obtain rfl:=h2;have aj:IntKind.i64.wrap ((k:Int)-1)=(k:Int)-1:=IntWalk.i64_in _ (by omega);go_simp;exact hK _ _ ⟨.int .i64 ((k:Int)-1),rfl,rfl,Ext.refl _⟩
    refine sS2 [(1,some 13),(3,some 15)] ?_;refine sC [(4,some 16)] rfl (fun wi hx=> ?_) ?_
    ·intro v4 h4 K hK;obtain rfl:=h4;have hX:=hx.of_drew;have d:wi.cell? ⟨b,a+(k-1),none⟩=some (.int .i64 (x:Int)):=(hX.cells.1 _ _ o).trans ca;go_simp;exact hK _ _ ⟨.int .i64 (x:Int),rfl,rfl,Ext.refl _⟩
    refine sS0 [] (sS0 [] (sS2 [(6,some 18),(7,some 19)] ?_));refine sC [(8,some 20)] rfl (fun wi hx=> ?_) ?_
    ·intro v8 h8 K hK;obtain rfl:=h8;have hX:=hx.of_drew;have d:wi.cell? ⟨b,a+k,none⟩=some (.int .i64 (y:Int)):=(hX.cells.1 _ _ o).trans cb;go_simp;exact hK _ _ ⟨.int .i64 (y:Int),rfl,rfl,Ext.refl _⟩
    refine sC [(0,some 12),(5,some 17),(9,some 21)] rfl (fun wi hx=> ?_) ?_
    ·intro v0 h0 v5 h5 v9 h9 K hK;obtain rfl:=h0;obtain rfl:=h5;obtain rfl:=h9;go_wp2_with fail;refine(HK _ (hE.trans hx.of_drew)).mono ?_;rintro e w5 ⟨rfl,q⟩;go_simp;exact hK _ _ ⟨.int .i64 1,rfl,rfl,q⟩
    exact sS1 [(10,some 22)] StepsL.nil
   case fin=>
    intro wi hx v0 h0 v1 h1 v2 h2 v3 h3 v4 h4 v5 h5 v6 h6 v7 h7 v8 h8 v9 h9 s f t g;obtain rfl:=h0;obtain rfl:=h1;obtain rfl:=h2;obtain rfl:=h3;obtain rfl:=h4;obtain rfl:=h5;obtain rfl:=h6;obtain rfl:=h7;obtain rfl:=h8;obtain rfl:=h9;obtain rfl:=f;obtain rfl:=g;refine wpAny_done (by kernel_rfl) ?_ _;go_frame;have h:=hx.of_drew;go_wp2;go_roundw
    case rel=>exact⟨k+1,by omega,by omega,by go_num,hE.trans h,HB.out.ext h⟩
    case measure=>simp[intOf];omega
  obtain rfl:m=k:=by omega
  have r:=(hE.cells.1 _ _ hb).trans c0;clear c0;have c0:=r;clear r;have i2:(0:Int)<(m:Int):=by omega
  have i6:IntKind.i64.wrap ((n:Int)-1)=(n:Int)-1:=IntWalk.i64_in _ (by omega);go_wp2;refine rL (gl [gEq (.agg #[aA,aB,.slice p n c]),gEq (.bool true),gEq (.bool true),gEq (.slice (some ⟨b,a,none⟩) m c2),gEq (m:Int),gEq (.bool true),gEq (.bool true),gEq (.bool true),gEq (.slice (some ⟨b,a,none⟩) m c2),gEq (.pointer (some ⟨b,a,none⟩)),gEq (x0:Int),gEq (.pointer (some ⟨w.heap.size,2,none⟩)),gEq (.slice p n c),gEq (n:Int),gEq ((n:Int)-1:Int),gEq (.bool true),gEq (.bool true),gEq (.bool true)]) 18 18 [(0,some 24),(1,some 25),(2,some 26),(3,some 27),(4,some 28),(5,some 29),(6,some 30),(7,some 31),(8,some 32),(9,some 33),(10,some 34),(11,some 35),(12,some 36),(13,some 37),(14,some 38),(15,some 39),(16,some 40),(17,some 4)] ?steps ?fin
  case steps=>
   refine sC [] rfl (fun wi hx=> ?_) ?_
   ·intro K hK;have hX:=hx.of_drew;obtain⟨d,u,v⟩:=(HB.out.ext hX).tri;go_simp;exact hK _ _ ⟨.agg #[aA,aB,.slice p n c],rfl,rfl,Ext.refl _⟩
   refine sC [(0,some 24)] rfl (fun wi hx=> ?_) ?_
   ·intro v0 h0 K hK;obtain rfl:=h0;go_wp2_with fail;refine(HV _ (hE.trans hx.of_drew)).mono ?_;rintro e w5 ⟨rfl,q⟩;go_simp;exact hK _ _ ⟨.bool true,rfl,rfl,q⟩
   refine sS1 [(1,some 25)] (sS1 [(2,some 26)] (sS2 [(2,some 26),(3,some 27)] (sS2 [(2,some 26),(4,some 28)] (sS2 [(2,some 26),(5,some 29)] (sS1 [(6,some 30)] (sS1 [(7,some 31)] (sS2 [(7,some 31),(8,some 32)] ?_)))))));refine sC [(7,some 31),(9,some 33)] rfl (fun wi hx=> ?_) ?_
   ·intro v7 h7 v9 h9 K hK;obtain rfl:=h7;obtain rfl:=h9;have hX:=hx.of_drew;have d:wi.cell? ⟨b,a,none⟩=some (.int .i64 (x0:Int)):=(hX.cells.1 _ _ o).trans c0;go_simp;exact hK _ _ ⟨.int .i64 (x0:Int),rfl,rfl,Ext.refl _⟩
   refine sS1 [(7,some 31)] ?_;refine sC [(7,some 31),(11,some 35)] rfl (fun wi hx=> ?_) ?_
   ·intro v7 h7 t g K hK;obtain rfl:=h7;obtain rfl:=g;have hX:=hx.of_drew;have d:=(HB.out.ext hX).cl 2;go_simp;exact hK _ _ ⟨.slice p n c,rfl,rfl,Ext.refl _⟩
   refine sS2 [(7,some 31),(12,some 36)] (sS2 [(7,some 31),(13,some 37)] ?_);refine sC [(7,some 31),(10,some 34),(14,some 38)] rfl (fun wi hx=> ?_) ?_
   ·intro v7 h7 s f af l K hK;obtain rfl:=h7;obtain rfl:=f;obtain rfl:=l;go_wp2_with fail;refine(HI _).mono ?_;rintro e w5 ⟨rfl,rfl⟩;go_simp;exact hK _ _ ⟨.bool true,rfl,rfl,Ext.refl _⟩
   exact sS2 [(7,some 31),(15,some 39)] (sS1 [(16,some 40)] StepsL.nil)
  case fin=>intro wi hx v0 h0 v1 h1 v2 h2 v3 h3 v4 h4 v5 h5 v6 h6 v7 h7 v8 h8 v9 h9 s f t g ak z al aa af l am ab an ad ao ae;obtain rfl:=h0;obtain rfl:=h1;obtain rfl:=h2;obtain rfl:=h3;obtain rfl:=h4;obtain rfl:=h5;obtain rfl:=h6;obtain rfl:=h7;obtain rfl:=h8;obtain rfl:=h9;obtain rfl:=f;obtain rfl:=g;obtain rfl:=z;obtain rfl:=aa;obtain rfl:=l;obtain rfl:=ab;obtain rfl:=ad;obtain rfl:=ae;refine wpAny_done (by kernel_rfl) ?_ _;go_frame;have h:=hx.of_drew;go_wp2;go_ret;exact⟨rfl,hE.trans h⟩
theorem mG (a b:Int): ∀u∈aK (a,b),u.oneCell'=true:=by intro u hu;simp[aK]at hu;rcases hu with rfl|rfl<;>rfl
theorem aHb (aA aB:Int)(pb po:Nat)(n d:Nat)(xs:List Int)(b f m c2 u:Nat)(t ws:List Nat)(w:World)(ce:4≤n)(hn:n≤12)(cd:0<m)(hm:m≤12)(bl:Hid (ws=u::t))(bd:Hid (ws.length=m))(hb:b<w.heap.size)(bv:pb<w.heap.size)
  (bu:Hid (aM aA aB xs=true))(ba:Hid (xs.length=n))(hu:u<n)(bx:Hid (xs.getD u 0=0))(bw:Hid (mE aA n u t))
  (HS:Hid (∀(k x:Nat),ws[k]? =some x→w.cell? ⟨b,f+k,none⟩=some (.int .i64 (x:Int)))) (bp:w.cell? ⟨b,f,none⟩=some (.int .i64 (u:Int))) (bo:w.cell? ⟨pb,po+u,none⟩=some (.int .i64 0))
  (HW:xB 205 #[aH aA aB (some ⟨pb,po,none⟩) n d,.slice (some ⟨b,f,none⟩) m c2] w true)
  (HL:xC 81 #[aH aA aB (some ⟨pb,po,none⟩) n d] w fun w' e w''=> ∃q c,e= .returned (aH aA aB q n c)∧w''.ownsRow w'.heap.size TI 1 (.slice q n c) n (ivs xs)∧Ext w' w''):
  Calls Tryz.prog 179 #[aH aA aB (some ⟨pb,po,none⟩) n d,.slice (some ⟨b,f,none⟩) m c2] w (eY (cC xs u t).2 w):=by
 have j1:(0:Int)≤(u:Int):=by omega
 have j2:(u:Int)<(n:Int):=by omega
 have j3:(0:Int)<(m:Int):=by omega
 go_enter Tryz.func179,Tryz.ntmps179;go_wp2;have ME:=(((Mem.start w).c0 TH3 #[aA,aB,.slice (some ⟨pb,po,none⟩) n d]).made0 TSL 2 (w.heap.size+1) (by simp))
 have X0:=xQ (show Ext w ((w.alloc (.cells #[aA,aB,.slice (some ⟨pb,po,none⟩) n d] TH3)).alloc (.cells #[] TSL))from ME.ext);refine rL (gl [gEq (.agg #[aA,aB,.slice (some ⟨pb,po,none⟩) n d]),gEq (.slice (some ⟨b,f,none⟩) m c2),gEq (.bool true),gEq (.bool false),gEq (.bool false),gEq (.pointer (some ⟨w.heap.size,2,none⟩)),gEq (.slice (some ⟨pb,po,none⟩) n d),gEq (.slice (some ⟨b,f,none⟩) m c2),gEq (.pointer (some ⟨b,f,none⟩)),gEq (u:Int),gEq (.pointer (some ⟨pb,po+u,none⟩)),gEq (.int .i64 0),gEq (.bool false),gEq (.bool false)]) 14 14 [(0,some 12),(1,some 13),(2,some 14),(3,some 15),(4,some 16),(5,some 17),(6,some 18),(7,some 19),(8,some 20),(9,some 21),(10,some 22),(11,some 23),(12,some 24),(13,some 25)] ?steps ?fin
 case steps=>
  refine sC [] rfl (fun wi hx=> ?_) ?_
  ·intro K hK;have hX:Ext ((w.alloc (.cells #[aA,aB,.slice (some ⟨pb,po,none⟩) n d] TH3)).alloc (.cells #[] TSL)) wi:=by exact .trans (.drew (.refl _)) hx
   obtain⟨ad,b7,b8⟩:=((ME.bk 1).ext hX).tri;go_simp;exact hK _ _ ⟨.agg #[aA,aB,.slice (some ⟨pb,po,none⟩) n d],rfl,rfl,Ext.refl _⟩
  refine sS0 [] ?_;refine sC [(0,some 12),(1,some 13)] rfl (fun wi hx=> ?_) ?_
  ·intro v0 h0 v1 h1 K hK;obtain rfl:=h0;obtain rfl:=h1;have hX:Ext w wi:=by exact .trans (.drew (.alloc (.alloc (.refl _) _) _)) hx
   go_wp2_with fail;refine(HW _ hX).mono ?_;rintro e w5 ⟨rfl,ai⟩;go_simp;exact hK _ _ ⟨.bool true,rfl,rfl,ai⟩
  refine sS1 [(2,some 14)] (sS1 [(3,some 15)] (sS1 [(4,some 16)] ?_));refine sC [(4,some 16),(5,some 17)] rfl (fun wi hx=> ?_) ?_
  ·intro v4 h4 v5 h5 K hK;obtain rfl:=h4;obtain rfl:=h5;have hX:Ext ((w.alloc (.cells #[aA,aB,.slice (some ⟨pb,po,none⟩) n d] TH3)).alloc (.cells #[] TSL)) wi:=by exact .trans (.drew (.refl _)) hx
   have ad:=((ME.bk 1).ext hX).cl 2;go_simp;exact hK _ _ ⟨.slice (some ⟨pb,po,none⟩) n d,rfl,rfl,Ext.refl _⟩
  refine sS1 [(4,some 16)] (sS2 [(4,some 16),(7,some 19)] ?_);refine sC [(4,some 16),(8,some 20)] rfl (fun wi hx=> ?_) ?_
  ·intro v4 h4 v8 h8 K hK;obtain rfl:=h4;obtain rfl:=h8;have hX:Ext ((w.alloc (.cells #[aA,aB,.slice (some ⟨pb,po,none⟩) n d] TH3)).alloc (.cells #[] TSL)) wi:=by exact .trans (.drew (.refl _)) hx
   have ad:wi.cell? ⟨b,f,none⟩=some (.int .i64 (u:Int)):=(X0.out.trans hX).cells.1 _ _ hb |>.trans bp;go_simp;exact hK _ _ ⟨.int .i64 (u:Int),rfl,rfl,Ext.refl _⟩
  refine sS3 [(4,some 16),(6,some 18),(9,some 21)] ?_;refine sC [(4,some 16),(10,some 22)] rfl (fun wi hx=> ?_) ?_
  ·intro v4 h4 bj ae K hK;obtain rfl:=h4;obtain rfl:=ae;have hX:Ext ((w.alloc (.cells #[aA,aB,.slice (some ⟨pb,po,none⟩) n d] TH3)).alloc (.cells #[] TSL)) wi:=by exact .trans (.drew (.refl _)) hx
   have ad:wi.cell? ⟨pb,po+u,none⟩=some (.int .i64 0):=(X0.out.trans hX).cells.1 _ _ bv |>.trans bo;go_simp;exact hK _ _ ⟨.int .i64 0,rfl,rfl,Ext.refl _⟩
  exact sS2 [(4,some 16),(11,some 23)] (sS2 [(4,some 16),(12,some 24)] StepsL.nil)
 case fin=>
  intro wi hx v0 h0 v1 h1 v2 h2 v3 h3 v4 h4 v5 h5 v6 h6 v7 h7 v8 h8 v9 h9 bj ae cg bq ch br ci bs;obtain rfl:=h0;obtain rfl:=h1;obtain rfl:=h2;obtain rfl:=h3;obtain rfl:=h4;obtain rfl:=h5;obtain rfl:=h6;obtain rfl:=h7;obtain rfl:=h8;obtain rfl:=h9;obtain rfl:=ae;obtain rfl:=bq;obtain rfl:=br;obtain rfl:=bs;refine wpAny_done (by kernel_rfl) ?_ _;try go_frame
  have hX:Ext ((w.alloc (.cells #[aA,aB,.slice (some ⟨pb,po,none⟩) n d] TH3)).alloc (.cells #[] TSL)) wi:=hx.of_drew;have M1:=(ME.adv hX)
  clear ME X0 hx hX;have s:=M1.hi 1;obtain⟨c0,c1,c2⟩:=(M1.bk 1).tri;go_wp2_with fail;clear c0 c1 c2;refine(HL _ M1.ext).mono ?_;rintro e w2 ⟨q0,c0,rfl,bc,bf⟩;have M2:=(M1.call bf bc)
  clear M1 s bf bc HW;have a1:=M2.hi 2;have a5:=xQ (M2.c0 TH3 #[aA,aB,.slice q0 n c0]);go_wp2;go_loopw [5,7] (fun v i wr=> ∃(k x:Nat) (rest:List Nat) (ys:List Int) (q:OA) (c:Nat) (q5:OA) (l lc:Nat) (sl:List Sl2),1≤k∧k≤m∧i= .int .i64 k∧v= .slice q5 l lc∧l=sl.length∧l≤k∧ws.drop (k-1)=x::rest∧aM aA aB ys=true∧ys.length=n∧x<n∧ys.getD x 0=0∧mE aA n x rest∧sl++(cC ys x rest).2=(cC xs u t).2∧Mem w wr [aI w.heap.size (w2.heap.size) TH3 #[aA,aB,.slice q n c],aJ w.heap.size TI 1 (q) (n) (c) (ivs ys),aJ w.heap.size TSL 2 (q5) (l) (lc) (sl.flatMap aK),aI w.heap.size (w.heap.size) TH3 #[aA,aB,.slice (some ⟨pb,po,none⟩) n d]]) (fun _ i _=>m-(intOf i).toNat)
  case atStart=>exact⟨1,u,t,xs,q0,c0,some ⟨w.heap.size+1,0,none⟩,0,0,[],Nat.le_refl _,by omega,rfl,rfl,rfl,by omega,by rw[bl.out];rfl,bu.out,ba.out,hu,bx.out,bw.out,rfl,a5.out⟩
  case round=>
   clear a5 M2 a1;obtain⟨k,x,rest,ys,q,c,q5,l,lc,sl,b9,hk,rfl,rfl,hl,cc,a6,am,bb,aw,be,ao,an,hM⟩:=hrel;have ag:=xQ a6;have o:=xQ am;have g:=xQ bb;have ar:=xQ be;have ab:=xQ ao;have aa:=xQ an;have aq:=xQ hl;have HM:=hM;clear a6 am bb be ao an hM hl;by_cases hlt:k<m
   ·obtain⟨y,rest',p⟩: ∃y rest',rest=y::rest':=by
     have h1:=congrArg List.length ag.out;rw[List.length_drop,bd.out]at h1;cases rest with
     |nil=>simp at h1;omega
     |cons y r=>exact⟨y,r,rfl⟩
    subst p;have bh:ws[k-1]? =some x:=by have:=congrArg (fun z=>z[0]?) ag.out;simpa using this
    have af:ws.drop k=y::rest':=by have:=congrArg List.tail ag.out;rw[List.tail_drop,show k-1+1=k by omega]at this;exact this
    have bi:ws[k]? =some y:=by have:=congrArg (fun z=>z[0]?) af;simpa using this
    have ak:=xQ af;have au:y∈aS aA n x:=ab.out.1;have bg:y<n:=(bQ.1 au).1;have ap:=xQ au;have aj:=HM.ext;have ca:wr.cell? ⟨b,f+(k-1),none⟩=some (.int .i64 (x:Int)):=(aj.cells.1 _ _ hb).trans (HS (k-1) x bh);have cb:wr.cell? ⟨b,f+k,none⟩=some (.int .i64 (y:Int)):=(aj.cells.1 _ _ hb).trans (HS k y bi);have a4:b<wr.heap.size:=Nat.lt_of_lt_of_le hb aj.sz;clear af au bh bi aj;have i1:(0:Int)≤(k:Int):=by omega
    have i2:(k:Int)<(m:Int):=by omega
    have i3:(k:Int)-1<(m:Int):=by omega
    have i4:((k:Int)-1).toNat=k-1:=by omega
    have i5:(1:Int)≤(k:Int):=by omega
    go_wp2;refine rL (gl [gEq (.slice (some ⟨b,f,none⟩) m c2),gEq (k:Int),gEq (.pointer (some ⟨b,f+k,none⟩)),gEq (y:Int),gEq (.slice (some ⟨b,f,none⟩) m c2),gEq (k:Int),gEq ((k:Int)-1:Int),gEq (.pointer (some ⟨b,f+(k-1),none⟩)),gEq (x:Int),gEq (.agg #[(y:Int),(x:Int)]),aKb (wr.heap.size) TSL #[(),()]]) 11 12 [(0,some 35),(1,some 36),(2,some 37),(3,some 38),(4,some 39),(5,some 40),(6,some 41),(7,some 42),(8,some 43),(9,some 44),(10,some 8)] ?steps ?fin
    case steps=>
     refine sS0 [] (sS0 [] (sS2 [(0,some 35),(1,some 36)] ?_));refine sC [(2,some 37)] rfl (fun wi hx=> ?_) ?_
     ·intro v2 h2 K hK;obtain rfl:=h2;have hX:=hx.of_drew;have ad:wi.cell? ⟨b,f+k,none⟩=some (.int .i64 (y:Int)):=(hX.cells.1 _ _ a4).trans cb;go_simp;exact hK _ _ ⟨.int .i64 (y:Int),rfl,rfl,Ext.refl _⟩
     refine sS0 [] (sS0 [] ?_);refine sC [(5,some 40)] rfl (fun wi hx=> ?_) ?_
     ·intro v5 h5 K hK;obtain rfl:=h5;have cf:IntKind.i64.wrap ((k:Int)-1)=(k:Int)-1:=IntWalk.i64_in _ (by omega);go_simp;exact hK _ _ ⟨.int .i64 ((k:Int)-1),rfl,rfl,Ext.refl _⟩
     refine sS2 [(4,some 39),(6,some 41)] ?_;refine sC [(7,some 42)] rfl (fun wi hx=> ?_) ?_
     ·intro v7 h7 K hK;obtain rfl:=h7;have hX:=hx.of_drew;have ad:wi.cell? ⟨b,f+(k-1),none⟩=some (.int .i64 (x:Int)):=(hX.cells.1 _ _ a4).trans ca;go_simp;exact hK _ _ ⟨.int .i64 (x:Int),rfl,rfl,Ext.refl _⟩
     refine sS2 [(3,some 38),(8,some 43)] ?_;refine sC [] rfl (fun wi hx=> ?_) StepsL.nil
     ·intro K hK;go_simp;exact hK _ _ ⟨.pointer (some ⟨wi.heap.size,0,none⟩),rfl,⟨wi.heap.size,rfl,by have:=hx.sz;simp at this;omega,Blk.new _ _ _⟩,(Ext.refl _).alloc _⟩
    case fin=>
     intro wi hx v0 h0 v1 h1 v2 h2 v3 h3 v4 h4 v5 h5 v6 h6 v7 h7 v8 h8 v9 h9 bj ae;obtain rfl:=h0;obtain rfl:=h1;obtain rfl:=h2;obtain rfl:=h3;obtain rfl:=h4;obtain rfl:=h5;obtain rfl:=h6;obtain rfl:=h7;obtain rfl:=h8;obtain rfl:=h9;obtain⟨ah,rfl,al,a3⟩:=ae;have hX:Ext wr wi:=hx.of_drew;have M1:=(show Mem w wi [aI w.heap.size (ah) TSL #[(),()],aI w.heap.size (w2.heap.size) TH3 #[aA,aB,.slice q n c],aJ w.heap.size TI 1 (q) (n) (c) (ivs ys),aJ w.heap.size TSL 2 (q5) (l) (lc) (sl.flatMap aK),aI w.heap.size (w.heap.size) TH3 #[aA,aB,.slice (some ⟨pb,po,none⟩) n d]]from HM.blkOf hX a3 al)
     clear HM hx hX ca cb a3 al;have ax:=M1.hi 0;have s:=M1.hi 1;have ay:=M1.hi 4;try go_frame
     have z0:=(M1.bk 0).cl 0;have b5:=(M1.bk 0).frozen 0;have z1:=(M1.bk 0).cl 1;have b6:=(M1.bk 0).frozen 1;refine wpAny_ready (rs:= [11]) (by kernel_rfl) (by simp) ?_;refine AllReady.cons rfl (fun K hK=> ?_) AllReady.nil;go_simp;refine hK _ _ ?_;clear hK K z0 b5 z1 b6;have M2:=((M1.st 0 0 (.int .i64 (y:Int))).st 0 1 (.int .i64 (x:Int)))
     generalize ((wi.setCell ⟨ah,0,none⟩ (.int .i64 (y:Int))).setCell ⟨ah,1,none⟩ (.int .i64 (x:Int)))=w4 at M2⊢;clear M1 ax s ay;have az:=M2.hi 0;have a0:=M2.hi 1;have a2:=M2.hi 4;refine wpAny_done (by kernel_rfl) ?_ _;try go_frame
     obtain⟨h,j⟩:=M2.nq 0 1;obtain⟨n0,n1,n2⟩:=(M2.bk 1).tri;have s0:=(M2.bk 0).cl 0;have s1:=(M2.bk 0).cl 1;have HD:=xQ (fun w' (hx:Ext w4 w')=>kX aA aB (y:Int) (x:Int) q n c ys w' ((M2.sq 2).ext hx) o.out);go_wp2_with fail;refine(HD _ (by exact .refl _)).mono ?_;rintro e w5 ⟨q6,c6,rfl,av,ai⟩;have a9:(bH aA aB ys (y:Int) (x:Int)).length=n:=by rw[cT,g.out]
     rw[a9]at av⊢;clear a9 HD h j n0 n1 n2 s0 s1;have M3:=(M2.call ai av)
     clear M2 az a0 a2 ai av;have bz:=M3.hi 1;have b0:=M3.hi 2;have b1:=M3.hi 5;by_cases hy0:ys.getD y 0=0
     ·have hm:bB aA aB ys (y:Int) (x:Int)=false:=by have:=aIt o (by rw[g.out];exact aw) ar (by rw[g.out];exact ap.out) hy0;exact this
      have hr:=xQ (pB (a:=x) (l:=rest') hy0);have bm:=xQ hy0;clear hy0;rw[hm];clear hm;go_wp2;go_roundw
      case rel=>exact⟨k+1,y,rest',ys,q,c,q5,l,lc,sl,by omega,by omega,by go_num,rfl,aq.out,by omega,by rw[Nat.add_sub_cancel];exact ak.out,o.out,g.out,bg,bm.out,ab.out.2,by rw[←aa.out,hr.out],((M3.c0 TH3 #[aA,aB,.slice q6 n c6]).pick [3,4,5,6] (by decide) rfl)⟩
      case measure=>simp[intOf];omega
     obtain⟨hm,hd⟩:=yP o (by rw[g.out];exact aw) ar (by rw[g.out];exact ap.out) hy0;obtain⟨n1,n2,n3⟩:=rJ o (by rw[g.out];exact aw) ar (by rw[g.out];exact ap.out) hy0;have hr:=xQ (nJ (a:=x) (l:=rest') hy0);rw[hd]at M3;rw[hm];clear hm hd hy0;generalize (ys.set x (ys.getD y 0)).set y 0=zs at*;have N1:=xQ n1;have N2:=xQ n2;have N3:=xQ n3;clear n1 n2 n3;obtain⟨h,j⟩:=M3.nq 1 2;obtain⟨n0,b2,n1,b3,n2,b4⟩:=(M3.bk 2).trif;have s0:=(M3.bk 1).cl 0;have s1:=(M3.bk 1).cl 1;go_wp2_with (at_builtin;go_loud (refine cE oD rfl _ _ rfl (((((M3.store (i:=2) rfl 0 (.int .i64 aA)).store (i:=2) rfl 1 (.int .i64 aB)).store (i:=2) rfl 2 (.slice q6 n c6)).bn TH3 #[aA,aB,.slice q6 n c6] (w5.heap.size)).adv ((Ext.refl _).alloc (.cells #[(y:Int),(x:Int)] TSL))) 5 rfl rfl (aK ((y:Int),(x:Int))) rfl (dJ _ _ _ 1 2 _ (by simp) (by simp) (by simp[maxLen])) (mG _ _) (by omega) ?_;intro q7 c7 w6 M6));clear h j n0 b2 n1 b3 n2 b4 s0 s1;have M7:=(show Mem w w6 [aI w.heap.size (w5.heap.size) TH3 #[aA,aB,.slice q6 n c6],aJ w.heap.size TI 1 (q6) (n) (c6) (ivs zs),aI w.heap.size (ah) TSL #[(y:Int),(x:Int)],aI w.heap.size (w2.heap.size) TH3 #[aA,aB,.slice q6 n c6],aJ w.heap.size TI 1 (q) (n) (c) (ivs ys),aJ w.heap.size TSL 2 (q7) (l+1) (c7) (sl.flatMap aK++aK ((y:Int),(x:Int))),aI w.heap.size (w.heap.size) TH3 #[aA,aB,.slice (some ⟨pb,po,none⟩) n d]]from M6)
     clear M6 M3;have a8:Hid (sl.flatMap aK++aK ((y:Int),(x:Int))=(sl++ [((y:Int),(x:Int))]).flatMap aK):=by show _=_;rw[List.flatMap_append];simp
     rw[a8.out]at M7;clear a8;go_wp2;go_roundw
     case rel=>exact⟨k+1,y,rest',zs,q6,c6,q7,l+1,c7,sl++ [((y:Int),(x:Int))],by omega,by omega,by go_num,rfl,by rw[List.length_append,←aq.out];rfl,by omega,by rw[Nat.add_sub_cancel];exact ak.out,N1.out,by rw[N2.out,g.out],bg,N3.out,ab.out.2,by rw[←aa.out,hr.out];simp,(M7.pick [3,1,5,6] (by decide) rfl)⟩
     case measure=>simp[intOf];omega
   obtain rfl:m=k:=by omega
   have p:rest= []:=by
    have h1:=congrArg List.length ag.out;rw[List.length_drop,bd.out]at h1;cases rest with
    |nil=>rfl
    |cons y r=>simp at h1;omega
   subst p;have a7:Hid (sl=(cC xs u t).2):=by show _=_;rw[←aa.out];simp[cC]
   go_wp2;go_ret;have bt:=aq.out;subst bt;rw[←a7.out];exact⟨q5,lc,rfl,HM.ow 2,HM.ext⟩
end Go.Proofs.YtpelpnfhbepokaaGreatDoor
