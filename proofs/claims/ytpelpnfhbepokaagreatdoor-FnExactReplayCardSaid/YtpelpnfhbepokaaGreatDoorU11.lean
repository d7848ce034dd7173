/-
  Texts of this proof, packed (@packed).
-/
import Derived.Test.YtpelpnfhbepokaaGreatDoorU10
namespace Go.Proofs.YtpelpnfhbepokaaGreatDoor
open Go.RowKit
set_option linter.unusedVariables false
set_option linter.unusedSimpArgs false
set_option maxHeartbeats 8000000
set_option maxRecDepth 100000
theorem aDa (aA:Int)(n u:Nat):oY aA n (-1) u=aP aA n u:=by unfold oY;rw[List.filter_eq_self];intro v hv;first|(simp;done)|(simp;omega)
theorem aIl (aA aB:Int)(p:OA)(n cap u:Nat)(R:Int)(w:World)(hg:Hid ((aA,n)∈iD))(bw:4≤n)(hn:n≤12)(hu:u<n)(hR:Hid (R=aX aA u 0))(bu:0≤R)
  (HP:xC 183 #[aH aA aB p n cap,(u:Int),()] w fun w' e w''=>e= .returned (.int .i64 R)∧Ext w' w'')
  (HF:xC 227 #[aH aA aB p n cap,(),(-1:Int)] w fun w' e w''=> ∃D,(D.length=n∧ ∀v,v<n→D.getD v 0=aX aA v 0)∧bH D w' e w'')
  (HC:Hid (∀(k:Nat),k<n→ ∀w',Ext w w'→Calls Tryz.prog 228 #[aH aA aB p n cap,k] w' (bH (bA (aP aA n k)) w'))):
  Calls Tryz.prog 204 #[aH aA aB p n cap,(u:Int),(),(-1:Int)] w (bH (bA (cY aA n 12 u)) w):=by
 have a1:(0:Int)≤(u:Int):=by omega
 have a2:(u:Int)<(n:Int):=by omega
 have a3:((-1:Int)==(u:Int))=false:=by first|(simp;done)|(simp;omega)
 have a4:decide (R<0)=false:=by first|(simp;done)|(simp;omega)
 go_enter Tryz.func204,Tryz.ntmps204;go_wp2_with fail;refine(HP _ (by exact .alloc (.alloc (.refl _) _) _)).mono ?_;rintro e w1 ⟨rfl,ah⟩;have B1:=xQ (((Blk.new w TH3 #[aA,aB,.slice p n cap]).alloc (.cells #[] TI)).ext ah);have ho:((w.alloc (.cells #[aA,aB,.slice p n cap] TH3)).alloc (.cells #[] TI)).ownsRow (w.heap.size+1) TI 1 (.slice (some ⟨(w.alloc (.cells #[aA,aB,.slice p n cap] TH3)).heap.size,0,none⟩) 0 0) 0 []:=World.ownsRow_made _ #[] 0 (by simp) (by simp[maxLen]) rfl;have O1:=xQ (bD ho ah);have X1:Ext w w1:=(((Ext.refl _).alloc _).alloc _).trans ah;have s1:w.heap.size+1<w1.heap.size:=by have:=ah.sz;simp at this;omega
 clear ho ah;obtain⟨b0,b1,b2⟩:=B1.out.cells3;have n1:IntKind.i64.wrap ((n:Int)-1)=(n:Int)-1:=IntWalk.i64_in _ (by omega);have t1:decide ((-1:Int)≤ -1∧(-1:Int)≤(n:Int)-1)=true:=by first|(simp;done)|(simp;omega)
 have HI:Hid (∀w,Calls Tryz.prog 43 #[(-1:Int),(-1:Int),((n:Int)-1:Int)] w fun e w'=>e= .returned (.bool true)∧w=w'):=fun w=>by have:=qP (-1) (-1) ((n:Int)-1) w;rwa[t1]at this
 clear t1;go_wp2_with fail;refine(HI _).mono ?_;rintro e w2 ⟨rfl,rfl⟩;go_wp2_with fail;clear b0 b1 b2;refine(HF _ (by exact X1)).mono ?_;rintro e w2 ⟨D,⟨ar,a7⟩,q2,c2,rfl,o2,ai⟩;rw[ar]at o2⊢;have HD:=xQ ar;have HV:=xQ a7;have X2:=xQ (X1.trans ai);have O2:=xQ (bD O1 ai);have aq:=xQ (show w2.ownsRow (w.heap.size+1) TI 1 (.slice (some ⟨w.heap.size+1,0,none⟩) 0 0) 0 (ivs []) by simpa using O2.out);have B2:=xQ (B1.out.ext ai);have z2:=ai.sz;clear ar a7 ai O1 X1;have s2:=B2.out.lt;obtain⟨gF,rfl,bq,br⟩:=eG o2 (by omega);have F2:=xQ (bK o2 (Nat.le_of_lt s1));have bo:Hid (gF≠w.heap.size+1):=by show _≠_;omega
 clear o2 B1;have dU:D[u]? =some R:=by have:=(dB (D:=D) (v:=u) (by rw[HD.out];exact hu)).1;rw[this,HV u hu,hR.out]
 have cU:w2.cell? ⟨gF,u,none⟩=some (.int .i64 R):=by have:=F2.out.cellAt u (by omega);rw[this];simp[ivs,dU]
 clear dU;obtain⟨wA,bl⟩: ∃wA:World,wA=w2:=⟨_,rfl⟩
 have bi:w.heap.size+1≤w2.heap.size:=s2;go_wp2_with (at_builtin;go_loud (refine fS rfl _ _ rfl (w.heap.size+1) _ _ [] rfl (aq.out.alloc _) _ _ (u:Int) _ rfl (by simp) (by omega) (Nat.le_trans bi (by simp)) ?_;intro p' a w3 c ad g;have m:(Value.slice p' (0+1) a).ownBlock=(Value.slice (some ⟨w.heap.size+1,0,none⟩) 0 0).ownBlock∨(Value.slice p' (0+1) a).ownBlock=some (w2.alloc (.cells #[(u:Int)] TI)).heap.size:=g;have b:World.grownBy _ w3 (Value.slice (some ⟨w.heap.size+1,0,none⟩) 0 0).ownBlock:=ad;have X3:=xQ (Ext.own (X2.out.alloc _) (aq.out.alloc _) b (by omega));have B3:=xQ ((B2.out.alloc _).grown b (by first|(simp[Value.ownBlock];done)|(simp[Value.ownBlock];omega)));have F3:=xQ ((F2.out.alloc _).kept b (.inr (by first|(simp[Value.ownBlock];done)|(simp[Value.ownBlock];omega))));have O3:=xQ c;have z3:=b.size;have A3:=xQ m;clear c ad m b g));have a6:Hid ((Value.slice p' (0+1) a).ownBlock≠some gF):=by
  show _≠_;rcases A3.out with h|h
  ·rw[h];simp[Value.ownBlock];(try omega)
  rw[h];simp;omega
 have s3:w2.heap.size≤w3.heap.size:=Nat.le_trans (by simp) z3;clear A3 X2 B2 F2 O2 aq bl wA z3 cU;have av:=xQ (bR hg.out hu);go_wp2;go_loopw [1,9] (fun v o wr=> ∃(x f:Nat) (pre:List Nat) (q:OA) (l lc:Nat),v= .int .i64 (x:Int)∧x<n∧aX aA x 0≤f∧pre++cY aA n f x=cY aA n 12 u∧o= .slice q l lc∧l=pre.length+1∧wr.ownsRow (w.heap.size+1) TI 1 (.slice q l lc) l (ivs (bA (pre++ [x])))∧wr.ownsRow (w.heap.size+1) TI 1 (.slice (some ⟨gF,0,none⟩) n c2) n (ivs D)∧(Value.slice q l lc).ownBlock≠some gF∧Ext w wr∧Blk wr w.heap.size TH3 #[aA,aB,.slice p n cap]∧w3.heap.size≤wr.heap.size) (fun v _ _=>(aX aA (intOf v) 0).toNat)
 case atStart=>exact⟨u,12,[],p',1,a,rfl,hu,by have:=av.out.2.1;omega,rfl,rfl,rfl,by simpa[bA]using O3.out,F3.out,a6.out,X3.out,B3.out,Nat.le_refl _⟩
 case round=>
  clear O3 F3 a6 X3 B3;obtain⟨x,f,pre,q,l,lc,rfl,hx,hf,ag,rfl,hl,hO,hF,bc,al,hB,bx⟩:=hrel;have ap:=xQ hO;have az:=xQ hF;have a5:=xQ bc;have HB:=xQ hB;have HW:=xQ ag;have ao:=xQ (bR hg.out hx);have ay:=xQ hf;have bn:l≤12:=by have h1:=congrArg List.length ag;have h2:=lX hg.out f x hx hf;have h3:=lX hg.out 12 u hu (by have:=av.out.2.1;omega);have h4:=av.out.2.1;have h5:=ao.out.1;rw[List.length_append]at h1;omega
  have bz:=HB.out.lt;have a0:=xQ hl;clear hO hF bc hB ag hf hl;by_cases h0:x=0
  ·have t0:((x:Int)!=0)=false:=by simp[h0]
   have an:Hid (pre++ [x]=cY aA n 12 u):=by show _=_;rw[←HW.out];subst h0;cases f<;>simp[cY]
   clear h0;go_wp2;go_ret;exact dP (by rw[←an.out];have:=a0.out;simp[bA];omega) (by rw[←an.out];exact bK ap (Nat.le_succ _)) al
  have t0:((x:Int)!=0)=true:=by simp[h0]
  obtain⟨J,bh,am,au⟩:=aFq hg.out hx h0;obtain⟨e1,e2,e3⟩:=ao.out.2.2.2.1 h0;have bm:=xQ h0;obtain⟨y,hy⟩: ∃y,y=kS aA n x:=⟨_,rfl⟩
  rw[←hy]at am e1 e2 e3;have HY:=xQ hy;clear hy h0;obtain⟨nb,ae⟩: ∃nb,nb=aP aA n x:=⟨_,rfl⟩
  rw[←ae]at bh am au;have ax:Hid (∀w',Ext w w'→Calls Tryz.prog 228 #[aH aA aB p n cap,(x:Int)] w' (bH (bA nb) w')):=by rw[ae];exact HC x hx
  have bf:=xQ ae;have bj:nb.length≤12:=by rw[ae];exact Nat.le_trans (List.length_filter_le _ _) (by simp;omega)
  have a8:=xQ am;have a9:=xQ au;have ak:=xQ e3;clear ae am au e2 e3;have bb:(bA nb).length=nb.length:=by simp[bA]
  obtain⟨b0,b1,b2⟩:=HB.out.cells3;go_wp2_with fail;clear b0 b1 b2;refine(ax _ al).mono ?_;rintro e w5 ⟨q5,c5,rfl,o5,z⟩;rw[bb]at o5⊢;obtain⟨gN,rfl,bs,bt⟩:=eG o5 (by omega);have O5:=xQ (bD ap z);have F5:=xQ (bD az z);have B5:=xQ (HB.out.ext z);have X5:=xQ (al.trans z);have N5:=xQ o5;have z5:=z.sz;clear ap az HB al o5 z ax;go_wp2;go_loopw [12] (fun i wz=> ∃j:Nat,j≤J∧i= .int .i64 j∧Ext w5 wz) (fun i _=>J-(intOf i).toNat)
  case atStart=>exact⟨0,Nat.zero_le _,rfl,Ext.refl _⟩
  case round=>
   obtain⟨j,hj,rfl,hZ⟩:=hrel;obtain⟨v,hv⟩: ∃v,nb[j]? =some v:=⟨_,List.getElem?_eq_getElem (by omega)⟩
   have af:v<n:=(bM.1 (by rw[←bf.out];exact List.mem_of_getElem? hv:v∈aP aA n x)).1;have aj:=xQ hv;have aa:=(dB (D:=D) (v:=v) (by rw[HD.out];exact af)).1;have ab:=(dB (D:=D) (v:=x) (by rw[HD.out];exact hx)).1;rw[HV v af]at aa;rw[HV x hx]at ab;obtain⟨dv,r⟩: ∃d,d=aX aA v 0:=⟨_,rfl⟩
   obtain⟨dx,t⟩: ∃d,d=aX aA x 0:=⟨_,rfl⟩
   have gv:=bR hg.out af;have gx:=ao.out;rw[←r]at aa gv;rw[←t]at ab gx;have m1:(0:Int)≤(j:Int):=by omega
   have m2:(j:Int)<(nb.length:Int):=by omega
   have m3:(0:Int)≤(v:Int):=by omega
   have m4:(v:Int)<(n:Int):=by omega
   have m5:(0:Int)≤(x:Int):=by omega
   have m6:(x:Int)<(n:Int):=by omega
   have m7:((v:Int)== -1)=false:=by first|(simp;done)|(simp;omega)
   have w7:IntKind.i64.wrap (dx-1)=dx-1:=IntWalk.i64_in _ (by omega);have FZ:=xQ (bD F5 hZ);have NZ:=xQ (bD N5 hZ);have cn:wr.cell? ⟨gN,j,none⟩=some (.int .i64 (v:Int)):=by have:=NZ.out.cellAt j (by omega);rw[this];simp[ivs,bA,aj.out]
   have cf:wr.cell? ⟨gF,v,none⟩=some (.int .i64 dv):=by have:=FZ.out.cellAt v (by omega);rw[this];simp only[ivs,List.getElem?_map,aa,Option.map_some]
   have cx:wr.cell? ⟨gF,x,none⟩=some (.int .i64 dx):=by have:=FZ.out.cellAt x (by omega);rw[this];simp only[ivs,List.getElem?_map,ab,Option.map_some]
   by_cases hjJ:j<J
   ·have bd:(dv !=dx-1)=true:=by
     have:=a9.out j v hjJ aj.out;rw[←r,←t]at this;simpa using this
    clear aa ab r t gv gx;go_wp2;go_quiet (fail);go_wp2;go_roundw
    case rel=>exact⟨j+1,by omega,by go_num,by exact .drewN hZ _⟩
    case measure=>simp[intOf];omega
   obtain rfl:j=J:=by omega
   have bk:v=y:=by have h1:=aj.out;rw[a8.out]at h1;injection h1 with h1;exact h1.symm
   subst bk;have bd:(dv !=dx-1)=false:=by have:=ak.out;rw[←r,←t]at this;simp[this]
   have ba:=xQ (show 1≤aX aA (x:Int) 0 by have h1:=(bR hg.out af).1;have h2:=ak.out;omega);clear aa ab r gv;go_wp2;go_quiet (fail);generalize be:World.drewN _ _=wq;have s:Ext w5 wq:=by rw[←be];exact hZ.drewN _
   clear be cn cf cx FZ NZ hZ;have OQ:=xQ (bD O5 s);have FQ:=xQ (bD F5 s);have NQ:=xQ (bD N5 s);have BQ:=xQ (B5.out.ext s);have XQ:=xQ (X5.out.trans s);have zq:=s.sz;clear O5 F5 N5 B5 X5 s;have cn:wq.cell? ⟨gN,j,none⟩=some (.int .i64 (v:Int)):=by have:=NQ.out.cellAt j (by omega);rw[this];simp[ivs,bA,aj.out]
   have lO:w.heap.size+1≤wq.heap.size:=by omega
   have bp:=(FQ.out.lt gF rfl).2;go_wp2_with (at_builtin;go_loud (refine fS rfl _ _ rfl (w.heap.size+1) (.slice q l lc) l (bA (pre++ [x])) rfl (OQ.out.alloc _) _ _ (v:Int) _ rfl (by simp) (by omega) (Nat.le_trans lO (by simp)) ?_;intro p' a w9 c ad g;have m:(Value.slice p' (l+1) a).ownBlock=(Value.slice q l lc).ownBlock∨(Value.slice p' (l+1) a).ownBlock=some (wq.alloc (.cells #[(v:Int)] TI)).heap.size:=g;have b:World.grownBy _ w9 (Value.slice q l lc).ownBlock:=ad;have X9:=xQ (Ext.own (XQ.out.alloc _) (OQ.out.alloc _) b (by omega));have B9:=xQ (rE OQ b BQ.out);have F9:=xQ ((FQ.out.alloc _).kept b (.inr (Ne.symm a5.out)));have O9:=xQ c;have z9:=b.size;have A9:=xQ m;clear c ad m b g));have bg:Hid ((Value.slice p' (l+1) a).ownBlock≠some gF):=by
    show _≠_;rcases A9.out with h|h
    ·rw[h];exact a5.out
    rw[h];simp;omega
   have b3:wq.heap.size≤w9.heap.size:=Nat.le_trans (by simp) z9;clear z9 cn;have bv:0<f:=by have:=ay.out;have:=ba.out;omega
   obtain⟨f',rfl⟩: ∃f',f=f'+1:=⟨f-1,by omega⟩
   have aw:Hid ((pre++ [x])++cY aA n f' v=cY aA n 12 u):=by
    show _=_;rw[←HW.out]
    conv=>rhs;rw[cY,if_neg bm.out,←HY.out]
    simp
   go_roundw
   case rel=>exact⟨v,f',pre++ [x],p',l+1,a,by go_num,af,by have:=ak.out;have:=ay.out;omega,aw.out,rfl,by have:=a0.out;simp;omega,by have:=O9.out;simpa[bA]using this,F9.out,bg.out,X9.out,B9.out,by omega⟩
   case measure=>simp[intOf];have:=ak.out;have:=ba.out;omega
theorem yY (aA aB:Int)(p:OA)(n cap u:Nat)(xs:List Int)(w:World)(hS:Sl w p n cap 1 (ivs xs))(a:aN aA aB xs=true)(hu:u<n):
  Calls Tryz.prog 204 #[aH aA aB p n cap,(u:Int),(),(-1:Int)] w (bH (bA (cY aA n 12 u)) w):=by
 have hl:=hS.ilen;obtain⟨g1,g2,g3,g4,g5,g6,g7,g8,g9⟩:=bQ a;have hg:=pR (n:=n) g1 g2 g3 g4 (by omega);refine aIl aA aB p n cap u (aX aA u 0) w hg (by omega) (by omega) hu rfl (bR hg hu).1 (fun w' hx=> ?_) (fun w' hx=> ?_) (fun k hk w' hx=> ?_)
 ·have:=zW aA aB u 0 p n cap xs w' (hS.ext hx);rwa[dC,if_pos ⟨a,by omega,by omega⟩]at this
 ·refine(aHe aA aB p n cap 0 (-1) xs w' (hS.ext hx) a (by omega)).mono ?_;rintro e w2 ⟨D,hD,hr⟩;exact⟨D,⟨hD.len,fun v hv=>yR hg (aDa aA n) hD hv⟩,hr⟩
 have:=aE0 aA aB k p n cap xs w' (hS.ext hx) a (by omega) (by omega);rwa[kQ]at this
end Go.Proofs.YtpelpnfhbepokaaGreatDoor
namespace Go.Proofs.YtpelpnfhbepokaaGreatDoor
open Go.RowKit
set_option linter.unusedVariables false
set_option linter.unusedSimpArgs false
def bY:List Int→Nat→List Nat→List Int×List Sl2
 |xs,_,[]=>(xs,[])
 |xs,a,b::l=>if xs.getD b 0=0 then bY xs b l else((bY ((xs.set a (xs.getD b 0)).set b 0) b l).1,((b:Int),(a:Int))::(bY ((xs.set a (xs.getD b 0)).set b 0) b l).2)
theorem pQ {xs:List Int}{a b:Nat}{l:List Nat}(h:xs.getD b 0=0):bY xs a (b::l)=bY xs b l:=by rw[bY,if_pos h]
theorem nV {xs:List Int}{a b:Nat}{l:List Nat}(h: ¬xs.getD b 0=0):bY xs a (b::l)=((bY ((xs.set a (xs.getD b 0)).set b 0) b l).1,((b:Int),(a:Int))::(bY ((xs.set a (xs.getD b 0)).set b 0) b l).2):=by rw[bY,if_neg h]
def mI (aA:Int)(n:Nat):Nat→List Nat→Prop
 |_,[]=>True
 |a,b::l=>b∈aP aA n a∧mI aA n b l
theorem cK {aA aB:Int}{xs:List Int}(h:aN aA aB xs=true):jO aA aB xs.length=true:=by unfold aN at h;rw[Bool.and_eq_true]at h;exact h.1
theorem nW {aA aB:Int}{xs:List Int}(h:aN aA aB xs=true)(b:Nat):0≤xs.getD b 0:=by
 unfold aN at h;rw[Bool.and_eq_true]at h;have h1:=((gC _ _).1 h.2).1;rw[List.getD_eq_getElem?_getD];cases hx:xs[b]? with
 |none=>simp
 |some x=>exact(h1 x (List.mem_of_getElem? hx)).1
theorem aCs {aA aB:Int}{xs:List Int}{a b:Nat}(h:aN aA aB xs=true)(ha:a<xs.length)(h0:xs.getD a 0=0)(hb:b∈aP aA xs.length a):aZ aA aB xs (b:Int) (a:Int)=decide (0<xs.getD b 0):=by
 obtain⟨h1,h2⟩:=bM.1 hb;have h3:dC aA aB xs (b:Int) (a:Int)=1:=by unfold dC;rw[if_pos ⟨h,⟨by omega,by omega⟩,by omega,by omega⟩,vY];exact h2
 unfold aZ;rw[h3];simp only[Int.toNat_natCast,h0];simp
theorem aAo {aA aB:Int}{xs:List Int}{a b:Nat}(h:aN aA aB xs=true)(ha:a<xs.length)(h0:xs.getD a 0=0)(hb:b∈aP aA xs.length a)(hx: ¬xs.getD b 0=0):aZ aA aB xs (b:Int) (a:Int)=true∧bC aA aB xs (b:Int) (a:Int)=(xs.set a (xs.getD b 0)).set b 0:=by
 have h1:=aCs h ha h0 hb;have h2:decide (0<xs.getD b 0)=true:=by have:=nW h b;simp only[decide_eq_true_eq];omega
 rw[h2]at h1;exact⟨h1,by unfold bC;rw[if_pos h1];simp only[Int.toNat_natCast]⟩
theorem aKd {aA aB:Int}{xs:List Int}{a b:Nat}(h:aN aA aB xs=true)(ha:a<xs.length)(h0:xs.getD a 0=0)(hb:b∈aP aA xs.length a)(hx:xs.getD b 0=0):aZ aA aB xs (b:Int) (a:Int)=false:=by rw[aCs h ha h0 hb,hx];rfl
theorem sG {aA aB:Int}{xs:List Int}{a b:Nat}(h:aN aA aB xs=true)(ha:a<xs.length)(h0:xs.getD a 0=0)(hb:b∈aP aA xs.length a)(hx: ¬xs.getD b 0=0):
  aN aA aB ((xs.set a (xs.getD b 0)).set b 0)=true∧((xs.set a (xs.getD b 0)).set b 0).length=xs.length∧((xs.set a (xs.getD b 0)).set b 0).getD b 0=0:=by
 obtain⟨h1,h2⟩:=aAo h ha h0 hb hx;refine⟨by rw[←h2];exact iH _ _ h,by simp,?_⟩;have hl:=(bM.1 hb).1;rw[List.getD_eq_getElem?_getD,List.getElem?_set_self (by simp;exact hl)];rfl
theorem wW {aA aB:Int}: ∀(l:List Nat) (xs:List Int) (a:Nat),aN aA aB xs=true→a<xs.length→xs.getD a 0=0→mI aA xs.length a l→
  aY aA aB xs (bY xs a l).2=((bY xs a l).1,(bY xs a l).2.length)∧aN aA aB (bY xs a l).1=true∧(bY xs a l).1.length=xs.length∧(bY xs a l).2.length≤l.length∧(bY xs a l).1.getD ((a::l).getLast (by simp)) 0=0:=by
 intro l;induction l with
 |nil=>intro xs a h ha h0 _;exact⟨rfl,h,rfl,Nat.le_refl _,by simpa[bY]using h0⟩
 |cons b l ih=>
  intro xs a h ha h0 hs;obtain⟨hb,d⟩:=hs;have c:=(bM.1 hb).1;by_cases hx:xs.getD b 0=0
  ·rw[pQ hx];obtain⟨i1,i2,i3,i4,i5⟩:=ih xs b h c hx d;exact⟨i1,i2,i3,by simp;omega,by simpa using i5⟩
  obtain⟨n1,n2,n3⟩:=sG h ha h0 hb hx;obtain⟨d1,d2⟩:=aAo h ha h0 hb hx;obtain⟨i1,i2,i3,i4,i5⟩:=ih _ b n1 (by rw[n2];exact c) n3 (by rw[n2];exact d);rw[nV hx];refine⟨?_,i2,by rw[i3,n2],by simp only[List.length_cons];omega,by simpa using i5⟩;dsimp only;rw[dX d1,d2,i1];rfl
theorem rH {aA:Int}{n:Nat}(h:(aA,n)∈iD): ∀(f u:Nat),u<n→mI aA n u (cY aA n f u).tail:=by
 intro f;induction f with
 |zero=>intro u _;exact trivial
 |succ f ih=>
  intro u hu;unfold cY;by_cases h0:u=0
  ·rw[if_pos h0];exact trivial
  rw[if_neg h0];obtain⟨h1,h2,_⟩:=(bR h hu).2.2.2.1 h0;have:=ih (kS aA n u) h1;have hh:=rI aA n f (kS aA n u);simp only[List.tail_cons];cases hw:cY aA n f (kS aA n u)with
  |nil=>rw[hw]at hh;simp at hh
  |cons x l=>rw[hw]at hh this;simp at hh;subst hh;exact⟨h2,this⟩
theorem tY (aA:Int)(n f u:Nat):cY aA n f u=u::(cY aA n f u).tail:=by
 have hh:=rI aA n f u;cases hw:cY aA n f u with
 |nil=>rw[hw]at hh;simp at hh
 |cons x l=>rw[hw]at hh;simp at hh;subst hh;rfl
theorem aIh {aA:Int}{n:Nat}(h:(aA,n)∈iD): ∀(f u:Nat),u<n→aX aA u 0≤f→(cY aA n f u).getLast? =some 0:=by
 intro f;induction f with
 |zero=>intro u hu ha;have g:=bR h hu;have:u=0:=g.2.2.1.1 (by have:=g.1;simp at ha;omega);subst this;rfl
 |succ f ih=>
  intro u hu ha;unfold cY;by_cases h0:u=0
  ·rw[if_pos h0];simp[h0]
  rw[if_neg h0];obtain⟨h1,h2,h3⟩:=(bR h hu).2.2.2.1 h0;have:=ih (kS aA n u) h1 (by rw[h3];simp at ha;omega);rw[List.getLast?_cons,this];rfl
def bE (xs:List Int):List Nat:=(List.range xs.length).filter (cV xs)
theorem vO (xs:List Int):pD xs=(bE xs).map (fun(k:Nat)=>(k:Int)):=by
 unfold pD bE;generalize xs.length=k;induction k with
 |zero=>rfl
 |succ k ih=>rw[List.range_succ,List.filter_append,List.map_append,fC,ih];congr 1;cases h:cV xs k<;>simp[h]
theorem jN {xs:List Int}{u:Nat}(h:u∈bE xs):u<xs.length∧xs.getD u 0=0:=by unfold bE at h;rw[List.mem_filter]at h;refine⟨by simpa using h.1,?_⟩;have h2:=h.2;unfold cV at h2;rw[List.getD_eq_getElem?_getD,eq_of_beq h2];rfl
def mO (aA:Int)(best:Option Nat)(u:Nat):Option Nat:=
 match best with
 |none=>some u
 |some v=>if aX aA u 0<aX aA v 0 then some u else some v
def cO (aA:Int)(l:List Nat):Option Nat:=l.foldl (mO aA) none
theorem aA1 (aA:Int)(l:List Nat)(u:Nat):cO aA (l++ [u])=mO aA (cO aA l) u:=by simp[cO]
theorem iO (aA:Int)(l:List Nat):(cO aA l=none↔l= [])∧ ∀u,cO aA l=some u→u∈l:=by
 suffices h: ∀(l pre:List Nat) (b:Option Nat),(b=none↔pre= [])→(∀u,b=some u→u∈pre)→((l.foldl (mO aA) b=none↔pre++l= [])∧ ∀u,l.foldl (mO aA) b=some u→u∈pre++l)from by simpa[cO]using h l [] none (by simp) (by simp)
 intro l;induction l with
 |nil=>intro pre b h1 h2;simpa using⟨h1,h2⟩
 |cons x l ih=>
  intro pre b h1 h2
  have:=ih (pre++ [x]) (mO aA b x) (by
   unfold mO;cases b with
   |none=>simp
   |some v=>simp;split<;>simp) (by
   intro u hu;unfold mO at hu;cases b with
   |none=>simp at hu;simp[hu]
   |some v=>
    simp only at hu;split at hu
    ·injection hu with hu;simp[hu]
    ·injection hu with hu;subst hu;exact List.mem_append_left _ (h2 v rfl))
  simpa using this
def gM (aA:Int)(xs:List Int):Option (List Int×List Sl2):=(cO aA (bE xs)).map (fun u=>bY xs u (cY aA xs.length 12 u).tail)
def lE (aA aB:Int)(xs:List Int)(id:Int):Option (List Int×Nat):=
 match gM aA xs with
 |none=>none
 |some r=>if(cP aA aB r.1 id).2 then some ((cP aA aB r.1 id).1,r.2.length)else none
theorem jM {aA aB:Int}{xs:List Int}(h:aN aA aB xs=true):(aA,xs.length)∈iD:=by obtain⟨h1,h2,h3,h4,h5,h6,h7⟩:=cG (cK h);exact pR h1 h2 h3 h4 h7
theorem oA {aA aB:Int}{xs:List Int}(h:aN aA aB xs=true){r:List Int×List Sl2}(hr:gM aA xs=some r):
  aY aA aB xs r.2=(r.1,r.2.length)∧aN aA aB r.1=true∧r.1.length=xs.length∧r.2.length≤5∧r.1.getD 0 0=0:=by
 unfold gM at hr;cases hn:cO aA (bE xs)with
 |none=>rw[hn]at hr;simp at hr
 |some u=>
  rw[hn]at hr;simp at hr;subst hr;obtain⟨hu,h0⟩:=jN ((iO aA _).2 u hn);have hg:=jM h;have g:=bR hg hu;obtain⟨f1,f2,f3,f4,f5⟩:=wW _ xs u h hu h0 (rH hg 12 u hu);have hl:=lX hg 12 u hu (by have:=g.2.1;omega);have hw:=aIh hg 12 u hu (by have:=g.2.1;omega);refine⟨f1,f2,f3,?_,?_⟩
  ·have:=g.2.1;rw[List.length_tail]at f4;omega
  have hc:=tY aA xs.length 12 u;rw[hc,List.getLast?_eq_some_getLast (by simp)]at hw;injection hw with hw;rw[hw]at f5;exact f5
set_option maxHeartbeats 8000000
set_option maxRecDepth 100000
theorem aGk (aA aB:Int)(p:OA)(n cap:Nat)(b a m c2:Nat)(ws:List Nat)(w:World)(ah:4≤n)(hn:n≤12)(ag:0<m)(hm:m≤12)(h:Hid (ws.length=m))(hb:b<w.heap.size)
  (HS:Hid (∀(k x:Nat),ws[k]? =some x→w.cell? ⟨b,a+k,none⟩=some (.int .i64 (x:Int)))) (x0:Nat) (c0:w.cell? ⟨b,a,none⟩=some (.int .i64 (x0:Int)))
  (HA:Hid (∀(k x y:Nat),ws[k]? =some x→ws[k+1]? =some y→ ∀w',Ext w w'→Calls Tryz.prog 183 #[aH aA aB p n cap,(x:Int),(y:Int)] w' fun e w''=>e= .returned (.int .i64 1)∧Ext w' w''))
  (HV:xB 41 #[aH aA aB p n cap] w true)
  (HI:Hid (∀w,Calls Tryz.prog 43 #[(x0:Int),(),((n:Int)-1:Int)] w fun e w'=>e= .returned (.bool true)∧w=w')):
  Calls Tryz.prog 205 #[aH aA aB p n cap,.slice (some ⟨b,a,none⟩) m c2] w fun e w'=>e= .returned (.bool true)∧Ext w w':=by
 go_enter Tryz.func205,Tryz.ntmps205;go_wp2;go_loopw [5] (fun i wr=> ∃k:Nat,1≤k∧k≤m∧i= .int .i64 (k:Int)∧Ext w wr∧Blk wr w.heap.size TH3 #[aA,aB,.slice p n cap]) (fun i _=>m-(intOf i).toNat)
 case atStart=>exact⟨1,Nat.le_refl _,by omega,rfl,by exact .alloc (.refl _) _,Blk.new _ _ _⟩
 case round=>
  obtain⟨k,af,hk,rfl,hE,hB⟩:=hrel;have HB:=xQ hB;clear hB;have l:b<wr.heap.size:=Nat.lt_of_lt_of_le hb hE.sz;by_cases hlt:k<m
  ·obtain⟨x,hx⟩: ∃x,ws[k-1]? =some x:=⟨_,List.getElem?_eq_getElem (by rw[h.out];omega)⟩
   obtain⟨y,hy⟩: ∃y,ws[k]? =some y:=⟨_,List.getElem?_eq_getElem (by rw[h.out];omega)⟩
   have HK:=xQ (HA (k-1) x y hx (by rw[show k-1+1=k by omega];exact hy));have ca:wr.cell? ⟨b,a+(k-1),none⟩=some (.int .i64 (x:Int)):=(hE.cells.1 _ _ hb).trans (HS (k-1) x hx);have cb:wr.cell? ⟨b,a+k,none⟩=some (.int .i64 (y:Int)):=(hE.cells.1 _ _ hb).trans (HS k y hy);clear hx hy c0;have i1:(0:Int)≤(k:Int):=by omega
   have i2:(k:Int)<(m:Int):=by omega
   have i3:(k:Int)-1<(m:Int):=by omega
   have i4:((k:Int)-1).toNat=k-1:=by omega
   have i5:(1:Int)≤(k:Int):=by omega
   go_wp2;refine rL (gl [gEq (.agg #[aA,aB,.slice p n cap]),gEq (.slice (some ⟨b,a,none⟩) m c2),gEq (k:Int),gEq ((k:Int)-1:Int),gEq (.pointer (some ⟨b,a+(k-1),none⟩)),gEq (x:Int),gEq (.slice (some ⟨b,a,none⟩) m c2),gEq (k:Int),gEq (.pointer (some ⟨b,a+k,none⟩)),gEq (y:Int),gEq (.int .i64 1),gEq (.bool false)]) 12 12 [(0,some 12),(1,some 13),(2,some 14),(3,some 15),(4,some 16),(5,some 17),(6,some 18),(7,some 19),(8,some 20),(9,some 21),(10,some 22),(11,some 23)] ?steps ?fin
   case steps=>
    refine sC [] rfl (fun wi hx=> ?_) ?_
    ·intro K hK;have hX:=hx.of_drew;obtain⟨c,t,u⟩:=(HB.out.ext hX).tri;go_simp;exact hK _ _ ⟨.agg #[aA,aB,.slice p n cap],rfl,rfl,Ext.refl _⟩
    refine sS0 [] (sS0 [] ?_);refine sC [(2,some 14)] rfl (fun wi hx=> ?_) ?_
    ·intro v2 h2 K hK;obtain rfl:=h2;have ai:IntKind.i64.wrap ((k:Int)-1)=(k:Int)-1:=IntWalk.i64_in _ (by omega);go_simp;exact hK _ _ ⟨.int .i64 ((k:Int)-1),rfl,rfl,Ext.refl _⟩
    refine sS2 [(1,some 13),(3,some 15)] ?_;refine sC [(4,some 16)] rfl (fun wi hx=> ?_) ?_
    ·intro v4 h4 K hK;obtain rfl:=h4;have hX:=hx.of_drew;have c:wi.cell? ⟨b,a+(k-1),none⟩=some (.int .i64 (x:Int)):=(hX.cells.1 _ _ l).trans ca;go_simp;exact hK _ _ ⟨.int .i64 (x:Int),rfl,rfl,Ext.refl _⟩
    refine sS0 [] (sS0 [] (sS2 [(6,some 18),(7,some 19)] ?_));refine sC [(8,some 20)] rfl (fun wi hx=> ?_) ?_
    ·intro v8 h8 K hK;obtain rfl:=h8;have hX:=hx.of_drew;have c:wi.cell? ⟨b,a+k,none⟩=some (.int .i64 (y:Int)):=(hX.cells.1 _ _ l).trans cb;go_simp;exact hK _ _ ⟨.int .i64 (y:Int),rfl,rfl,Ext.refl _⟩
    refine sC [(0,some 12),(5,some 17),(9,some 21)] rfl (fun wi hx=> ?_) ?_
    ·intro v0 h0 v5 h5 v9 h9 K hK;obtain rfl:=h0;obtain rfl:=h5;obtain rfl:=h9;go_wp2_with fail;refine(HK _ (hE.trans hx.of_drew)).mono ?_;rintro e w5 ⟨rfl,o⟩;go_simp;exact hK _ _ ⟨.int .i64 1,rfl,rfl,o⟩
    exact sS1 [(10,some 22)] StepsL.nil
   case fin=>
    intro wi hx v0 h0 v1 h1 v2 h2 v3 h3 v4 h4 v5 h5 v6 h6 v7 h7 v8 h8 v9 h9 r d s f;obtain rfl:=h0;obtain rfl:=h1;obtain rfl:=h2;obtain rfl:=h3;obtain rfl:=h4;obtain rfl:=h5;obtain rfl:=h6;obtain rfl:=h7;obtain rfl:=h8;obtain rfl:=h9;obtain rfl:=d;obtain rfl:=f;refine wpAny_done (by kernel_rfl) ?_ _;go_frame;have g:=hx.of_drew;go_wp2;go_roundw
    case rel=>exact⟨k+1,by omega,by omega,by go_num,hE.trans g,HB.out.ext g⟩
    case measure=>simp[intOf];omega
  obtain rfl:m=k:=by omega
  have q:=(hE.cells.1 _ _ hb).trans c0;clear c0;have c0:=q;clear q;have i2:(0:Int)<(m:Int):=by omega
  have i6:IntKind.i64.wrap ((n:Int)-1)=(n:Int)-1:=IntWalk.i64_in _ (by omega);go_wp2;refine rL (gl [gEq (.agg #[aA,aB,.slice p n cap]),gEq (.bool true),gEq (.bool true),gEq (.slice (some ⟨b,a,none⟩) m c2),gEq (m:Int),gEq (.bool true),gEq (.bool true),gEq (.bool true),gEq (.slice (some ⟨b,a,none⟩) m c2),gEq (.pointer (some ⟨b,a,none⟩)),gEq (x0:Int),gEq (.pointer (some ⟨w.heap.size,2,none⟩)),gEq (.slice p n cap),gEq (n:Int),gEq ((n:Int)-1:Int),gEq (.bool true),gEq (.bool true),gEq (.bool true)]) 18 18 [(0,some 24),(1,some 25),(2,some 26),(3,some 27),(4,some 28),(5,some 29),(6,some 30),(7,some 31),(8,some 32),(9,some 33),(10,some 34),(11,some 35),(12,some 36),(13,some 37),(14,some 38),(15,some 39),(16,some 40),(17,some 4)] ?steps ?fin
  case steps=>
   refine sC [] rfl (fun wi hx=> ?_) ?_
   ·intro K hK;have hX:=hx.of_drew;obtain⟨c,t,u⟩:=(HB.out.ext hX).tri;go_simp;exact hK _ _ ⟨.agg #[aA,aB,.slice p n cap],rfl,rfl,Ext.refl _⟩
   refine sC [(0,some 24)] rfl (fun wi hx=> ?_) ?_
   ·intro v0 h0 K hK;obtain rfl:=h0;go_wp2_with fail;refine(HV _ (hE.trans hx.of_drew)).mono ?_;rintro e w5 ⟨rfl,o⟩;go_simp;exact hK _ _ ⟨.bool true,rfl,rfl,o⟩
   refine sS1 [(1,some 25)] (sS1 [(2,some 26)] (sS2 [(2,some 26),(3,some 27)] (sS2 [(2,some 26),(4,some 28)] (sS2 [(2,some 26),(5,some 29)] (sS1 [(6,some 30)] (sS1 [(7,some 31)] (sS2 [(7,some 31),(8,some 32)] ?_)))))));refine sC [(7,some 31),(9,some 33)] rfl (fun wi hx=> ?_) ?_
   ·intro v7 h7 v9 h9 K hK;obtain rfl:=h7;obtain rfl:=h9;have hX:=hx.of_drew;have c:wi.cell? ⟨b,a,none⟩=some (.int .i64 (x0:Int)):=(hX.cells.1 _ _ l).trans c0;go_simp;exact hK _ _ ⟨.int .i64 (x0:Int),rfl,rfl,Ext.refl _⟩
   refine sS1 [(7,some 31)] ?_;refine sC [(7,some 31),(11,some 35)] rfl (fun wi hx=> ?_) ?_
   ·intro v7 h7 s f K hK;obtain rfl:=h7;obtain rfl:=f;have hX:=hx.of_drew;have c:=(HB.out.ext hX).cl 2;go_simp;exact hK _ _ ⟨.slice p n cap,rfl,rfl,Ext.refl _⟩
   refine sS2 [(7,some 31),(12,some 36)] (sS2 [(7,some 31),(13,some 37)] ?_);refine sC [(7,some 31),(10,some 34),(14,some 38)] rfl (fun wi hx=> ?_) ?_
   ·intro v7 h7 r d ae j K hK;obtain rfl:=h7;obtain rfl:=d;obtain rfl:=j;go_wp2_with fail;refine(HI _).mono ?_;rintro e w5 ⟨rfl,rfl⟩;go_simp;exact hK _ _ ⟨.bool true,rfl,rfl,Ext.refl _⟩
   exact sS2 [(7,some 31),(15,some 39)] (sS1 [(16,some 40)] StepsL.nil)
  case fin=>intro wi hx v0 h0 v1 h1 v2 h2 v3 h3 v4 h4 v5 h5 v6 h6 v7 h7 v8 h8 v9 h9 r d s f aj v ak z ae j al aa am ab an ad;obtain rfl:=h0;obtain rfl:=h1;obtain rfl:=h2;obtain rfl:=h3;obtain rfl:=h4;obtain rfl:=h5;obtain rfl:=h6;obtain rfl:=h7;obtain rfl:=h8;obtain rfl:=h9;obtain rfl:=d;obtain rfl:=f;obtain rfl:=v;obtain rfl:=z;obtain rfl:=j;obtain rfl:=aa;obtain rfl:=ab;obtain rfl:=ad;refine wpAny_done (by kernel_rfl) ?_ _;go_frame;have g:=hx.of_drew;go_wp2;go_ret;exact⟨rfl,hE.trans g⟩
end Go.Proofs.YtpelpnfhbepokaaGreatDoor
