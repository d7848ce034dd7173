/-
  Texts of this proof, packed (@packed).
-/
import Derived.Test.YtbgkcehffiogcacGreatDoorQ11
namespace Go.Proofs.YtbgkcehffiogcacGreatDoor
set_option linter.unusedSimpArgs false
set_option linter.unusedVariables false
set_option maxHeartbeats 8000000
set_option maxRecDepth 100000
section
open Go.RowKit Go.Proofs.Tryz
def qU (aA:Int)(n:Nat)(but:Int)(u:Nat):List Nat:=(aS aA n u).filter (fun(v:Nat)=>decide ((v:Int)≠but))
theorem aI0 (aA:Int)(n:Nat)(a:Int):jX aA n a=((List.range n).filter (fun(b:Nat)=>decide (aX aA a b=1))).map (fun(k:Nat)=>(k:Int)):=by
 unfold jX;induction n with
 |zero=>rfl
 |succ n ih=>rw[fP,ih,aTc,aSl,aSq];congr 1;by_cases h:aX aA a n=1<;>simp[h]
theorem lQ (aA:Int)(n u:Nat):jX aA n u=(aS aA n u).map (fun(k:Nat)=>(k:Int)):=aI0 _ _ _
theorem aIx {aA:Int}{n:Nat}{a:Int}{u v:Nat}(h:v∈qU aA n a u):v<n:=(bU.1 (aSi.1 h).1).1
theorem Inv.one {adj:Nat→List Nat}{N s:Nat}(hs:s<N):Inv adj [s] N 0 ((List.replicate N (-1)).set s 0,[s]):=by
 have hl:s<(List.replicate N (-1:Int)).length:=by simpa using hs
 have a: ∀v,v<N→s≠v→((List.replicate N (-1:Int)).set s 0).getD v 0= -1:=by intro v hv e;rw[bR e];simp[List.getD,hv]
 refine⟨by simp,by simpa using hs,?_,by simp,by simp,?_,?_,?_,fun i u hi=>by omega⟩
 ·intro v hv;dsimp only;by_cases e:s=v
  ·subst e;rw[cJ hl];simp
  rw[a v hv e];simp;exact fun h=>e h.symm
 ·intro u hu v hv;simp at hu hv;subst hu hv;omega
 ·intro v hv;simp at hv;subst hv;dsimp only;rw[cJ hl];simp[oQ]
 intro v hv;simp at hv;subst hv;exact⟨by simp,cJ hl⟩
theorem aMp (n s:Nat): ∀x∈(List.replicate n (-1:Int)).set s 0,-1≤x∧x≤((0:Nat):Int):=by
 intro x hx;rcases aT1 hx with h|h
 ·rw[List.mem_replicate]at h;omega
 omega
theorem dL {D:List Int}{v:Nat}(h:v<D.length):D[v]? =some (D.getD v 0)∧D.getD v 0∈D:=by
 have:D[v]? =some (D.getD v 0):=by rw[aRw,aRq h];rfl
 exact⟨this,aRs this⟩
theorem aIl {nb:List Nat}{j v:Nat}{a:Int}(h:nb[j]? =some v) (hb:(v:Int)=a):(nb.take (j+1)).filter (fun(v:Nat)=>decide ((v:Int)≠a))=(nb.take j).filter (fun(v:Nat)=>decide ((v:Int)≠a)):=by rw[aY h,aSl];simp[hb]
theorem aEz {nb:List Nat}{j v:Nat}{a:Int}(h:nb[j]? =some v) (hb:(v:Int)≠a):(nb.take (j+1)).filter (fun(v:Nat)=>decide ((v:Int)≠a))=(nb.take j).filter (fun(v:Nat)=>decide ((v:Int)≠a))++ [v]:=by rw[aY h,aSl];simp[hb]
theorem lK {a:Int}{D:List Int}{Q:List Nat}{v:Nat}(h:D.getD v 0<0):eS a (D,Q) v=(D.set v a,Q++ [v]):=by unfold eS;rw[if_pos h]
theorem nG {a:Int}{D:List Int}{Q:List Nat}{v:Nat}(h: ¬D.getD v 0<0):eS a (D,Q) v=(D,Q):=by unfold eS;rw[if_neg h]
theorem aQh {w:World}{B B2 n m c c2 sz sz2:Nat}{e e2:TypeId}{q q2:OA}{xs ys:List Value}(h1:w.ownsRow B e sz (.slice q n c) n xs)(h2: ∀g,(Value.slice q2 m c2).ownBlock=some g→g<B)(h0:(Value.slice q2 m c2).ownBlock≠none):(Value.slice q2 m c2).ownBlock≠(Value.slice q n c).ownBlock:=by
 intro he;cases hq:(Value.slice q n c).ownBlock with
 |none=>rw[hq]at he;exact h0 he
 |some g=>rw[hq]at he;have:=h2 g he;have:=(h1.lt g hq).1;omega
theorem aQ5 {w:World}{g n base:Nat}{t:TypeId}{cs:Array Value}(h:Blk w g t cs)(hn:cs.size=n)(hm:n≤maxLen)(hb:base≤g):w.ownsRow base t 1 (.slice (some ⟨g,0,none⟩) n n) n cs.toList:=
 ⟨by simpa using hn,.inr ⟨g,n,cs,rfl,hb,h,aRp _,hm,by omega,by rw[Nat.mul_one,aRu (by simp;omega)]⟩⟩
abbrev bG (q:List Nat):List Int:=q.map (fun(k:Nat)=>(k:Int))
theorem gS {w:World}{g:Array Oper}{rest:List Oper}{o:Oper}{a:Act}{Q:Exit→Act→World→Prop}(m:o.guard=none)(s x:Operand)
  (ho:o.op= .call {callee:= .builtin .append,args:=#[s,x],argTypes:=#[22,22]})
  (base:Nat)(v:Value)(n:Nat)(xs:List Int)(hs:a.eval s=v)(f:w.ownsRow base 3 1 v n (ivs xs))
  (b e:Nat)(y:Int)(c:Nat)(hx:a.eval x= .slice (some ⟨b,e,none⟩) 1 c)(hc:w.cell? ⟨b,e,none⟩=some (iv y))
  (hn:n≤1099511627776)(d:base≤w.heap.size)
  (h: ∀p' cap' w',w'.ownsRow base 3 1 (.slice p' (n+1) cap') (n+1) (ivs (xs++ [y]))→w.grownBy w' v.ownBlock→((Value.slice p' (n+1) cap').ownBlock=v.ownBlock∨(Value.slice p' (n+1) cap').ownBlock=some w)→wpList prog g Q rest (a.put o.dst (.slice p' (n+1) cap')) w'):wpList prog g Q (o::rest) a w:=by
 obtain⟨i,z,hi,hz,q,l,r⟩:=fQ.info;refine wpList_append_own_at w m s x 22 ho base 3 i z 1 i.bytes fQ.ht hi hz q rfl r fQ.pos v n _ hs f ⟨b,e,none⟩ 1 c [iv y] hx rfl (fun j u hu=> ?_) (fun u hu=>by simp at hu;subst hu;rfl) (by unfold maxLen;omega) ?_ d ?_
 ·match j,hu with
  |0,hu=>simp at hu;subst hu;rw[mH];exact hc
 ·have:(n+1)*i.bytes≤(n+1)*64:=Nat.mul_le_mul_left _ l;omega
 intro v' w' h2 h3 _ h5;obtain⟨p,k,rfl⟩:=oZ h2;exact h p k w' (by simpa[ivs]using h2) h3 h5
theorem aJo (aA aB:Int)(p:OA)(n cap src:Nat)(a:Int)(w:World)(da:4≤n)(hn:n≤12)(hs:src<n)
  (HC:Hid (∀(k:Nat),k<n→ ∀w',Ext w w'→U 207 #[aH aA aB p n cap,k] w' (bA (bG (aS aA n k)) w'))):
  U 206 #[aH aA aB p n cap,src,a] w fun e w'=> ∃D,tG (qU aA n a) [src] n D∧bA D w e w':=by
 have a1:(0:Int)≤(src:Int):=by omega
 have a2:(src:Int)<(n:Int):=by omega
 go_enter func206,ntmps206;go_wp2;go_loopw [7,8] (fun v i wr=> ∃(k:Nat) (q:OA) (c:Nat),k≤n∧i=I k∧v= .slice q k c∧wr.ownsRow (w.heap.size+1) TI 1 (.slice q k c) k (ivs (List.replicate k (-1)))∧Ext w wr∧Blk wr w TH3 #[aA,aB,.slice p n cap]) (fun _ i _=>n-(intOf i).toNat)
 case atStart=>have ho:((w.alloc (.cells #[aA,aB,.slice p n cap] TH3)).alloc (.cells #[] TI)).ownsRow (w.heap.size+1) TI 1 (.slice (some ⟨(w.alloc (.cells #[aA,aB,.slice p n cap] TH3)).heap.size,0,none⟩) 0 0) 0 []:=aSw _ #[] 0 (by simp) (by simp[maxLen]) rfl;exact⟨0,_,0,aRv _,rfl,rfl,by simpa using ho,by exact .alloc (.alloc (.refl _) _) _,(Blk.new w _ _).alloc _⟩
 case round=>
  obtain⟨k,q,c,hk,rfl,rfl,ar,b,hB⟩:=hrel;have HO:=xQ ar;have HB:=xQ hB;have bp:(w:Nat)<wr:=hB.lt;clear ar hB;obtain⟨b0,b1,b2⟩:=HB.out.cells3;by_cases hlt:k<n
  ·have t:Hid (List.replicate (k+1) (-1:Int)=List.replicate k (-1)++ [-1]):=by show _=_;rw[List.replicate_succ']
   go_wp2_with (at_builtin;refine cM fQ rfl _ _ rfl (w.heap.size+1) _ _ _ rfl (HO.out.alloc _) _ _ (-1:Int) _ rfl (by simp) (by omega) (by first|(simp;done)|(simp;omega)) ?_;intro p' s w2 f o;have bu:=xQ f;have b7:Ext w w2:=Ext.own (b.alloc _) (HO.out.alloc _) o (by omega);have br:=xQ (tD HO o HB.out);clear f o);go_roundw
   case rel=>exact⟨k+1,p',s,by omega,by go_num,rfl,by rw[t.out];exact bu.out,b7,br.out⟩
   case measure=>simp[intOf];omega
  obtain rfl:n=k:=by omega
  obtain⟨gF,rfl,c4,c6⟩:=eX HO (by omega);have cj:wr.cell? ⟨gF,src,none⟩=some (I (-1)):=by have:=HO.out.cellAt src (by omega);rw[this];simp[ivs,hs]
  have ck:wr.frozen? ⟨gF,src,none⟩=false:=HO.out.frozenAt src;go_upto_region 8 with fail;clear cj ck b0 b1 b2;have y1:=(HO.out.stored src (I 0)).1;have ay:ExtR gF wr _:=(HO.out.stored src (I 0)).2;have a6:(World.setCell wr ⟨gF,src,none⟩ (I 0)).heap.size=wr.heap.size:=by simp
  generalize cg:World.setCell _ _ _=w1 at*;rw[←a6];clear cg;have F1:=xQ (show w1.ownsRow (w.heap.size+1) TI 1 (.slice (some ⟨gF,0,none⟩) n c) n (ivs ((List.replicate n (-1)).set src 0)) by rw[←eF];exact y1);have B1:=xQ (show Blk w1 w TH3 #[aA,aB,.slice p n cap]from(ay.block _ HB.out.lt (by simp;omega)).trans HB.out);have X1:=xQ (ExtR.new b ay (by omega));have z1:(wr:Nat)≤w1:=aU9 a6.symm;have dc:=B1.out.lt;clear a6 y1 ay HO HB b bp;have bg:(w1.alloc (.cells #[src] TI)).ownsRow w1 TI 1 (.slice (some ⟨w1,0,none⟩) 1 1) 1 [I src]:=aQ5 (n:=1) (Blk.new w1 TI #[src]) rfl (by simp[maxLen]) (aRp _);have L1:=xQ bg;clear bg;have I1:=xQ (Inv.one (adj:=qU aA n a) hs);go_wp2;go_loopw [9,10] (fun v i wr=> ∃(k:Nat) (q:OA) (l lc:Nat) (D:List Int) (Q:List Nat),k≤l∧i=I k∧v= .slice q l lc∧l=Q.length∧(∀x∈D,-1≤x∧x≤k)∧Inv (qU aA n a) [src] n k (D,Q)∧wr.ownsRow (w.heap.size+1) TI 1 (.slice (some ⟨gF,0,none⟩) n c) n (ivs D)∧wr.ownsRow w1 TI 1 (.slice q l lc) l (ivs (bG Q))∧Ext w wr∧Blk wr w TH3 #[aA,aB,.slice p n cap]∧w1.heap.size≤wr.heap.size) (fun _ i _=>n-(intOf i).toNat)
  case atStart=>exact⟨0,_,1,1,_,[src],aRv _,rfl,rfl,rfl,aMp _ _,I1.out,F1.out.alloc _,L1.out,X1.out.alloc _,B1.out.alloc _,by simp⟩
  case round=>
   clear F1 B1 X1 L1 I1;obtain⟨wr1,rfl⟩: ∃wr1:World,wr1=wr:=⟨_,rfl⟩
   obtain⟨k,q,l,lc,D,Q,hk,rfl,rfl,a3,bi,ah,hF,hL,b,hB,bp⟩:=hrel;have HF:=xQ hF;have HL:=xQ hL;have HB:=xQ hB;have HI:=xQ ah;have af:=xQ a3;have db:l≤n:=by rw[a3];exact ah.qlen
   have a7:=xQ bi;clear hF hL hB ah a3 bi;by_cases hlt2:k<l
   ·obtain⟨gL,rfl,b8,b9⟩:=eX HL (by omega);obtain⟨u,hu⟩: ∃u,Q[k]? =some u:=⟨_,aRq (by rw[←af.out];exact hlt2)⟩
    have cd:u<n:=HI.out.bd u (aRs hu);have HU:=xQ hu;clear hu;have i1:(0:Int)≤(k:Int):=by omega
    have i2:(k:Int)<(l:Int):=by omega
    have j1:(0:Int)≤(u:Int):=by omega
    have j2:(u:Int)<(n:Int):=by omega
    obtain⟨nb,ak⟩: ∃nb,nb=aS aA n u:=⟨_,rfl⟩
    have av:=xQ ak;have a8:Hid (∀w',Ext w w'→U 207 #[aH aA aB p n cap,u] w' (bA (bG nb) w')):=by rw[ak];exact HC u cd
    have cc:nb.length≤n:=by rw[ak];exact aRz (aSt _ _) (by simp)
    clear ak;have bn:(bG nb).length=nb.length:=by simp[bG]
    go_wp2;refine rL (gl [gEq (aH aA aB p n cap),gEq (.slice (some ⟨gL,0,none⟩) l lc),gEq (k:Int),gEq (.pointer (some ⟨gL,k,none⟩)),gEq (u:Int),(fun v w'=> ∃q c,v= .slice q nb c∧w'.ownsRow wr1 TI 1 (.slice q nb c) nb.length (ivs (bG nb)))]) 6 7 [(0,some 35),(1,some 36),(2,some 37),(3,some 38),(4,some 39),(5,some 40)] ?steps ?fin (hG:=(lH (bC (bH _) (bC (bH _) (bC (bH _) (bC (bH _) (bC (bH _) (bC (fun v w w' ⟨q,c,he,ho⟩ hx=>⟨q,c,he,aZ ho hx⟩) (oG)))))))))
    case steps=>
     refine sC [] rfl (fun wi hx=> ?_) ?_
     ·intro K hK;have B:=HB.out.ext hx.of_drew;have cw:=B.cl 0;have B:=HB.out.ext hx.of_drew;have cx:=B.cl 1;have B:=HB.out.ext hx.of_drew;have cy:=B.cl 2;go_simp;exact hK _ _ ⟨aH aA aB p n cap,rfl,rfl,Ext.refl _⟩
     refine sS0 [] (sS0 [] (sS2 [(1,some 36),(2,some 37)] ?_));refine sC [(3,some 38)] rfl (fun wi hx=> ?_) ?_
     ·intro v3 h3 K hK;obtain rfl:=h3;have cu:wi.cell? ⟨gL,k,none⟩=some (I u):=by have:=(aZ HL hx.of_drew).cellAt k (by omega);rw[this];simp[ivs,bG,HU.out]
      go_simp;exact hK _ _ ⟨I u,rfl,rfl,Ext.refl _⟩
     refine sC [(0,some 35),(4,some 39)] rfl (fun wi hx=> ?_) StepsL.nil
     ·intro v0 h0 v4 h4 K hK;subst h0 h4;go_wp2_with fail;refine(a8 _ (b.trans hx.of_drew)).mono ?_;rintro e w5 ⟨q5,c5,rfl,o5,ci⟩;rw[bn]at o5⊢;go_simp;exact hK _ _ ⟨.slice q5 nb c5,rfl,⟨q5,c5,rfl,bJ o5 (by have:=hx.sz;simpa using this)⟩,ci⟩
    case fin=>
     intro wi hx v0 h0 v1 h1 v2 h2 v3 h3 v4 h4 v5 h5;subst h0 h1 h2 h3 h4;obtain⟨q5,c5,rfl,a4⟩:=h5;refine wpAny_ready (rs:= [6]) (by kernel_rfl) (by simp) ?_;refine AllReady.cons rfl (fun K hK=> ?_) AllReady.nil;go_simp;refine hK _ _ ?_;clear hK K;refine wpAny_done (by kernel_rfl) ?_ _;have d:=hx.of_drew;have F2:=xQ (aZ HF d);have L2:=xQ (aZ HL d);have B2:=xQ (HB.out.ext d);have X2:=xQ (b.trans d);have N2:=xQ a4;have z2:=d.sz;have ba:=xQ (aQh (q2:=some ⟨gL,0,none⟩) (m:=l) (c2:=lc) (B2:=0) (sz2:=0) (e2:=TI) (ys:= []) a4 (fun g hg=>by simp[Value.ownBlock]at hg;omega) (by simp[Value.ownBlock]));clear HF HL HB b a4 hx d a8;go_wp2;obtain⟨wo,rfl⟩: ∃wo:World,wo=wi:=⟨_,rfl⟩
     go_loopw [9,12] (fun v i wr=> ∃(j:Nat) (q:OA) (l2 lc:Nat) (D2:List Int) (Q2:List Nat),j≤nb.length∧i=I j∧v= .slice q l2 lc∧l2=Q2.length∧(D2,Q2)=bQ (D.getD u 0+1) (D,Q) ((nb.take j).filter (fun(v:Nat)=>decide ((v:Int)≠a)))∧(∀x∈D2,-1≤x∧x≤(k:Int)+1)∧wr.ownsRow (w.heap.size+1) TI 1 (.slice (some ⟨gF,0,none⟩) n c) n (ivs D2)∧wr.ownsRow w1 TI 1 (.slice q l2 lc) l2 (ivs (bG Q2))∧wr.ownsRow wr1 TI 1 (.slice q5 nb c5) nb.length (ivs (bG nb))∧(Value.slice q l2 lc).ownBlock≠(Value.slice q5 nb c5).ownBlock∧Ext w wr∧Blk wr w TH3 #[aA,aB,.slice p n cap]∧wo.heap.size≤wr.heap.size) (fun _ i _=>nb.length-(intOf i).toNat)
     case atStart=>exact⟨0,_,l,lc,D,Q,aRv _,rfl,rfl,af.out,by simp[bQ],fun x hx=>by have:=a7 x hx;omega,F2.out,L2.out,N2.out,ba.out,X2.out,B2.out,aRp _⟩
     case round=>
      clear F2 L2 B2 X2 N2 ba;obtain⟨j,q,l2,lc,D2,Q2,hj,rfl,rfl,aq,a0,ag,hF,hL,hN,bo,b,hB,au⟩:=hrel;have bq:u∈Q:=aRs HU.out;have y:Mid (qU aA n a) [src] n k u ((nb.take j).filter (fun(v:Nat)=>decide ((v:Int)≠a))) (D,Q) (D2,Q2):=by
       rw[a0]
       have:=Mid.many bq ((nb.take j).filter (fun(v:Nat)=>decide ((v:Int)≠a))) [] (D,Q) (HI.out.mid HU.out) (fun v hv=>by
        have h1:=aSi.1 hv;have h2:v∈aS aA n u:=by rw[←av.out];exact aTi h1.1
        exact⟨aSi.2 ⟨h2,h1.2⟩,(bU.1 h2).1⟩)
       simpa using this
      have bb:D2.length=n:=y.len;have c9:Q2.length≤n:=pB y.nodup y.bd;have a5:D2.getD u 0=D.getD u 0:=y.same u bq;obtain⟨r,hr⟩:=y.pre;dsimp only at hr;have cb:k<Q2.length:=by rw[hr,aRx];have:=af.out;omega
      have bh:Q2[k]? =some u:=by have:=af.out;rw[hr,aS8 (by omega)];exact HU.out
      have ae:=dL (D:=D2) (v:=u) (by omega);have cp: -1≤D2.getD u 0:=(ag _ ae.2).1;have cq:D2.getD u 0≤(k:Int):=by rw[a5];exact(a7 _ (dL (D:=D) (v:=u) (by have:=HI.out.len;dsimp only at this;omega)).2).2
      have HF:=xQ hF;have HL:=xQ hL;have HN:=xQ hN;have aj:=xQ bo;have HB:=xQ hB;have ai:=xQ a0;have aa:=xQ ag;have ab:=xQ aq;have bv:=xQ bh;have bt:=xQ ae.1;have bw:=xQ a5;have cs:l2≤n:=by omega
      have cr:k<l2:=by omega
      have bc:=xQ bb;clear hF hL hN bo hB a0 ag aq bh ae a5 hr y bb cb;by_cases hlt3:j<nb.length
      ·obtain⟨v,hv⟩: ∃v,nb[j]? =some v:=⟨_,aRq hlt3⟩
       have ce:v<n:=(bU.1 (by rw[←av.out];exact aRs hv:v∈aS aA n u)).1;have HV:=xQ hv;clear hv;obtain⟨gN,rfl,c7,c8⟩:=eX HN (by omega);obtain⟨gL,rfl,b8,b9⟩:=eX HL (by omega);obtain⟨dv,bk,ap⟩: ∃dv,D2[v]? =some dv∧D2.getD v 0=dv:=⟨_,(dL (D:=D2) (v:=v) (by rw[bc.out];exact ce)).1,rfl⟩
       have a9:=xQ bk;have am:=xQ ap;clear bk ap;have m1:(0:Int)≤(j:Int):=by omega
       have m2:(j:Int)<(nb.length:Int):=by omega
       have m3:(0:Int)≤(v:Int):=by omega
       have m4:(v:Int)<(n:Int):=by omega
       have m5:(k:Int)<(l2:Int):=by omega
       have cn:wr.cell? ⟨gN,j,none⟩=some (I v):=by have:=HN.out.cellAt j (by omega);rw[this];simp[ivs,bG,HV.out]
       have cf:wr.cell? ⟨gF,v,none⟩=some (I dv):=by have:=HF.out.cellAt v (by omega);rw[this];simp[ivs,a9.out]
       by_cases hvb:(v:Int)=a
       ·have t0:((v:Int)!=a)=false:=by simp[hvb]
        have t:=xQ (aIl HV hvb);clear hvb;go_wp2;go_roundw
        case rel=>exact⟨j+1,_,l2,lc,D2,Q2,by omega,by go_num,rfl,ab.out,by rw[t.out];exact ai.out,aa.out,HF.out,HL.out,HN.out,aj.out,b,HB.out,au⟩
        case measure=>simp[intOf];omega
       have t0:((v:Int)!=a)=true:=by simp[hvb]
       have t:=xQ (aEz HV hvb);clear hvb;by_cases hd0:dv<0
       ·have t1:decide (dv<0)=true:=by simp[hd0]
        have z:Hid ((D2.set v (D.getD u 0+1),Q2++ [v])=bQ (D.getD u 0+1) (D,Q) ((nb.take (j+1)).filter (fun(v:Nat)=>decide ((v:Int)≠a)))):=by show _=_;rw[t.out,eD,←ai.out,lK (by rw[am.out];exact hd0)]
        obtain⟨du,ae⟩: ∃du,du=D2.getD u 0:=⟨_,rfl⟩
        have al:=xQ ae;have cz: -1≤du:=by omega
        have c0:du≤(k:Int):=by omega
        have ct:IntKind.i64.wrap (du+1)=du+1:=aRr _ (by omega);clear ae hd0;go_wp2;refine rL (gl [gEq (.slice (some ⟨gF,0,none⟩) n c),gEq (.slice (some ⟨gN,0,none⟩) nb c5),gEq (j:Int),gEq (.pointer (some ⟨gN,j,none⟩)),gEq (v:Int),gEq (.slice (some ⟨gF,0,none⟩) n c),gEq (.slice (some ⟨gL,0,none⟩) l2 lc),gEq (k:Int),gEq (.pointer (some ⟨gL,k,none⟩)),gEq (u:Int),gEq (.pointer (some ⟨gF,u,none⟩)),gEq du,gEq (du+1:Int),gEq (.pointer (some ⟨gF,v,none⟩))]) 14 15 [(0,some 63),(1,some 64),(2,some 65),(3,some 66),(4,some 67),(5,some 68),(6,some 69),(7,some 70),(8,some 71),(9,some 72),(10,some 73),(11,some 74),(12,some 75),(13,some 76)] ?steps ?fin
        case steps=>
         refine sC [] rfl (fun wj hx=> ?_) ?_
         ·intro K hK;go_simp;exact hK _ _ ⟨.slice (some ⟨gF,0,none⟩) n c,rfl,rfl,Ext.refl _⟩
         refine sC [] rfl (fun wj hx=> ?_) ?_
         ·intro K hK;go_simp;exact hK _ _ ⟨.slice (some ⟨gN,0,none⟩) nb c5,rfl,rfl,Ext.refl _⟩
         refine sC [] rfl (fun wj hx=> ?_) ?_
         ·intro K hK;go_simp;exact hK _ _ ⟨I j,rfl,rfl,Ext.refl _⟩
         refine sC [(1,some 64),(2,some 65)] rfl (fun wj hx=> ?_) ?_
         ·intro v1 h1 v2 h2 K hK;subst h1 h2;go_simp;exact hK _ _ ⟨.pointer (some ⟨gN,j,none⟩),rfl,rfl,Ext.refl _⟩
         refine sC [(3,some 66)] rfl (fun wj hx=> ?_) ?_
         ·intro v3 h3 K hK;obtain rfl:=h3;have cv:wj.cell? ⟨gN,j,none⟩=some (I v):=by have:=(aZ HN hx.of_drew).cellAt j (by omega);rw[this];simp[ivs,bG,HV.out]
          go_simp;exact hK _ _ ⟨I v,rfl,rfl,Ext.refl _⟩
         refine sC [] rfl (fun wj hx=> ?_) ?_
         ·intro K hK;go_simp;exact hK _ _ ⟨.slice (some ⟨gF,0,none⟩) n c,rfl,rfl,Ext.refl _⟩
         refine sC [] rfl (fun wj hx=> ?_) ?_
         ·intro K hK;go_simp;exact hK _ _ ⟨.slice (some ⟨gL,0,none⟩) l2 lc,rfl,rfl,Ext.refl _⟩
         refine sC [] rfl (fun wj hx=> ?_) ?_
         ·intro K hK;go_simp;exact hK _ _ ⟨I k,rfl,rfl,Ext.refl _⟩
         refine sC [(6,some 69),(7,some 70)] rfl (fun wj hx=> ?_) ?_
         ·intro v6 h6 v7 h7 K hK;subst h6 h7;go_simp;exact hK _ _ ⟨.pointer (some ⟨gL,k,none⟩),rfl,rfl,Ext.refl _⟩
         refine sC [(8,some 71)] rfl (fun wj hx=> ?_) ?_
         ·intro v8 h8 K hK;obtain rfl:=h8;have cv:wj.cell? ⟨gL,k,none⟩=some (I u):=by have:=(aZ HL hx.of_drew).cellAt k (by omega);rw[this];simp[ivs,bG,bv.out]
          go_simp;exact hK _ _ ⟨I u,rfl,rfl,Ext.refl _⟩
         refine sC [(5,some 68),(9,some 72)] rfl (fun wj hx=> ?_) ?_
         ·intro v5 h5 v9 h9 K hK;subst h5 h9;go_simp;exact hK _ _ ⟨.pointer (some ⟨gF,u,none⟩),rfl,rfl,Ext.refl _⟩
         refine sC [(10,some 73)] rfl (fun wj hx=> ?_) ?_
         ·intro cm aw K hK;obtain rfl:=aw;have cv:wj.cell? ⟨gF,u,none⟩=some (I du):=by have:=(aZ HF hx.of_drew).cellAt u (by omega);rw[this,al.out];simp only[ivs,aS9,bt.out,aSm]
          go_simp;exact hK _ _ ⟨I du,rfl,rfl,Ext.refl _⟩
         refine sC [(11,some 74)] rfl (fun wj hx=> ?_) ?_
         ·intro co ax K hK;obtain rfl:=ax;go_simp;exact hK _ _ ⟨I (du+1),rfl,rfl,Ext.refl _⟩
         refine sC [(0,some 63),(4,some 67)] rfl (fun wj hx=> ?_) StepsL.nil
         ·intro v0 h0 v4 h4 K hK;subst h0 h4;go_simp;exact hK _ _ ⟨.pointer (some ⟨gF,v,none⟩),rfl,rfl,Ext.refl _⟩
        case fin=>
         intro wj hx v0 h0 v1 h1 v2 h2 v3 h3 v4 h4 v5 h5 v6 h6 v7 h7 v8 h8 v9 h9 cm aw co ax dd b5 de b6;subst h0 h1 h2 h3 h4 h5 h6 h7 h8 h9;obtain rfl:=aw;obtain rfl:=ax;obtain rfl:=b5;obtain rfl:=b6;have d:=hx.of_drew;have F3:=xQ (aZ HF d);have L3:=xQ (aZ HL d);have N3:=xQ (aZ HN d);have B3:=xQ (HB.out.ext d);have X3:=xQ (b.trans d);have z3:=d.sz;clear HF HL HN HB b hx d cn cf;have bz:wj.cell? ⟨gF,v,none⟩=some (I dv):=by have:=F3.out.cellAt v (by omega);rw[this];simp[ivs,a9.out]
         have b4:wj.frozen? ⟨gF,v,none⟩=false:=F3.out.frozenAt v;refine wpAny_ready (rs:= [14]) (by kernel_rfl) (by simp) ?_;refine AllReady.cons rfl (fun K hK=> ?_) AllReady.nil;go_simp;refine hK _ _ ?_;clear hK K bz b4;have y4:=(F3.out.stored v (I (du+1))).1;have ad:ExtR gF wj _:=(F3.out.stored v (I (du+1))).2;generalize ch:World.setCell _ _ _=w4 at*;clear ch;have F4:=xQ (show w4.ownsRow (w.heap.size+1) TI 1 (.slice (some ⟨gF,0,none⟩) n c) n (ivs (D2.set v (du+1))) by rw[←eF];exact y4);have L4:=xQ (L3.out.kept ad (.inr (by simp[Value.ownBlock];omega)));have N4:=xQ (N3.out.kept ad (.inr (by simp[Value.ownBlock];omega)));have B4:=xQ (show Blk w4 w TH3 #[aA,aB,.slice p n cap]from(ad.block _ B3.out.lt (by simp;omega)).trans B3.out);have X4:=xQ (ExtR.new X3 ad (by omega));have z4:=ad.sz;clear F3 L3 N3 B3 X3 y4 ad;refine wpAny_done (by kernel_rfl) ?_ _;have b3:w4.cell? ⟨gN,j,none⟩=some (I v):=by have:=N4.out.cellAt j (by omega);rw[this];simp[ivs,bG,HV.out]
         have c3:=(N4.out.lt gN rfl).2;have c1:=(L4.out.lt gL rfl).2;have ca:(w1:Nat)≤w4:=by omega
         go_wp2_with (at_builtin;refine gS rfl _ _ rfl w1 _ _ _ rfl (L4.out.alloc _) _ _ (v:Int) _ rfl (by simp) (by omega) (aRz ca (by simp)) ?_;intro p' s w9 f bl an;have o:World.grownBy _ w9 (Value.slice (some ⟨gL,0,none⟩) l2 lc).ownBlock:=bl;have ao:(Value.slice p' (l2+1) s).ownBlock=(Value.slice (some ⟨gL,0,none⟩) l2 lc).ownBlock∨(Value.slice p' (l2+1) s).ownBlock=some (w4.alloc (.cells #[v] TI)).heap.size:=an;have F5:=xQ ((F4.out.alloc _).kept o (.inr (by simp[Value.ownBlock];omega)));have N5:=xQ ((N4.out.alloc _).kept o (.inr (Ne.symm aj.out)));have L5:=xQ f;have E5:=xQ (Ext.own (X4.out.alloc _) (L4.out.alloc _) o (by omega));have B5:=xQ ((B4.out.alloc _).grown o (by simp[Value.ownBlock];omega));have z9:=o.size;have A5:=xQ ao;clear f o ao bl an);have bx:Hid ((Value.slice p' (l2+1) s).ownBlock≠(Value.slice (some ⟨gN,0,none⟩) nb c5).ownBlock):=by
          show _≠_;rcases A5.out with h|h
          ·rw[h];exact aj.out
          rw[h];simp[Value.ownBlock];omega
         have df:(w4:Nat)≤w9:=aRz (by simp) z9;clear z9 b3;go_roundw
         case rel=>
          refine⟨j+1,p',l2+1,s,D2.set v (du+1),Q2++ [v],by omega,by go_num,rfl,by simp[ab.out],?_,?_,F5.out,?_,N5.out,bx.out,E5.out,B5.out,by omega⟩
          ·rw[al.out,bw.out];exact z.out
          ·intro x hx;rcases aT1 hx with h|h
           ·exact aa x h
           omega
          have:=L5.out;simpa[bG]using this
         case measure=>simp[intOf];omega
       have t1:decide (dv<0)=false:=by simp[hd0]
       have z:Hid ((D2,Q2)=bQ (D.getD u 0+1) (D,Q) ((nb.take (j+1)).filter (fun(v:Nat)=>decide ((v:Int)≠a)))):=by show _=_;rw[t.out,eD,←ai.out,nG (by rw[am.out];exact hd0)]
       clear hd0;go_wp2;go_roundw
       case rel=>exact⟨j+1,_,l2,lc,D2,Q2,by omega,by go_num,rfl,ab.out,z.out,aa.out,HF.out,HL.out,HN.out,aj.out,b,HB.out,au⟩
       case measure=>simp[intOf];omega
      have bm:j=nb.length:=by omega
      have bf:Hid (Inv (qU aA n a) [src] n (k+1) (D2,Q2)):=by
       have h1:=HI.out.step HU (fun v hv=>aIx hv);have h2:=ai.out;rw[bm,aTf]at h2;have h3:nb.filter (fun(v:Nat)=>decide ((v:Int)≠a))=qU aA n a u:=by rw[av.out];rfl
       rw[h3]at h2;rw[h2];exact h1
      have bj:Hid (∀x∈D2,-1≤x∧x≤((k+1:Nat):Int)):=fun x hx=>by have:=aa x hx;omega
      clear bm;go_wp2;go_roundw
      case rel=>exact⟨k+1,_,l2,lc,D2,Q2,by omega,by go_num,rfl,ab.out,bj.out,bf.out,HF.out,HL.out,b,HB.out,by omega⟩
      case measure=>simp[intOf];omega
   have az:=xQ (HI.out.dist (by have:=af.out;dsimp only;omega));have be:=HI.out.len;have bs:=xQ be;clear be;go_wp2;go_ret;exact⟨D,az.out,dG bs (bJ HF (Nat.le_succ _)) b⟩
theorem aKb (aA aB:Int)(p:OA)(n cap src:Nat)(a:Int)(xs:List Int)(w:World)(hS:Sl w p n cap 1 (ivs xs))(b:aO aA aB xs=true)(hs:src<n):
  U 206 #[aH aA aB p n cap,src,a] w fun e w'=> ∃D,tG (qU aA n a) [src] n D∧bA D w e w':=by
 have hl:=hS.ilen;obtain⟨g1,g2,g3,g4,g5,g6,g7,g8,g9⟩:=bN b
 exact aJo aA aB p n cap src a w (by omega) (by omega) hs (fun k hk w' hx=>by
  have:=aG8 aA aB k p n cap xs w' (hS.ext hx) b (by omega) (by omega)
  rwa[lQ]at this)
end
def lT (aA:Int)(n u:Nat):Nat:=((aS aA n u).find? (fun(v:Nat)=>decide (aX aA v 0=aX aA u 0-1))).getD 0
def dH (aA:Int)(n:Nat):Nat→Nat→List Nat
 |0,u=> [u]
 |f+1,u=>if u=0 then [u]else u::dH aA n f (lT aA n u)
def jI:List (Int×Nat):= [(2,4),(2,6),(3,6),(3,9),(4,8),(4,12)]
def aPw (aA:Int)(n:Nat):Bool:=
 (List.range n).all fun u=>decide (0≤aX aA u 0∧aX aA u 0≤5)&&decide (aX aA u 0=0↔u=0)
  &&(decide (u=0) || (decide (lT aA n u<n)&&decide (lT aA n u∈aS aA n u)&&decide (aX aA (lT aA n u) 0=aX aA u 0-1)))
  &&(List.range n).all fun v=> !decide (v∈aS aA n u) || decide (aX aA u 0≤aX aA v 0+1)
theorem aNu:(jI.all fun g=>aPw g.1 g.2)=true:=by decide+kernel
theorem rK {aA aB:Int}{n:Nat}(h0:2≤aA)(h1:aA≤4)(h2:2≤aB)(h3:aB≤3)(hn:(n:Int)=aA*aB):(aA,n)∈jI:=by
 have hw:aA=2∨aA=3∨aA=4:=by omega
 have hd:aB=2∨aB=3:=by omega
 rcases hw with rfl|rfl|rfl<;>rcases hd with rfl|rfl
 ·obtain rfl:n=4:=by omega
  decide
 ·obtain rfl:n=6:=by omega
  decide
 ·obtain rfl:n=6:=by omega
  decide
 ·obtain rfl:n=9:=by omega
  decide
 ·obtain rfl:n=8:=by omega
  decide
 obtain rfl:n=12:=by omega
 decide
theorem bV {aA:Int}{n:Nat}(h:(aA,n)∈jI){u:Nat}(hu:u<n):
  0≤aX aA u 0∧aX aA u 0≤5∧(aX aA u 0=0↔u=0)
  ∧(u≠0→lT aA n u<n∧lT aA n u∈aS aA n u∧aX aA (lT aA n u) 0=aX aA u 0-1)
  ∧ ∀v∈aS aA n u,aX aA u 0≤aX aA v 0+1:=by
 have h1:=aSp.1 aNu _ h;have h2:=aSp.1 h1 u (aS7.2 hu);simp only[aRy,Bool.or_eq_true,decide_eq_true_eq]at h2;obtain⟨⟨⟨⟨a,b⟩,c⟩,d⟩,e⟩:=h2;refine⟨a,b,c,fun h=> ?_,fun v hv=> ?_⟩
 ·rcases d with d|d
  ·exact absurd d h
  exact⟨d.1.1,d.1.2,d.2⟩
 have:=aSp.1 e v (aS7.2 (bU.1 hv).1);simpa[hv]using this
theorem aAs {aA:Int}{n:Nat}(h:(aA,n)∈jI){adj:Nat→List Nat}(ha: ∀u,adj u=aS aA n u){D:List Int}(hD:tG adj [0] n D){u:Nat}(hu:u<n):D.getD u 0=aX aA u 0:=by
 have hn:0<n:=by omega
 have up: ∀(d:Nat) v,v<n→aX aA v 0=d→0≤D.getD v 0∧D.getD v 0≤d:=by
  intro d;induction d with
  |zero=>intro v hv e;have e0:=(bV h hv).2.2.1.1 e;have:=(hD.zero v hv).2 (by simp[e0]);omega
  |succ d ih=>
   intro v hv e;have g:v≠0:=fun e0=>by have:=(bV h hv).2.2.1.2 e0;omega
   obtain⟨h1,h2,h3⟩:=(bV h hv).2.2.2.1 g;obtain⟨i1,i2⟩:=ih _ h1 (by omega);have:=hD.edge _ v h1 i1 (by rw[ha];exact gE hv h2);omega
 have f: ∀(d:Nat) v,v<n→D.getD v 0=d→aX aA v 0≤d:=by
  intro d;induction d with
  |zero=>intro v hv e;have hm:=(hD.zero v hv).1 e;simp at hm;have:=(bV h hv).2.2.1.2 hm;omega
  |succ d ih=>intro v hv e;obtain⟨x,hx,hm,e2⟩:=hD.back v hv (by omega);have i1:=ih x hx (by omega);rw[ha]at hm;have:=(bV h hv).2.2.2.2 x (gE hx hm);omega
 obtain⟨a,b,_⟩:=bV h hu;obtain⟨c,e⟩:=up (aX aA u 0).toNat u hu (by omega);have:=f (D.getD u 0).toNat u hu (by omega);omega
theorem aIk {α:Type}{p:α→Bool}{d x:α}: ∀ {l:List α},x∈l→p x=true→ ∃j,j<l.length∧l[j]? =some ((l.find? p).getD d)∧p ((l.find? p).getD d)=true∧ ∀i y,i<j→l[i]? =some y→p y=false:=by
 intro l;induction l with
 |nil=>intro h;simp at h
 |cons a l ih=>
  intro hx hp;by_cases ha:p a=true
  ·refine⟨0,by simp,by simp[ha],by simp[ha],fun i y hi=>by omega⟩
  have b:p a=false:=by simpa using ha
  have c:x∈l:=by
   rcases aS6.1 hx with e|e
   ·subst e;exact absurd hp ha
   exact e
  obtain⟨j,h1,h2,h3,h4⟩:=ih c hp;have e:((a::l).find? p).getD d=(l.find? p).getD d:=by rw[List.find?_cons_of_neg (by simp[b])]
  refine⟨j+1,by simp;omega,by rw[e];simpa using h2,by rw[e];exact h3,?_⟩;intro i y hi hy;cases i with
  |zero=>simp at hy;subst hy;exact b
  |succ i=>exact h4 i y (by omega) (by simpa using hy)
theorem aI5 {aA:Int}{n:Nat}(h:(aA,n)∈jI){u:Nat}(hu:u<n)(h0:u≠0):
  ∃j,j<(aS aA n u).length∧(aS aA n u)[j]? =some (lT aA n u)∧ ∀i v,i<j→(aS aA n u)[i]? =some v→aX aA v 0≠aX aA u 0-1:=by
 obtain⟨a,b,c⟩:=(bV h hu).2.2.2.1 h0;obtain⟨j,h1,h2,_,h4⟩:=aIk (p:=fun(v:Nat)=>decide (aX aA v 0=aX aA u 0-1)) (d:=0) b (by simpa using c);exact⟨j,h1,h2,fun i v hi hv=>by simpa using h4 i v hi hv⟩
theorem nE {aA:Int}{n:Nat}(h:(aA,n)∈jI): ∀(f u:Nat),u<n→aX aA u 0≤f→((dH aA n f u).length:Int)=aX aA u 0+1:=by
 intro f;induction f with
 |zero=>intro u hu hf;have:=(bV h hu).1;simp[dH];omega
 |succ f ih=>
  intro u hu hf;unfold dH;by_cases h0:u=0
  ·rw[if_pos h0];have:=(bV h hu).2.2.1.2 h0;simp;omega
  rw[if_neg h0];obtain⟨a,b,c⟩:=(bV h hu).2.2.2.1 h0;have:=ih _ a (by omega);simp;omega
theorem tI (aA:Int)(n f u:Nat):(dH aA n f u)[0]? =some u:=by
 cases f with
 |zero=>simp[dH]
 |succ f=>unfold dH;split<;>simp
theorem uM {aA:Int}{n:Nat}(h:(aA,n)∈jI): ∀(f u k x y:Nat),u<n→(dH aA n f u)[k]? =some x→(dH aA n f u)[k+1]? =some y→y<n∧y∈aS aA n x:=by
 intro f;induction f with
 |zero=>intro u k x y hu hx hy;simp[dH]at hy
 |succ f ih=>
  intro u k x y hu hx hy;unfold dH at hx hy;by_cases h0:u=0
  ·rw[if_pos h0]at hy;simp at hy
  rw[if_neg h0]at hx hy;obtain⟨a,b,c⟩:=(bV h hu).2.2.2.1 h0;cases k with
  |zero=>simp at hx hy;have:=tI aA n f (lT aA n u);rw[hy]at this;injection this with e;subst hx e;exact⟨a,b⟩
  |succ k=>exact ih _ k x y a (by simpa using hx) (by simpa using hy)
theorem aI3 {aA:Int}{n:Nat}(h:(aA,n)∈jI): ∀(f u x:Nat),u<n→x∈dH aA n f u→x<n:=by
 intro f;induction f with
 |zero=>intro u x hu hx;simp[dH]at hx;omega
 |succ f ih=>
  intro u x hu hx;unfold dH at hx;by_cases h0:u=0
  ·rw[if_pos h0]at hx;simp at hx;omega
  rw[if_neg h0]at hx;obtain⟨a,b,c⟩:=(bV h hu).2.2.2.1 h0;rcases aS6.1 hx with e|e
  ·omega
  exact ih _ x a e
section
open Go.RowKit Go.Proofs.Tryz
theorem aFg (aA:Int)(n u:Nat):qU aA n (-1) u=aS aA n u:=by unfold qU;rw[List.filter_eq_self];intro v hv;first|(simp;done)|(simp;omega)
theorem aLq (aA aB:Int)(p:OA)(n cap u:Nat)(R:Int)(w:World)(hg:Hid ((aA,n)∈jI))(bv:4≤n)(hn:n≤12)(hu:u<n)(hR:Hid (R=aX aA u 0))(bt:0≤R)
  (HP:xC 143 #[aH aA aB p n cap,u,()] w fun w' e w''=>e= .returned (I R)∧Ext w' w'')
  (HF:xC 206 #[aH aA aB p n cap,(),(-1:Int)] w fun w' e w''=> ∃D,(D.length=n∧ ∀v,v<n→D.getD v 0=aX aA v 0)∧bA D w' e w'')
  (HC:Hid (∀(k:Nat),k<n→ ∀w',Ext w w'→U 207 #[aH aA aB p n cap,k] w' (bA (bG (aS aA n k)) w'))):
  U 169 #[aH aA aB p n cap,u,(),(-1:Int)] w (bA (bG (dH aA n 12 u)) w):=by
 have a1:(0:Int)≤(u:Int):=by omega
 have a2:(u:Int)<(n:Int):=by omega
 have a3:((-1:Int)==(u:Int))=false:=by first|(simp;done)|(simp;omega)
 have a4:decide (R<0)=false:=by first|(simp;done)|(simp;omega)
 go_enter func169,ntmps169;go_wp2_with fail;refine Z (HP _ (by exact .alloc (.alloc (.refl _) _) _)) fun w1 ag=>?_
 have B1:=xQ (((Blk.new w TH3 #[aA,aB,.slice p n cap]).alloc (.cells #[] TI)).ext ag);have ho:((w.alloc (.cells #[aA,aB,.slice p n cap] TH3)).alloc (.cells #[] TI)).ownsRow (w.heap.size+1) TI 1 (.slice (some ⟨(w.alloc (.cells #[aA,aB,.slice p n cap] TH3)).heap.size,0,none⟩) 0 0) 0 []:=aSw _ #[] 0 (by simp) (by simp[maxLen]) rfl;have O1:=xQ (aZ ho ag);have X1:Ext w w1:=(((Ext.refl _).alloc _).alloc _).trans ag;have s1:w.heap.size+1<w1.heap.size:=by have:=ag.sz;simp at this;omega
 clear ho ag;obtain⟨b0,b1,b2⟩:=B1.out.cells3;have n1:IntKind.i64.wrap ((n:Int)-1)=(n:Int)-1:=aRr _ (by omega);have t1:decide ((-1:Int)≤ -1∧(-1:Int)≤(n:Int)-1)=true:=by first|(simp;done)|(simp;omega)
 have HI:Hid (∀w,U 50 #[(-1:Int),(-1:Int),((n:Int)-1:Int)] w fun e w'=>e= .returned (.bool true)∧w=w'):=fun w=>by have:=sK (-1) (-1) ((n:Int)-1) w;rwa[t1]at this
 clear t1;go_wp2_with fail;refine(HI _).mono ?_;rintro e w2 ⟨rfl,rfl⟩;go_wp2_with fail;clear b0 b1 b2;refine(HF _ (by exact X1)).mono ?_;rintro e w2 ⟨D,⟨ar,a7⟩,q2,c2,rfl,o2,am⟩;rw[ar]at o2⊢;have HD:=xQ ar;have HV:=xQ a7;have X2:=xQ (X1.trans am);have O2:=xQ (aZ O1 am);have aq:=xQ (show w2.ownsRow (w.heap.size+1) TI 1 (.slice (some ⟨w.heap.size+1,0,none⟩) 0 0) 0 (ivs []) by simpa using O2.out);have B2:=xQ (B1.out.ext am);clear ar a7 am O1 X1;have s2:=B2.out.lt;obtain⟨gF,rfl,bp,bq⟩:=eX o2 (by omega);have F2:=xQ (bJ o2 (Nat.le_of_lt s1));clear o2 B1;have dU:D[u]? =some R:=by have:=(dL (D:=D) (v:=u) (by rw[HD.out];exact hu)).1;rw[this,HV u hu,hR.out]
 have cU:w2.cell? ⟨gF,u,none⟩=some (I R):=by have:=F2.out.cellAt u (by omega);rw[this];simp[ivs,dU]
 clear dU;obtain⟨wA,bl⟩: ∃wA:World,wA=w2:=⟨_,rfl⟩
 have bi:w.heap.size+1≤w2.heap.size:=s2;go_wp2_with (at_builtin;go_loud (refine gS rfl _ _ rfl (w.heap.size+1) _ _ [] rfl (aq.out.alloc _) _ _ (u:Int) _ rfl (by simp) (by omega) (aRz bi (by simp)) ?_;intro p' a w3 c ab g;have m:(Value.slice p' (0+1) a).ownBlock=(Value.slice (some ⟨w.heap.size+1,0,none⟩) 0 0).ownBlock∨(Value.slice p' (0+1) a).ownBlock=some (w2.alloc (.cells #[u] TI)).heap.size:=g;have b:World.grownBy _ w3 (Value.slice (some ⟨w.heap.size+1,0,none⟩) 0 0).ownBlock:=ab;have X3:=xQ (Ext.own (X2.out.alloc _) (aq.out.alloc _) b (by omega));have B3:=xQ ((B2.out.alloc _).grown b (by first|(simp[Value.ownBlock];done)|(simp[Value.ownBlock];omega)));have F3:=xQ ((F2.out.alloc _).kept b (.inr (by first|(simp[Value.ownBlock];done)|(simp[Value.ownBlock];omega))));have O3:=xQ c;have z3:=b.size;have A3:=xQ m;clear c ab m b g));have a6:Hid ((Value.slice p' (0+1) a).ownBlock≠some gF):=by
  show _≠_;rcases A3.out with h|h
  ·rw[h];simp[Value.ownBlock];(try omega)
  rw[h];simp;omega
 clear A3 X2 B2 F2 O2 aq bl wA z3 cU;have av:=xQ (bV hg.out hu);go_wp2;go_loopw [1,9] (fun v o wr=> ∃(x f:Nat) (pre:List Nat) (q:OA) (l lc:Nat),v=I x∧x<n∧aX aA x 0≤f∧pre++dH aA n f x=dH aA n 12 u∧o= .slice q l lc∧l=pre.length+1∧wr.ownsRow (w.heap.size+1) TI 1 (.slice q l lc) l (ivs (bG (pre++ [x])))∧wr.ownsRow (w.heap.size+1) TI 1 (.slice (some ⟨gF,0,none⟩) n c2) n (ivs D)∧(Value.slice q l lc).ownBlock≠some gF∧Ext w wr∧Blk wr w TH3 #[aA,aB,.slice p n cap]∧w3.heap.size≤wr.heap.size) (fun v _ _=>(aX aA (intOf v) 0).toNat)
 case atStart=>exact⟨u,12,[],p',1,a,rfl,hu,by have:=av.out.2.1;omega,rfl,rfl,rfl,by simpa[bG]using O3.out,F3.out,a6.out,X3.out,B3.out,aRp _⟩
 case round=>
  clear O3 F3 a6 X3 B3;obtain⟨x,f,pre,q,l,lc,rfl,hx,hf,af,rfl,hl,hO,hF,bc,ak,hB,bw⟩:=hrel;have ap:=xQ hO;have az:=xQ hF;have a5:=xQ bc;have HB:=xQ hB;have HW:=xQ af;have ao:=xQ (bV hg.out hx);have ay:=xQ hf;have bn:l≤12:=by have h1:=congrArg List.length af;have h2:=nE hg.out f x hx hf;have h3:=nE hg.out 12 u hu (by have:=av.out.2.1;omega);have h4:=av.out.2.1;have h5:=ao.out.1;rw[aRx]at h1;omega
  have bx:=HB.out.lt;have a0:=xQ hl;clear hO hF bc hB af hf hl;by_cases h0:x=0
  ·have t0:((x:Int)!=0)=false:=by simp[h0]
   have an:Hid (pre++ [x]=dH aA n 12 u):=by show _=_;rw[←HW.out];subst h0;cases f<;>simp[dH]
   clear h0;go_wp2;go_ret;exact dG (by rw[←an.out];have:=a0.out;simp[bG];omega) (by rw[←an.out];exact bJ ap (Nat.le_succ _)) ak
  have t0:((x:Int)!=0)=true:=by simp[h0]
  obtain⟨J,bh,al,au⟩:=aI5 hg.out hx h0;obtain⟨e1,e2,e3⟩:=ao.out.2.2.2.1 h0;have bm:=xQ h0;obtain⟨y,hy⟩: ∃y,y=lT aA n x:=⟨_,rfl⟩
  rw[←hy]at al e1 e2 e3;have HY:=xQ hy;clear hy h0;obtain⟨nb,ad⟩: ∃nb,nb=aS aA n x:=⟨_,rfl⟩
  rw[←ad]at bh al au;have ax:Hid (∀w',Ext w w'→U 207 #[aH aA aB p n cap,x] w' (bA (bG nb) w')):=by rw[ad];exact HC x hx
  have bf:=xQ ad;have bj:nb.length≤12:=by rw[ad];exact aRz (aSt _ _) (by simp;omega)
  have a8:=xQ al;have a9:=xQ au;have aj:=xQ e3;clear ad al au e2 e3;have bb:(bG nb).length=nb.length:=by simp[bG]
  obtain⟨b0,b1,b2⟩:=HB.out.cells3;go_wp2_with fail;clear b0 b1 b2;refine(ax _ ak).mono ?_;rintro e w5 ⟨q5,c5,rfl,o5,ah⟩;rw[bb]at o5⊢;obtain⟨gN,rfl,br,bs⟩:=eX o5 (by omega);have O5:=xQ (aZ ap ah);have F5:=xQ (aZ az ah);have B5:=xQ (HB.out.ext ah);have X5:=xQ (ak.trans ah);have N5:=xQ o5;clear ap az HB ak o5 ah ax;go_wp2;go_loopw [12] (fun i wz=> ∃j:Nat,j≤J∧i=I j∧Ext w5 wz) (fun i _=>J-(intOf i).toNat)
  case atStart=>exact⟨0,aRv _,rfl,Ext.refl _⟩
  case round=>
   obtain⟨j,hj,rfl,hZ⟩:=hrel;obtain⟨v,hv⟩: ∃v,nb[j]? =some v:=⟨_,aRq (by omega)⟩
   have ae:v<n:=(bU.1 (by rw[←bf.out];exact aRs hv:v∈aS aA n x)).1;have ai:=xQ hv;have z:=(dL (D:=D) (v:=v) (by rw[HD.out];exact ae)).1;have aa:=(dL (D:=D) (v:=x) (by rw[HD.out];exact hx)).1;rw[HV v ae]at z;rw[HV x hx]at aa;obtain⟨dv,r⟩: ∃d,d=aX aA v 0:=⟨_,rfl⟩
   obtain⟨dx,t⟩: ∃d,d=aX aA x 0:=⟨_,rfl⟩
   have gv:=bV hg.out ae;have gx:=ao.out;rw[←r]at z gv;rw[←t]at aa gx;have m1:(0:Int)≤(j:Int):=by omega
   have m2:(j:Int)<(nb.length:Int):=by omega
   have m3:(0:Int)≤(v:Int):=by omega
   have m4:(v:Int)<(n:Int):=by omega
   have m5:(0:Int)≤(x:Int):=by omega
   have m6:(x:Int)<(n:Int):=by omega
   have m7:((v:Int)== -1)=false:=by first|(simp;done)|(simp;omega)
   have w7:IntKind.i64.wrap (dx-1)=dx-1:=aRr _ (by omega);have FZ:=xQ (aZ F5 hZ);have NZ:=xQ (aZ N5 hZ);have cn:wr.cell? ⟨gN,j,none⟩=some (I v):=by have:=NZ.out.cellAt j (by omega);rw[this];simp[ivs,bG,ai.out]
   have cf:wr.cell? ⟨gF,v,none⟩=some (I dv):=by have:=FZ.out.cellAt v (by omega);rw[this];simp only[ivs,aS9,z,aSm]
   have cx:wr.cell? ⟨gF,x,none⟩=some (I dx):=by have:=FZ.out.cellAt x (by omega);rw[this];simp only[ivs,aS9,aa,aSm]
   by_cases hjJ:j<J
   ·have bd:(dv !=dx-1)=true:=by
     have:=a9.out j v hjJ ai.out;rw[←r,←t]at this;simpa using this
    clear z aa r t gv gx;go_wp2;go_quiet (fail);go_wp2;go_roundw
    case rel=>exact⟨j+1,by omega,by go_num,by exact .drewN hZ _⟩
    case measure=>simp[intOf];omega
   obtain rfl:j=J:=by omega
   have bk:v=y:=by have h1:=ai.out;rw[a8.out]at h1;injection h1 with h1;exact h1.symm
   subst bk;have bd:(dv !=dx-1)=false:=by have:=aj.out;rw[←r,←t]at this;simp[this]
   have ba:=xQ (show 1≤aX aA (x:Int) 0 by have h1:=(bV hg.out ae).1;have h2:=aj.out;omega);clear z aa r gv;go_wp2;go_quiet (fail);generalize be:World.drewN _ _=wq;have s:Ext w5 wq:=by rw[←be];exact hZ.drewN _
   clear be cn cf cx FZ NZ hZ;have OQ:=xQ (aZ O5 s);have FQ:=xQ (aZ F5 s);have NQ:=xQ (aZ N5 s);have BQ:=xQ (B5.out.ext s);have XQ:=xQ (X5.out.trans s);have zq:=s.sz;clear O5 F5 N5 B5 X5 s;have cn:wq.cell? ⟨gN,j,none⟩=some (I v):=by have:=NQ.out.cellAt j (by omega);rw[this];simp[ivs,bG,ai.out]
   have lO:w.heap.size+1≤wq.heap.size:=by omega
   have bo:=(FQ.out.lt gF rfl).2;go_wp2_with (at_builtin;go_loud (refine gS rfl _ _ rfl (w.heap.size+1) (.slice q l lc) l (bG (pre++ [x])) rfl (OQ.out.alloc _) _ _ (v:Int) _ rfl (by simp) (by omega) (aRz lO (by simp)) ?_;intro p' a w9 c ab g;have m:(Value.slice p' (l+1) a).ownBlock=(Value.slice q l lc).ownBlock∨(Value.slice p' (l+1) a).ownBlock=some (wq.alloc (.cells #[v] TI)).heap.size:=g;have b:World.grownBy _ w9 (Value.slice q l lc).ownBlock:=ab;have X9:=xQ (Ext.own (XQ.out.alloc _) (OQ.out.alloc _) b (by omega));have B9:=xQ (tD OQ b BQ.out);have F9:=xQ ((FQ.out.alloc _).kept b (.inr (Ne.symm a5.out)));have O9:=xQ c;have z9:=b.size;have A9:=xQ m;clear c ab m b g));have bg:Hid ((Value.slice p' (l+1) a).ownBlock≠some gF):=by
    show _≠_;rcases A9.out with h|h
    ·rw[h];exact a5.out
    rw[h];simp;omega
   have bz:(wq:Nat)≤w9:=aRz (by simp) z9;clear z9 cn;have bu:0<f:=by have:=ay.out;have:=ba.out;omega
   obtain⟨f',rfl⟩: ∃f',f=f'+1:=⟨f-1,by omega⟩
   have aw:Hid ((pre++ [x])++dH aA n f' v=dH aA n 12 u):=by
    show _=_;rw[←HW.out]
    conv=>rhs;rw[dH,if_neg bm.out,←HY.out]
    simp
   go_roundw
   case rel=>exact⟨v,f',pre++ [x],p',l+1,a,by go_num,ae,by have:=aj.out;have:=ay.out;omega,aw.out,rfl,by have:=a0.out;simp;omega,by have:=O9.out;simpa[bG]using this,F9.out,bg.out,X9.out,B9.out,by omega⟩
   case measure=>simp[intOf];have:=aj.out;have:=ba.out;omega
theorem aB0 (aA aB:Int)(p:OA)(n cap u:Nat)(xs:List Int)(w:World)(hS:Sl w p n cap 1 (ivs xs))(a:aO aA aB xs=true)(hu:u<n):
  U 169 #[aH aA aB p n cap,u,(),(-1:Int)] w (bA (bG (dH aA n 12 u)) w):=by
 have hl:=hS.ilen;obtain⟨g1,g2,g3,g4,g5,g6,g7,g8,g9⟩:=bN a;have hg:=rK (n:=n) g1 g2 g3 g4 (by omega);refine aLq aA aB p n cap u (aX aA u 0) w hg (by omega) (by omega) hu rfl (bV hg hu).1 (fun w' hx=> ?_) (fun w' hx=> ?_) (fun k hk w' hx=> ?_)
 ·have:=aBk aA aB u 0 p n cap xs w' (hS.ext hx);rwa[dM,if_pos ⟨a,by omega,by omega⟩]at this
 ·refine(aKb aA aB p n cap 0 (-1) xs w' (hS.ext hx) a (by omega)).mono ?_;rintro e w2 ⟨D,hD,hr⟩;exact⟨D,⟨hD.len,fun v hv=>aAs hg (aFg aA n) hD hv⟩,hr⟩
 have:=aG8 aA aB k p n cap xs w' (hS.ext hx) a (by omega) (by omega);rwa[lQ]at this
end
end Go.Proofs.YtbgkcehffiogcacGreatDoor
