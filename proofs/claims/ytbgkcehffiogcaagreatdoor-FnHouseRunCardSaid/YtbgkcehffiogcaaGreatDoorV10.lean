/-
  Texts of this proof, packed (@packed).
-/
import Derived.Test.YtbgkcehffiogcaaGreatDoorV9
namespace Go.Proofs.YtbgkcehffiogcaaGreatDoor
set_option linter.unusedSimpArgs false
set_option linter.unusedVariables false
set_option maxHeartbeats 8000000
set_option maxRecDepth 100000
section
open Go.RowKit Go.Proofs.Tryz
def oD (aA:Int)(n:Nat)(but:Int)(u:Nat):List Nat:=(aR aA n u).filter (fun(v:Nat)=>decide ((v:Int)≠but))
theorem aCb (aA:Int)(n:Nat)(a:Int):iK aA n a=((List.range n).filter (fun(b:Nat)=>decide (aU aA a b=1))).map (fun(k:Nat)=>(k:Int)):=by
 unfold iK;induction n with
 |zero=>rfl
 |succ n ih=>rw[eR,ih,aLg,aKy,aLd];congr 1;by_cases h:aU aA a n=1<;>simp[h]
theorem jT (aA:Int)(n u:Nat):iK aA n u=(aR aA n u).map (fun(k:Nat)=>(k:Int)):=aCb _ _ _
theorem aDa {aA:Int}{n:Nat}{a:Int}{u v:Nat}(h:v∈oD aA n a u):v<n:=(bM.1 (aKq.1 h).1).1
theorem Inv.one {adj:Nat→List Nat}{N s:Nat}(hs:s<N):Inv adj [s] N 0 ((List.replicate N (-1)).set s 0,[s]):=by
 have hl:s<(List.replicate N (-1:Int)).length:=by simpa using hs
 have a: ∀v,v<N→s≠v→((List.replicate N (-1:Int)).set s 0).getD v 0= -1:=by intro v hv e;rw[bK e];simp[List.getD,hv]
 refine⟨by simp,by simpa using hs,?_,by simp,by simp,?_,?_,?_,fun i u hi=>by omega⟩
 ·intro v hv;dsimp only;by_cases e:s=v
  ·subst e;rw[bX hl];simp
  rw[a v hv e];simp;exact fun h=>e h.symm
 ·intro u hu v hv;simp at hu hv;subst hu hv;omega
 ·intro v hv;simp at hv;subst hv;dsimp only;rw[bX hl];simp[mJ]
 intro v hv;simp at hv;subst hv;exact⟨by simp,bX hl⟩
theorem aG9 (n s:Nat): ∀x∈(List.replicate n (-1:Int)).set s 0,-1≤x∧x≤((0:Nat):Int):=by
 intro x hx;rcases aL0 hx with h|h
 ·rw[List.mem_replicate]at h;omega
 omega
theorem cQ {D:List Int}{v:Nat}(h:v<D.length):D[v]? =some (D.getD v 0)∧D.getD v 0∈D:=by
 have:D[v]? =some (D.getD v 0):=by rw[aK6,aK2 h];rfl
 exact⟨this,aK5 this⟩
theorem aD0 {nb:List Nat}{j v:Nat}{a:Int}(h:nb[j]? =some v) (hb:(v:Int)=a):(nb.take (j+1)).filter (fun(v:Nat)=>decide ((v:Int)≠a))=(nb.take j).filter (fun(v:Nat)=>decide ((v:Int)≠a)):=by rw[bE h,aKy];simp[hb]
theorem zS {nb:List Nat}{j v:Nat}{a:Int}(h:nb[j]? =some v) (hb:(v:Int)≠a):(nb.take (j+1)).filter (fun(v:Nat)=>decide ((v:Int)≠a))=(nb.take j).filter (fun(v:Nat)=>decide ((v:Int)≠a))++ [v]:=by rw[bE h,aKy];simp[hb]
theorem jR {a:Int}{D:List Int}{Q:List Nat}{v:Nat}(h:D.getD v 0<0):dV a (D,Q) v=(D.set v a,Q++ [v]):=by unfold dV;rw[if_pos h]
theorem kZ {a:Int}{D:List Int}{Q:List Nat}{v:Nat}(h: ¬D.getD v 0<0):dV a (D,Q) v=(D,Q):=by unfold dV;rw[if_neg h]
theorem aJ6 {w:World}{B B2 n m c c2 sz sz2:Nat}{e e2:TypeId}{q q2:OA}{xs ys:List Value}(h1:w.ownsRow B e sz (.slice q n c) n xs)(h2: ∀g,(Value.slice q2 m c2).ownBlock=some g→g<B)(h0:(Value.slice q2 m c2).ownBlock≠none):(Value.slice q2 m c2).ownBlock≠(Value.slice q n c).ownBlock:=by
 intro he;cases hq:(Value.slice q n c).ownBlock with
 |none=>rw[hq]at he;exact h0 he
 |some g=>rw[hq]at he;have:=h2 g he;have:=(h1.lt g hq).1;omega
theorem aIt {w:World}{g n base:Nat}{t:TypeId}{cs:Array Value}(h:Blk w g t cs)(hn:cs.size=n)(hm:n≤maxLen)(hb:base≤g):w.ownsRow base t 1 (.slice (some ⟨g,0,none⟩) n n) n cs.toList:=
 ⟨by simpa using hn,.inr ⟨g,n,cs,rfl,hb,h,aK1 _,hm,by omega,by rw[Nat.mul_one,aKb (by simp;omega)]⟩⟩
abbrev bA (q:List Nat):List Int:=q.map (fun(k:Nat)=>(k:Int))
theorem fK {w:World}{g:Array Oper}{rest:List Oper}{o:Oper}{a:Act}{Q:Exit→Act→World→Prop}(m:o.guard=none)(s x:Operand)
  (ho:o.op= .call {callee:= .builtin .append,args:=#[s,x],argTypes:=#[23,23]})
  (base:Nat)(v:Value)(n:Nat)(xs:List Int)(hs:a.eval s=v)(f:w.ownsRow base 3 1 v n (ivs xs))
  (b e:Nat)(y:Int)(c:Nat)(hx:a.eval x= .slice (some ⟨b,e,none⟩) 1 c)(hc:w.cell? ⟨b,e,none⟩=some (iv y))
  (hn:n≤1099511627776)(d:base≤w.heap.size)
  (h: ∀p' cap' w',w'.ownsRow base 3 1 (.slice p' (n+1) cap') (n+1) (ivs (xs++ [y]))→w.grownBy w' v.ownBlock→((Value.slice p' (n+1) cap').ownBlock=v.ownBlock∨(Value.slice p' (n+1) cap').ownBlock=some w)→wpList prog g Q rest (a.put o.dst (.slice p' (n+1) cap')) w'):wpList prog g Q (o::rest) a w:=by
 obtain⟨i,z,hi,hz,q,l,r⟩:=fH.info;refine wpList_append_own_at w m s x 23 ho base 3 i z 1 i.bytes fH.ht hi hz q rfl r fH.pos v n _ hs f ⟨b,e,none⟩ 1 c [iv y] hx rfl (fun j u hu=> ?_) (fun u hu=>by simp at hu;subst hu;rfl) (by unfold maxLen;omega) ?_ d ?_
 ·match j,hu with
  |0,hu=>simp at hu;subst hu;rw[jI];exact hc
 ·have:(n+1)*i.bytes≤(n+1)*64:=Nat.mul_le_mul_left _ l;omega
 intro v' w' h2 h3 _ h5;obtain⟨p,k,rfl⟩:=lA h2;exact h p k w' (by simpa[ivs]using h2) h3 h5
theorem aDp (aA aB:Int)(p:OA)(n f src:Nat)(a:Int)(w:World)(db:4≤n)(hn:n≤12)(hs:src<n)
  (HC:Hid (∀(k:Nat),k<n→ ∀w',Ext w w'→U 187 #[aH aA aB p n f,k] w' (bI (bA (aR aA n k)) w'))):
  U 186 #[aH aA aB p n f,src,a] w fun e w'=> ∃D,pV (oD aA n a) [src] n D∧bI D w e w':=by
 have a1:(0:Int)≤(src:Int):=by omega
 have a2:(src:Int)<(n:Int):=by omega
 go_enter func186,ntmps186;go_wp2;go_loopw [7,8] (fun v i wr=> ∃(k:Nat) (q:OA) (c:Nat),k≤n∧i=I k∧v= .slice q k c∧wr.ownsRow (w.heap.size+1) TI 1 (.slice q k c) k (ivs (List.replicate k (-1)))∧Ext w wr∧Blk wr w TH3 #[aA,aB,.slice p n f]) (fun _ i _=>n-(intOf i).toNat)
 case atStart=>have ho:((w.alloc (.cells #[aA,aB,.slice p n f] TH3)).alloc (.cells #[] TI)).ownsRow (w.heap.size+1) TI 1 (.slice (some ⟨(w.alloc (.cells #[aA,aB,.slice p n f] TH3)).heap.size,0,none⟩) 0 0) 0 []:=aLa _ #[] 0 (by simp) (by simp[maxLen]) rfl;exact⟨0,_,0,aK8 _,rfl,rfl,by simpa using ho,by exact .alloc (.alloc (.refl _) _) _,(Blk.new w _ _).alloc _⟩
 case round=>
  obtain⟨k,q,c,hk,rfl,rfl,au,b,hB⟩:=hrel;have HO:=xQ au;have HB:=xQ hB;have bq:(w:Nat)<wr:=hB.lt;clear au hB;obtain⟨b0,b1,b2⟩:=HB.out.cells3;by_cases hlt:k<n
  ·have y:Hid (List.replicate (k+1) (-1:Int)=List.replicate k (-1)++ [-1]):=by show _=_;rw[List.replicate_succ']
   go_wp2_with (at_builtin;refine dA fH rfl _ _ rfl (w.heap.size+1) _ _ _ rfl (HO.out.alloc _) _ _ (-1:Int) _ rfl (by simp) (by omega) (by first|(simp;done)|(simp;omega)) ?_;intro p' t w2 o s;have bv:=xQ o;have b8:Ext w w2:=Ext.own (b.alloc _) (HO.out.alloc _) s (by omega);have bs:=xQ (nX HO s HB.out);clear o s);go_roundw
   case rel=>exact⟨k+1,p',t,by omega,by go_num,rfl,by rw[y.out];exact bv.out,b8,bs.out⟩
   case measure=>simp[intOf];omega
  obtain rfl:n=k:=by omega
  obtain⟨gF,rfl,c6,c7⟩:=eA HO (by omega);have ck:wr.cell? ⟨gF,src,none⟩=some (I (-1)):=by have:=HO.out.cellAt src (by omega);rw[this];simp[ivs,hs]
  have cm:wr.frozen? ⟨gF,src,none⟩=false:=HO.out.frozenAt src;go_upto_region 8 with fail;clear ck cm b0 b1 b2;have y1:=(HO.out.stored src (I 0)).1;have az:ExtR gF wr _:=(HO.out.stored src (I 0)).2;have a7:(World.setCell wr ⟨gF,src,none⟩ (I 0)).heap.size=wr.heap.size:=by simp
  generalize ch:World.setCell _ _ _=w1 at*;rw[←a7];clear ch;have F1:=xQ (show w1.ownsRow (w.heap.size+1) TI 1 (.slice (some ⟨gF,0,none⟩) n c) n (ivs ((List.replicate n (-1)).set src 0)) by rw[←dJ];exact y1);have B1:=xQ (show Blk w1 w TH3 #[aA,aB,.slice p n f]from(az.block _ HB.out.lt (by simp;omega)).trans HB.out);have X1:=xQ (ExtR.new b az (by omega));have z1:(wr:Nat)≤w1:=aM8 a7.symm;have dd:=B1.out.lt;clear a7 y1 az HO HB b bq;have bh:(w1.alloc (.cells #[src] TI)).ownsRow w1 TI 1 (.slice (some ⟨w1,0,none⟩) 1 1) 1 [I src]:=aIt (n:=1) (Blk.new w1 TI #[src]) rfl (by simp[maxLen]) (aK1 _);have L1:=xQ bh;clear bh;have I1:=xQ (Inv.one (adj:=oD aA n a) hs);go_wp2;go_loopw [9,10] (fun v i wr=> ∃(k:Nat) (q:OA) (l lc:Nat) (D:List Int) (Q:List Nat),k≤l∧i=I k∧v= .slice q l lc∧l=Q.length∧(∀x∈D,-1≤x∧x≤k)∧Inv (oD aA n a) [src] n k (D,Q)∧wr.ownsRow (w.heap.size+1) TI 1 (.slice (some ⟨gF,0,none⟩) n c) n (ivs D)∧wr.ownsRow w1 TI 1 (.slice q l lc) l (ivs (bA Q))∧Ext w wr∧Blk wr w TH3 #[aA,aB,.slice p n f]∧w1.heap.size≤wr.heap.size) (fun _ i _=>n-(intOf i).toNat)
  case atStart=>exact⟨0,_,1,1,_,[src],aK8 _,rfl,rfl,rfl,aG9 _ _,I1.out,F1.out.alloc _,L1.out,X1.out.alloc _,B1.out.alloc _,by simp⟩
  case round=>
   clear F1 B1 X1 L1 I1;obtain⟨wr1,rfl⟩: ∃wr1:World,wr1=wr:=⟨_,rfl⟩
   obtain⟨k,q,l,lc,D,Q,hk,rfl,rfl,a4,bj,ai,hF,hL,b,hB,bq⟩:=hrel;have HF:=xQ hF;have HL:=xQ hL;have HB:=xQ hB;have HI:=xQ ai;have ag:=xQ a4;have dc:l≤n:=by rw[a4];exact ai.qlen
   have a8:=xQ bj;clear hF hL hB ai a4 bj;by_cases hlt2:k<l
   ·obtain⟨gL,rfl,b9,ca⟩:=eA HL (by omega);obtain⟨u,hu⟩: ∃u,Q[k]? =some u:=⟨_,aK2 (by rw[←ag.out];exact hlt2)⟩
    have ce:u<n:=HI.out.bd u (aK5 hu);have HU:=xQ hu;clear hu;have i1:(0:Int)≤(k:Int):=by omega
    have i2:(k:Int)<(l:Int):=by omega
    have j1:(0:Int)≤(u:Int):=by omega
    have j2:(u:Int)<(n:Int):=by omega
    obtain⟨nb,al⟩: ∃nb,nb=aR aA n u:=⟨_,rfl⟩
    have aw:=xQ al;have a9:Hid (∀w',Ext w w'→U 187 #[aH aA aB p n f,u] w' (bI (bA nb) w')):=by rw[al];exact HC u ce
    have cd:nb.length≤n:=by rw[al];exact aK9 (aL6 _ _) (by simp)
    clear al;have bo:(bA nb).length=nb.length:=by simp[bA]
    go_wp2;refine rL (gl [gEq (aH aA aB p n f),gEq (.slice (some ⟨gL,0,none⟩) l lc),gEq (k:Int),gEq (.pointer (some ⟨gL,k,none⟩)),gEq (u:Int),(fun v w'=> ∃q c,v= .slice q nb c∧w'.ownsRow wr1 TI 1 (.slice q nb c) nb.length (ivs (bA nb)))]) 6 7 [(0,some 35),(1,some 36),(2,some 37),(3,some 38),(4,some 39),(5,some 40)] ?steps ?fin (hG:=(kP (aW (bJ _) (aW (bJ _) (aW (bJ _) (aW (bJ _) (aW (bJ _) (aW (fun v w w' ⟨q,c,he,ho⟩ hx=>⟨q,c,he,aY ho hx⟩) (nA)))))))))
    case steps=>
     refine sC [] rfl (fun wi hx=> ?_) ?_
     ·intro K hK;have B:=HB.out.ext hx.of_drew;have cx:=B.cl 0;have B:=HB.out.ext hx.of_drew;have cy:=B.cl 1;have B:=HB.out.ext hx.of_drew;have cz:=B.cl 2;go_simp;exact hK _ _ ⟨aH aA aB p n f,rfl,rfl,Ext.refl _⟩
     refine sS0 [] (sS0 [] (sS2 [(1,some 36),(2,some 37)] ?_));refine sC [(3,some 38)] rfl (fun wi hx=> ?_) ?_
     ·intro v3 h3 K hK;obtain rfl:=h3;have cu:wi.cell? ⟨gL,k,none⟩=some (I u):=by have:=(aY HL hx.of_drew).cellAt k (by omega);rw[this];simp[ivs,bA,HU.out]
      go_simp;exact hK _ _ ⟨I u,rfl,rfl,Ext.refl _⟩
     refine sC [(0,some 35),(4,some 39)] rfl (fun wi hx=> ?_) StepsL.nil
     ·intro v0 h0 v4 h4 K hK;subst h0 h4;go_wp2_with fail;refine(a9 _ (b.trans hx.of_drew)).mono ?_;rintro e w5 ⟨q5,c5,rfl,o5,cj⟩;rw[bo]at o5⊢;go_simp;exact hK _ _ ⟨.slice q5 nb c5,rfl,⟨q5,c5,rfl,bF o5 (by have:=hx.sz;simpa using this)⟩,cj⟩
    case fin=>
     intro wi hx v0 h0 v1 h1 v2 h2 v3 h3 v4 h4 v5 h5;subst h0 h1 h2 h3 h4;obtain⟨q5,c5,rfl,a5⟩:=h5;refine wpAny_ready (rs:= [6]) (by kernel_rfl) (by simp) ?_;refine AllReady.cons rfl (fun K hK=> ?_) AllReady.nil;go_simp;refine hK _ _ ?_;clear hK K;refine wpAny_done (by kernel_rfl) ?_ _;have d:=hx.of_drew;have F2:=xQ (aY HF d);have L2:=xQ (aY HL d);have B2:=xQ (HB.out.ext d);have X2:=xQ (b.trans d);have N2:=xQ a5;have z2:=d.sz;have bb:=xQ (aJ6 (q2:=some ⟨gL,0,none⟩) (m:=l) (c2:=lc) (B2:=0) (sz2:=0) (e2:=TI) (ys:= []) a5 (fun g hg=>by simp[Value.ownBlock]at hg;omega) (by simp[Value.ownBlock]));clear HF HL HB b a5 hx d a9;go_wp2;obtain⟨wo,rfl⟩: ∃wo:World,wo=wi:=⟨_,rfl⟩
     go_loopw [9,12] (fun v i wr=> ∃(j:Nat) (q:OA) (l2 lc:Nat) (D2:List Int) (Q2:List Nat),j≤nb.length∧i=I j∧v= .slice q l2 lc∧l2=Q2.length∧(D2,Q2)=bH (D.getD u 0+1) (D,Q) ((nb.take j).filter (fun(v:Nat)=>decide ((v:Int)≠a)))∧(∀x∈D2,-1≤x∧x≤(k:Int)+1)∧wr.ownsRow (w.heap.size+1) TI 1 (.slice (some ⟨gF,0,none⟩) n c) n (ivs D2)∧wr.ownsRow w1 TI 1 (.slice q l2 lc) l2 (ivs (bA Q2))∧wr.ownsRow wr1 TI 1 (.slice q5 nb c5) nb.length (ivs (bA nb))∧(Value.slice q l2 lc).ownBlock≠(Value.slice q5 nb c5).ownBlock∧Ext w wr∧Blk wr w TH3 #[aA,aB,.slice p n f]∧wo.heap.size≤wr.heap.size) (fun _ i _=>nb.length-(intOf i).toNat)
     case atStart=>exact⟨0,_,l,lc,D,Q,aK8 _,rfl,rfl,ag.out,by simp[bH],fun x hx=>by have:=a8 x hx;omega,F2.out,L2.out,N2.out,bb.out,X2.out,B2.out,aK1 _⟩
     case round=>
      clear F2 L2 B2 X2 N2 bb;obtain⟨j,q,l2,lc,D2,Q2,hj,rfl,rfl,ar,a3,ah,hF,hL,hN,bp,b,hB,av⟩:=hrel;have br:u∈Q:=aK5 HU.out;have z:Mid (oD aA n a) [src] n k u ((nb.take j).filter (fun(v:Nat)=>decide ((v:Int)≠a))) (D,Q) (D2,Q2):=by
       rw[a3]
       have:=Mid.many br ((nb.take j).filter (fun(v:Nat)=>decide ((v:Int)≠a))) [] (D,Q) (HI.out.mid HU.out) (fun v hv=>by
        have h1:=aKq.1 hv;have h2:v∈aR aA n u:=by rw[←aw.out];exact aLj h1.1
        exact⟨aKq.2 ⟨h2,h1.2⟩,(bM.1 h2).1⟩)
       simpa using this
      have bc:D2.length=n:=z.len;have da:Q2.length≤n:=mT z.nodup z.bd;have a6:D2.getD u 0=D.getD u 0:=z.same u br;obtain⟨r,hr⟩:=z.pre;dsimp only at hr;have cc:k<Q2.length:=by rw[hr,aKa];have:=ag.out;omega
      have bi:Q2[k]? =some u:=by have:=ag.out;rw[hr,aKk (by omega)];exact HU.out
      have af:=cQ (D:=D2) (v:=u) (by omega);have cq: -1≤D2.getD u 0:=(ah _ af.2).1;have cr:D2.getD u 0≤(k:Int):=by rw[a6];exact(a8 _ (cQ (D:=D) (v:=u) (by have:=HI.out.len;dsimp only at this;omega)).2).2
      have HF:=xQ hF;have HL:=xQ hL;have HN:=xQ hN;have ak:=xQ bp;have HB:=xQ hB;have aj:=xQ a3;have ab:=xQ ah;have ad:=xQ ar;have bw:=xQ bi;have bu:=xQ af.1;have bx:=xQ a6;have ct:l2≤n:=by omega
      have cs:k<l2:=by omega
      have be:=xQ bc;clear hF hL hN bp hB a3 ah ar bi af a6 hr z bc cc;by_cases hlt3:j<nb.length
      ·obtain⟨v,hv⟩: ∃v,nb[j]? =some v:=⟨_,aK2 hlt3⟩
       have cg:v<n:=(bM.1 (by rw[←aw.out];exact aK5 hv:v∈aR aA n u)).1;have HV:=xQ hv;clear hv;obtain⟨gN,rfl,c8,c9⟩:=eA HN (by omega);obtain⟨gL,rfl,b9,ca⟩:=eA HL (by omega);obtain⟨dv,bl,aq⟩: ∃dv,D2[v]? =some dv∧D2.getD v 0=dv:=⟨_,(cQ (D:=D2) (v:=v) (by rw[be.out];exact cg)).1,rfl⟩
       have ba:=xQ bl;have an:=xQ aq;clear bl aq;have m1:(0:Int)≤(j:Int):=by omega
       have m2:(j:Int)<(nb.length:Int):=by omega
       have m3:(0:Int)≤(v:Int):=by omega
       have m4:(v:Int)<(n:Int):=by omega
       have m5:(k:Int)<(l2:Int):=by omega
       have cn:wr.cell? ⟨gN,j,none⟩=some (I v):=by have:=HN.out.cellAt j (by omega);rw[this];simp[ivs,bA,HV.out]
       have cf:wr.cell? ⟨gF,v,none⟩=some (I dv):=by have:=HF.out.cellAt v (by omega);rw[this];simp[ivs,ba.out]
       by_cases hvb:(v:Int)=a
       ·have t0:((v:Int)!=a)=false:=by simp[hvb]
        have y:=xQ (aD0 HV hvb);clear hvb;go_wp2;go_roundw
        case rel=>exact⟨j+1,_,l2,lc,D2,Q2,by omega,by go_num,rfl,ad.out,by rw[y.out];exact aj.out,ab.out,HF.out,HL.out,HN.out,ak.out,b,HB.out,av⟩
        case measure=>simp[intOf];omega
       have t0:((v:Int)!=a)=true:=by simp[hvb]
       have y:=xQ (zS HV hvb);clear hvb;by_cases hd0:dv<0
       ·have t1:decide (dv<0)=true:=by simp[hd0]
        have aa:Hid ((D2.set v (D.getD u 0+1),Q2++ [v])=bH (D.getD u 0+1) (D,Q) ((nb.take (j+1)).filter (fun(v:Nat)=>decide ((v:Int)≠a)))):=by show _=_;rw[y.out,dF,←aj.out,jR (by rw[an.out];exact hd0)]
        obtain⟨du,af⟩: ∃du,du=D2.getD u 0:=⟨_,rfl⟩
        have am:=xQ af;have c0: -1≤du:=by omega
        have c1:du≤(k:Int):=by omega
        have cw:IntKind.i64.wrap (du+1)=du+1:=aK3 _ (by omega);clear af hd0;go_wp2;refine rL (gl [gEq (.slice (some ⟨gF,0,none⟩) n c),gEq (.slice (some ⟨gN,0,none⟩) nb c5),gEq (j:Int),gEq (.pointer (some ⟨gN,j,none⟩)),gEq (v:Int),gEq (.slice (some ⟨gF,0,none⟩) n c),gEq (.slice (some ⟨gL,0,none⟩) l2 lc),gEq (k:Int),gEq (.pointer (some ⟨gL,k,none⟩)),gEq (u:Int),gEq (.pointer (some ⟨gF,u,none⟩)),gEq du,gEq (du+1:Int),gEq (.pointer (some ⟨gF,v,none⟩))]) 14 15 [(0,some 63),(1,some 64),(2,some 65),(3,some 66),(4,some 67),(5,some 68),(6,some 69),(7,some 70),(8,some 71),(9,some 72),(10,some 73),(11,some 74),(12,some 75),(13,some 76)] ?steps ?fin
        case steps=>
         refine sC [] rfl (fun wj hx=> ?_) ?_
         ·intro K hK;go_simp;exact hK _ _ ⟨.slice (some ⟨gF,0,none⟩) n c,rfl,rfl,Ext.refl _⟩
         refine sC [] rfl (fun wj hx=> ?_) ?_
         ·intro K hK;go_simp;exact hK _ _ ⟨.slice (some ⟨gN,0,none⟩) nb c5,rfl,rfl,Ext.refl _⟩
         refine sC [] rfl (fun wj hx=> ?_) ?_
         ·intro K hK;go_simp;exact hK _ _ ⟨I j,rfl,rfl,Ext.refl _⟩
         refine sC [(1,some 64),(2,some 65)] rfl (fun wj hx=> ?_) ?_
         ·intro v1 h1 v2 h2 K hK;subst h1 h2;go_simp;exact hK _ _ ⟨.pointer (some ⟨gN,j,none⟩),rfl,rfl,Ext.refl _⟩
         refine sC [(3,some 66)] rfl (fun wj hx=> ?_) ?_
         ·intro v3 h3 K hK;obtain rfl:=h3;have cv:wj.cell? ⟨gN,j,none⟩=some (I v):=by have:=(aY HN hx.of_drew).cellAt j (by omega);rw[this];simp[ivs,bA,HV.out]
          go_simp;exact hK _ _ ⟨I v,rfl,rfl,Ext.refl _⟩
         refine sC [] rfl (fun wj hx=> ?_) ?_
         ·intro K hK;go_simp;exact hK _ _ ⟨.slice (some ⟨gF,0,none⟩) n c,rfl,rfl,Ext.refl _⟩
         refine sC [] rfl (fun wj hx=> ?_) ?_
         ·intro K hK;go_simp;exact hK _ _ ⟨.slice (some ⟨gL,0,none⟩) l2 lc,rfl,rfl,Ext.refl _⟩
         refine sC [] rfl (fun wj hx=> ?_) ?_
         ·intro K hK;go_simp;exact hK _ _ ⟨I k,rfl,rfl,Ext.refl _⟩
         refine sC [(6,some 69),(7,some 70)] rfl (fun wj hx=> ?_) ?_
         ·intro v6 h6 v7 h7 K hK;subst h6 h7;go_simp;exact hK _ _ ⟨.pointer (some ⟨gL,k,none⟩),rfl,rfl,Ext.refl _⟩
         refine sC [(8,some 71)] rfl (fun wj hx=> ?_) ?_
         ·intro v8 h8 K hK;obtain rfl:=h8;have cv:wj.cell? ⟨gL,k,none⟩=some (I u):=by have:=(aY HL hx.of_drew).cellAt k (by omega);rw[this];simp[ivs,bA,bw.out]
          go_simp;exact hK _ _ ⟨I u,rfl,rfl,Ext.refl _⟩
         refine sC [(5,some 68),(9,some 72)] rfl (fun wj hx=> ?_) ?_
         ·intro v5 h5 v9 h9 K hK;subst h5 h9;go_simp;exact hK _ _ ⟨.pointer (some ⟨gF,u,none⟩),rfl,rfl,Ext.refl _⟩
         refine sC [(10,some 73)] rfl (fun wj hx=> ?_) ?_
         ·intro co ax K hK;obtain rfl:=ax;have cv:wj.cell? ⟨gF,u,none⟩=some (I du):=by have:=(aY HF hx.of_drew).cellAt u (by omega);rw[this,am.out];simp only[ivs,aKl,bu.out,aKv]
          go_simp;exact hK _ _ ⟨I du,rfl,rfl,Ext.refl _⟩
         refine sC [(11,some 74)] rfl (fun wj hx=> ?_) ?_
         ·intro cp ay K hK;obtain rfl:=ay;go_simp;exact hK _ _ ⟨I (du+1),rfl,rfl,Ext.refl _⟩
         refine sC [(0,some 63),(4,some 67)] rfl (fun wj hx=> ?_) StepsL.nil
         ·intro v0 h0 v4 h4 K hK;subst h0 h4;go_simp;exact hK _ _ ⟨.pointer (some ⟨gF,v,none⟩),rfl,rfl,Ext.refl _⟩
        case fin=>
         intro wj hx v0 h0 v1 h1 v2 h2 v3 h3 v4 h4 v5 h5 v6 h6 v7 h7 v8 h8 v9 h9 co ax cp ay de b6 df b7;subst h0 h1 h2 h3 h4 h5 h6 h7 h8 h9;obtain rfl:=ax;obtain rfl:=ay;obtain rfl:=b6;obtain rfl:=b7;have d:=hx.of_drew;have F3:=xQ (aY HF d);have L3:=xQ (aY HL d);have N3:=xQ (aY HN d);have B3:=xQ (HB.out.ext d);have X3:=xQ (b.trans d);have z3:=d.sz;clear HF HL HN HB b hx d cn cf;have b3:wj.cell? ⟨gF,v,none⟩=some (I dv):=by have:=F3.out.cellAt v (by omega);rw[this];simp[ivs,ba.out]
         have b5:wj.frozen? ⟨gF,v,none⟩=false:=F3.out.frozenAt v;refine wpAny_ready (rs:= [14]) (by kernel_rfl) (by simp) ?_;refine AllReady.cons rfl (fun K hK=> ?_) AllReady.nil;go_simp;refine hK _ _ ?_;clear hK K b3 b5;have y4:=(F3.out.stored v (I (du+1))).1;have ae:ExtR gF wj _:=(F3.out.stored v (I (du+1))).2;generalize ci:World.setCell _ _ _=w4 at*;clear ci;have F4:=xQ (show w4.ownsRow (w.heap.size+1) TI 1 (.slice (some ⟨gF,0,none⟩) n c) n (ivs (D2.set v (du+1))) by rw[←dJ];exact y4);have L4:=xQ (L3.out.kept ae (.inr (by simp[Value.ownBlock];omega)));have N4:=xQ (N3.out.kept ae (.inr (by simp[Value.ownBlock];omega)));have B4:=xQ (show Blk w4 w TH3 #[aA,aB,.slice p n f]from(ae.block _ B3.out.lt (by simp;omega)).trans B3.out);have X4:=xQ (ExtR.new X3 ae (by omega));have z4:=ae.sz;clear F3 L3 N3 B3 X3 y4 ae;refine wpAny_done (by kernel_rfl) ?_ _;have b4:w4.cell? ⟨gN,j,none⟩=some (I v):=by have:=N4.out.cellAt j (by omega);rw[this];simp[ivs,bA,HV.out]
         have c4:=(N4.out.lt gN rfl).2;have c3:=(L4.out.lt gL rfl).2;have cb:(w1:Nat)≤w4:=by omega
         go_wp2_with (at_builtin;refine fK rfl _ _ rfl w1 _ _ _ rfl (L4.out.alloc _) _ _ (v:Int) _ rfl (by simp) (by omega) (aK9 cb (by simp)) ?_;intro p' t w9 o bm ao;have s:World.grownBy _ w9 (Value.slice (some ⟨gL,0,none⟩) l2 lc).ownBlock:=bm;have ap:(Value.slice p' (l2+1) t).ownBlock=(Value.slice (some ⟨gL,0,none⟩) l2 lc).ownBlock∨(Value.slice p' (l2+1) t).ownBlock=some (w4.alloc (.cells #[v] TI)).heap.size:=ao;have F5:=xQ ((F4.out.alloc _).kept s (.inr (by simp[Value.ownBlock];omega)));have N5:=xQ ((N4.out.alloc _).kept s (.inr (Ne.symm ak.out)));have L5:=xQ o;have E5:=xQ (Ext.own (X4.out.alloc _) (L4.out.alloc _) s (by omega));have B5:=xQ ((B4.out.alloc _).grown s (by simp[Value.ownBlock];omega));have z9:=s.size;have A5:=xQ ap;clear o s ap bm ao);have bz:Hid ((Value.slice p' (l2+1) t).ownBlock≠(Value.slice (some ⟨gN,0,none⟩) nb c5).ownBlock):=by
          show _≠_;rcases A5.out with h|h
          ·rw[h];exact ak.out
          rw[h];simp[Value.ownBlock];omega
         have dg:(w4:Nat)≤w9:=aK9 (by simp) z9;clear z9 b4;go_roundw
         case rel=>
          refine⟨j+1,p',l2+1,t,D2.set v (du+1),Q2++ [v],by omega,by go_num,rfl,by simp[ad.out],?_,?_,F5.out,?_,N5.out,bz.out,E5.out,B5.out,by omega⟩
          ·rw[am.out,bx.out];exact aa.out
          ·intro x hx;rcases aL0 hx with h|h
           ·exact ab x h
           omega
          have:=L5.out;simpa[bA]using this
         case measure=>simp[intOf];omega
       have t1:decide (dv<0)=false:=by simp[hd0]
       have aa:Hid ((D2,Q2)=bH (D.getD u 0+1) (D,Q) ((nb.take (j+1)).filter (fun(v:Nat)=>decide ((v:Int)≠a)))):=by show _=_;rw[y.out,dF,←aj.out,kZ (by rw[an.out];exact hd0)]
       clear hd0;go_wp2;go_roundw
       case rel=>exact⟨j+1,_,l2,lc,D2,Q2,by omega,by go_num,rfl,ad.out,aa.out,ab.out,HF.out,HL.out,HN.out,ak.out,b,HB.out,av⟩
       case measure=>simp[intOf];omega
      have bn:j=nb.length:=by omega
      have bg:Hid (Inv (oD aA n a) [src] n (k+1) (D2,Q2)):=by
       have h1:=HI.out.step HU (fun v hv=>aDa hv);have h2:=aj.out;rw[bn,aLp]at h2;have h3:nb.filter (fun(v:Nat)=>decide ((v:Int)≠a))=oD aA n a u:=by rw[aw.out];rfl
       rw[h3]at h2;rw[h2];exact h1
      have bk:Hid (∀x∈D2,-1≤x∧x≤((k+1:Nat):Int)):=fun x hx=>by have:=ab x hx;omega
      clear bn;go_wp2;go_roundw
      case rel=>exact⟨k+1,_,l2,lc,D2,Q2,by omega,by go_num,rfl,ad.out,bk.out,bg.out,HF.out,HL.out,b,HB.out,by omega⟩
      case measure=>simp[intOf];omega
   have a0:=xQ (HI.out.dist (by have:=ag.out;dsimp only;omega));have bf:=HI.out.len;have bt:=xQ bf;clear bf;go_wp2;go_ret;exact⟨D,a0.out,dL bt (bF HF (Nat.le_succ _)) b⟩
theorem aE6 (aA aB:Int)(p:OA)(n a src:Nat)(b:Int)(xs:List Int)(w:World)(hS:Sl w p n a 1 (ivs xs))(c:aN aA aB xs=true)(hs:src<n):
  U 186 #[aH aA aB p n a,src,b] w fun e w'=> ∃D,pV (oD aA n b) [src] n D∧bI D w e w':=by
 have hl:=hS.ilen;obtain⟨g1,g2,g3,g4,g5,g6,g7,g8,g9⟩:=bL c
 exact aDp aA aB p n a src b w (by omega) (by omega) hs (fun k hk w' hx=>by
  have:=aAt aA aB k p n a xs w' (hS.ext hx) c (by omega) (by omega)
  rwa[jT]at this)
end
def jV (aA:Int)(n u:Nat):Nat:=((aR aA n u).find? (fun(v:Nat)=>decide (aU aA v 0=aU aA u 0-1))).getD 0
def cM (aA:Int)(n:Nat):Nat→Nat→List Nat
 |0,u=> [u]
 |f+1,u=>if u=0 then [u]else u::cM aA n f (jV aA n u)
def gZ:List (Int×Nat):= [(2,4),(2,6),(3,6),(3,9),(4,8),(4,12)]
def aIm (aA:Int)(n:Nat):Bool:=
 (List.range n).all fun u=>decide (0≤aU aA u 0∧aU aA u 0≤5)&&decide (aU aA u 0=0↔u=0)
  &&(decide (u=0) || (decide (jV aA n u<n)&&decide (jV aA n u∈aR aA n u)&&decide (aU aA (jV aA n u) 0=aU aA u 0-1)))
  &&(List.range n).all fun v=> !decide (v∈aR aA n u) || decide (aU aA u 0≤aU aA v 0+1)
theorem aH6:(gZ.all fun g=>aIm g.1 g.2)=true:=by decide+kernel
theorem oP {aA aB:Int}{n:Nat}(h0:2≤aA)(h1:aA≤4)(h2:2≤aB)(h3:aB≤3)(hn:(n:Int)=aA*aB):(aA,n)∈gZ:=by
 have hw:aA=2∨aA=3∨aA=4:=by omega
 have hd:aB=2∨aB=3:=by omega
 rcases hw with rfl|rfl|rfl<;>rcases hd with rfl|rfl
 ·obtain rfl:n=4:=by omega
  decide
 ·obtain rfl:n=6:=by omega
  decide
 ·obtain rfl:n=6:=by omega
  decide
 ·obtain rfl:n=9:=by omega
  decide
 ·obtain rfl:n=8:=by omega
  decide
 obtain rfl:n=12:=by omega
 decide
theorem bP {aA:Int}{n:Nat}(h:(aA,n)∈gZ){u:Nat}(hu:u<n):
  0≤aU aA u 0∧aU aA u 0≤5∧(aU aA u 0=0↔u=0)
  ∧(u≠0→jV aA n u<n∧jV aA n u∈aR aA n u∧aU aA (jV aA n u) 0=aU aA u 0-1)
  ∧ ∀v∈aR aA n u,aU aA u 0≤aU aA v 0+1:=by
 have h1:=aL5.1 aH6 _ h;have h2:=aL5.1 h1 u (aKj.2 hu);simp only[aKg,Bool.or_eq_true,decide_eq_true_eq]at h2;obtain⟨⟨⟨⟨a,b⟩,c⟩,d⟩,e⟩:=h2;refine⟨a,b,c,fun h=> ?_,fun v hv=> ?_⟩
 ·rcases d with d|d
  ·exact absurd d h
  exact⟨d.1.1,d.1.2,d.2⟩
 have:=aL5.1 e v (aKj.2 (bM.1 hv).1);simpa[hv]using this
theorem vS {aA:Int}{n:Nat}(h:(aA,n)∈gZ){adj:Nat→List Nat}(ha: ∀u,adj u=aR aA n u){D:List Int}(hD:pV adj [0] n D){u:Nat}(hu:u<n):D.getD u 0=aU aA u 0:=by
 have hn:0<n:=by omega
 have up: ∀(d:Nat) v,v<n→aU aA v 0=d→0≤D.getD v 0∧D.getD v 0≤d:=by
  intro d;induction d with
  |zero=>intro v hv e;have e0:=(bP h hv).2.2.1.1 e;have:=(hD.zero v hv).2 (by simp[e0]);omega
  |succ d ih=>
   intro v hv e;have g:v≠0:=fun e0=>by have:=(bP h hv).2.2.1.2 e0;omega
   obtain⟨h1,h2,h3⟩:=(bP h hv).2.2.2.1 g;obtain⟨i1,i2⟩:=ih _ h1 (by omega);have:=hD.edge _ v h1 i1 (by rw[ha];exact eX hv h2);omega
 have f: ∀(d:Nat) v,v<n→D.getD v 0=d→aU aA v 0≤d:=by
  intro d;induction d with
  |zero=>intro v hv e;have hm:=(hD.zero v hv).1 e;simp at hm;have:=(bP h hv).2.2.1.2 hm;omega
  |succ d ih=>intro v hv e;obtain⟨x,hx,hm,e2⟩:=hD.back v hv (by omega);have i1:=ih x hx (by omega);rw[ha]at hm;have:=(bP h hv).2.2.2.2 x (eX hx hm);omega
 obtain⟨a,b,_⟩:=bP h hu;obtain⟨c,e⟩:=up (aU aA u 0).toNat u hu (by omega);have:=f (D.getD u 0).toNat u hu (by omega);omega
theorem aCz {α:Type}{p:α→Bool}{d x:α}: ∀ {l:List α},x∈l→p x=true→ ∃j,j<l.length∧l[j]? =some ((l.find? p).getD d)∧p ((l.find? p).getD d)=true∧ ∀i y,i<j→l[i]? =some y→p y=false:=by
 intro l;induction l with
 |nil=>intro h;simp at h
 |cons a l ih=>
  intro hx hp;by_cases ha:p a=true
  ·refine⟨0,by simp,by simp[ha],by simp[ha],fun i y hi=>by omega⟩
  have b:p a=false:=by simpa using ha
  have c:x∈l:=by
   rcases aKh.1 hx with e|e
   ·subst e;exact absurd hp ha
   exact e
  obtain⟨j,h1,h2,h3,h4⟩:=ih c hp;have e:((a::l).find? p).getD d=(l.find? p).getD d:=by rw[List.find?_cons_of_neg (by simp[b])]
  refine⟨j+1,by simp;omega,by rw[e];simpa using h2,by rw[e];exact h3,?_⟩;intro i y hi hy;cases i with
  |zero=>simp at hy;subst hy;exact b
  |succ i=>exact h4 i y (by omega) (by simpa using hy)
theorem aCj {aA:Int}{n:Nat}(h:(aA,n)∈gZ){u:Nat}(hu:u<n)(h0:u≠0):
  ∃j,j<(aR aA n u).length∧(aR aA n u)[j]? =some (jV aA n u)∧ ∀i v,i<j→(aR aA n u)[i]? =some v→aU aA v 0≠aU aA u 0-1:=by
 obtain⟨a,b,c⟩:=(bP h hu).2.2.2.1 h0;obtain⟨j,h1,h2,_,h4⟩:=aCz (p:=fun(v:Nat)=>decide (aU aA v 0=aU aA u 0-1)) (d:=0) b (by simpa using c);exact⟨j,h1,h2,fun i v hi hv=>by simpa using h4 i v hi hv⟩
theorem kW {aA:Int}{n:Nat}(h:(aA,n)∈gZ): ∀(f u:Nat),u<n→aU aA u 0≤f→((cM aA n f u).length:Int)=aU aA u 0+1:=by
 intro f;induction f with
 |zero=>intro u hu hf;have:=(bP h hu).1;simp[cM];omega
 |succ f ih=>
  intro u hu hf;unfold cM;by_cases h0:u=0
  ·rw[if_pos h0];have:=(bP h hu).2.2.1.2 h0;simp;omega
  rw[if_neg h0];obtain⟨a,b,c⟩:=(bP h hu).2.2.2.1 h0;have:=ih _ a (by omega);simp;omega
theorem pX (aA:Int)(n f u:Nat):(cM aA n f u)[0]? =some u:=by
 cases f with
 |zero=>simp[cM]
 |succ f=>unfold cM;split<;>simp
theorem qY {aA:Int}{n:Nat}(h:(aA,n)∈gZ): ∀(f u k x y:Nat),u<n→(cM aA n f u)[k]? =some x→(cM aA n f u)[k+1]? =some y→y<n∧y∈aR aA n x:=by
 intro f;induction f with
 |zero=>intro u k x y hu hx hy;simp[cM]at hy
 |succ f ih=>
  intro u k x y hu hx hy;unfold cM at hx hy;by_cases h0:u=0
  ·rw[if_pos h0]at hy;simp at hy
  rw[if_neg h0]at hx hy;obtain⟨a,b,c⟩:=(bP h hu).2.2.2.1 h0;cases k with
  |zero=>simp at hx hy;have:=pX aA n f (jV aA n u);rw[hy]at this;injection this with e;subst hx e;exact⟨a,b⟩
  |succ k=>exact ih _ k x y a (by simpa using hx) (by simpa using hy)
theorem aCh {aA:Int}{n:Nat}(h:(aA,n)∈gZ): ∀(f u x:Nat),u<n→x∈cM aA n f u→x<n:=by
 intro f;induction f with
 |zero=>intro u x hu hx;simp[cM]at hx;omega
 |succ f ih=>
  intro u x hu hx;unfold cM at hx;by_cases h0:u=0
  ·rw[if_pos h0]at hx;simp at hx;omega
  rw[if_neg h0]at hx;obtain⟨a,b,c⟩:=(bP h hu).2.2.2.1 h0;rcases aKh.1 hx with e|e
  ·omega
  exact ih _ x a e
section
open Go.RowKit Go.Proofs.Tryz
theorem aA3 (aA:Int)(n u:Nat):oD aA n (-1) u=aR aA n u:=by unfold oD;rw[List.filter_eq_self];intro v hv;first|(simp;done)|(simp;omega)
theorem aFc (aA aB:Int)(p:OA)(n g u:Nat)(R:Int)(w:World)(hg:Hid ((aA,n)∈gZ))(bw:4≤n)(hn:n≤12)(hu:u<n)(hR:Hid (R=aU aA u 0))(bu:0≤R)
  (HP:xC 132 #[aH aA aB p n g,u,()] w fun w' e w''=>e= .returned (I R)∧Ext w' w'')
  (HF:xC 186 #[aH aA aB p n g,(),(-1:Int)] w fun w' e w''=> ∃D,(D.length=n∧ ∀v,v<n→D.getD v 0=aU aA v 0)∧bI D w' e w'')
  (HC:Hid (∀(k:Nat),k<n→ ∀w',Ext w w'→U 187 #[aH aA aB p n g,k] w' (bI (bA (aR aA n k)) w'))):
  U 158 #[aH aA aB p n g,u,(),(-1:Int)] w (bI (bA (cM aA n 12 u)) w):=by
 have a1:(0:Int)≤(u:Int):=by omega
 have a2:(u:Int)<(n:Int):=by omega
 have a3:((-1:Int)==(u:Int))=false:=by first|(simp;done)|(simp;omega)
 have a4:decide (R<0)=false:=by first|(simp;done)|(simp;omega)
 go_enter func158,ntmps158;go_wp2_with fail;refine Z (HP _ (by exact .alloc (.alloc (.refl _) _) _)) fun w1 ah=>?_
 have B1:=xQ (((Blk.new w TH3 #[aA,aB,.slice p n g]).alloc (.cells #[] TI)).ext ah);have ho:((w.alloc (.cells #[aA,aB,.slice p n g] TH3)).alloc (.cells #[] TI)).ownsRow (w.heap.size+1) TI 1 (.slice (some ⟨(w.alloc (.cells #[aA,aB,.slice p n g] TH3)).heap.size,0,none⟩) 0 0) 0 []:=aLa _ #[] 0 (by simp) (by simp[maxLen]) rfl;have O1:=xQ (aY ho ah);have X1:Ext w w1:=(((Ext.refl _).alloc _).alloc _).trans ah;have s1:w.heap.size+1<w1.heap.size:=by have:=ah.sz;simp at this;omega
 clear ho ah;obtain⟨b0,b1,b2⟩:=B1.out.cells3;have n1:IntKind.i64.wrap ((n:Int)-1)=(n:Int)-1:=aK3 _ (by omega);have t1:decide ((-1:Int)≤ -1∧(-1:Int)≤(n:Int)-1)=true:=by first|(simp;done)|(simp;omega)
 have HI:Hid (∀w,U 31 #[(-1:Int),(-1:Int),((n:Int)-1:Int)] w fun e w'=>e= .returned (.bool true)∧w=w'):=fun w=>by have:=pH (-1) (-1) ((n:Int)-1) w;rwa[t1]at this
 clear t1;go_wp2_with fail;refine(HI _).mono ?_;rintro e w2 ⟨rfl,rfl⟩;go_wp2_with fail;clear b0 b1 b2;refine(HF _ (by exact X1)).mono ?_;rintro e w2 ⟨D,⟨au,a8⟩,q2,c2,rfl,o2,an⟩;rw[au]at o2⊢;have HD:=xQ au;have HV:=xQ a8;have X2:=xQ (X1.trans an);have O2:=xQ (aY O1 an);have ar:=xQ (show w2.ownsRow (w.heap.size+1) TI 1 (.slice (some ⟨w.heap.size+1,0,none⟩) 0 0) 0 (ivs []) by simpa using O2.out);have B2:=xQ (B1.out.ext an);clear au a8 an O1 X1;have s2:=B2.out.lt;obtain⟨gF,rfl,bq,br⟩:=eA o2 (by omega);have F2:=xQ (bF o2 (Nat.le_of_lt s1));clear o2 B1;have dU:D[u]? =some R:=by have:=(cQ (D:=D) (v:=u) (by rw[HD.out];exact hu)).1;rw[this,HV u hu,hR.out]
 have cU:w2.cell? ⟨gF,u,none⟩=some (I R):=by have:=F2.out.cellAt u (by omega);rw[this];simp[ivs,dU]
 clear dU;obtain⟨wA,bm⟩: ∃wA:World,wA=w2:=⟨_,rfl⟩
 have bj:w.heap.size+1≤w2.heap.size:=s2;go_wp2_with (at_builtin;go_loud (refine fK rfl _ _ rfl (w.heap.size+1) _ _ [] rfl (ar.out.alloc _) _ _ (u:Int) _ rfl (by simp) (by omega) (aK9 bj (by simp)) ?_;intro p' a w3 c ad m;have r:(Value.slice p' (0+1) a).ownBlock=(Value.slice (some ⟨w.heap.size+1,0,none⟩) 0 0).ownBlock∨(Value.slice p' (0+1) a).ownBlock=some (w2.alloc (.cells #[u] TI)).heap.size:=m;have b:World.grownBy _ w3 (Value.slice (some ⟨w.heap.size+1,0,none⟩) 0 0).ownBlock:=ad;have X3:=xQ (Ext.own (X2.out.alloc _) (ar.out.alloc _) b (by omega));have B3:=xQ ((B2.out.alloc _).grown b (by first|(simp[Value.ownBlock];done)|(simp[Value.ownBlock];omega)));have F3:=xQ ((F2.out.alloc _).kept b (.inr (by first|(simp[Value.ownBlock];done)|(simp[Value.ownBlock];omega))));have O3:=xQ c;have z3:=b.size;have A3:=xQ r;clear c ad r b m));have a7:Hid ((Value.slice p' (0+1) a).ownBlock≠some gF):=by
  show _≠_;rcases A3.out with h|h
  ·rw[h];simp[Value.ownBlock];(try omega)
  rw[h];simp;omega
 clear A3 X2 B2 F2 O2 ar bm wA z3 cU;have aw:=xQ (bP hg.out hu);go_wp2;go_loopw [1,9] (fun v o wr=> ∃(x f:Nat) (pre:List Nat) (q:OA) (l lc:Nat),v=I x∧x<n∧aU aA x 0≤f∧pre++cM aA n f x=cM aA n 12 u∧o= .slice q l lc∧l=pre.length+1∧wr.ownsRow (w.heap.size+1) TI 1 (.slice q l lc) l (ivs (bA (pre++ [x])))∧wr.ownsRow (w.heap.size+1) TI 1 (.slice (some ⟨gF,0,none⟩) n c2) n (ivs D)∧(Value.slice q l lc).ownBlock≠some gF∧Ext w wr∧Blk wr w TH3 #[aA,aB,.slice p n g]∧w3.heap.size≤wr.heap.size) (fun v _ _=>(aU aA (intOf v) 0).toNat)
 case atStart=>exact⟨u,12,[],p',1,a,rfl,hu,by have:=aw.out.2.1;omega,rfl,rfl,rfl,by simpa[bA]using O3.out,F3.out,a7.out,X3.out,B3.out,aK1 _⟩
 case round=>
  clear O3 F3 a7 X3 B3;obtain⟨x,f,pre,q,l,lc,rfl,hx,hf,ag,rfl,hl,hO,hF,bd,al,hB,bx⟩:=hrel;have aq:=xQ hO;have a0:=xQ hF;have a6:=xQ bd;have HB:=xQ hB;have HW:=xQ ag;have ap:=xQ (bP hg.out hx);have az:=xQ hf;have bo:l≤12:=by have h1:=congrArg List.length ag;have h2:=kW hg.out f x hx hf;have h3:=kW hg.out 12 u hu (by have:=aw.out.2.1;omega);have h4:=aw.out.2.1;have h5:=ap.out.1;rw[aKa]at h1;omega
  have bz:=HB.out.lt;have a5:=xQ hl;clear hO hF bd hB ag hf hl;by_cases h0:x=0
  ·have t0:((x:Int)!=0)=false:=by simp[h0]
   have ao:Hid (pre++ [x]=cM aA n 12 u):=by show _=_;rw[←HW.out];subst h0;cases f<;>simp[cM]
   clear h0;go_wp2;go_ret;exact dL (by rw[←ao.out];have:=a5.out;simp[bA];omega) (by rw[←ao.out];exact bF aq (Nat.le_succ _)) al
  have t0:((x:Int)!=0)=true:=by simp[h0]
  obtain⟨J,bi,am,av⟩:=aCj hg.out hx h0;obtain⟨e1,e2,e3⟩:=ap.out.2.2.2.1 h0;have bn:=xQ h0;obtain⟨y,hy⟩: ∃y,y=jV aA n x:=⟨_,rfl⟩
  rw[←hy]at am e1 e2 e3;have HY:=xQ hy;clear hy h0;obtain⟨nb,ae⟩: ∃nb,nb=aR aA n x:=⟨_,rfl⟩
  rw[←ae]at bi am av;have ay:Hid (∀w',Ext w w'→U 187 #[aH aA aB p n g,x] w' (bI (bA nb) w')):=by rw[ae];exact HC x hx
  have bg:=xQ ae;have bk:nb.length≤12:=by rw[ae];exact aK9 (aL6 _ _) (by simp;omega)
  have a9:=xQ am;have ba:=xQ av;have ak:=xQ e3;clear ae am av e2 e3;have bc:(bA nb).length=nb.length:=by simp[bA]
  obtain⟨b0,b1,b2⟩:=HB.out.cells3;go_wp2_with fail;clear b0 b1 b2;refine(ay _ al).mono ?_;rintro e w5 ⟨q5,c5,rfl,o5,ai⟩;rw[bc]at o5⊢;obtain⟨gN,rfl,bs,bt⟩:=eA o5 (by omega);have O5:=xQ (aY aq ai);have F5:=xQ (aY a0 ai);have B5:=xQ (HB.out.ext ai);have X5:=xQ (al.trans ai);have N5:=xQ o5;clear aq a0 HB al o5 ai ay;go_wp2;go_loopw [12] (fun i wz=> ∃j:Nat,j≤J∧i=I j∧Ext w5 wz) (fun i _=>J-(intOf i).toNat)
  case atStart=>exact⟨0,aK8 _,rfl,Ext.refl _⟩
  case round=>
   obtain⟨j,hj,rfl,hZ⟩:=hrel;obtain⟨v,hv⟩: ∃v,nb[j]? =some v:=⟨_,aK2 (by omega)⟩
   have af:v<n:=(bM.1 (by rw[←bg.out];exact aK5 hv:v∈aR aA n x)).1;have aj:=xQ hv;have aa:=(cQ (D:=D) (v:=v) (by rw[HD.out];exact af)).1;have ab:=(cQ (D:=D) (v:=x) (by rw[HD.out];exact hx)).1;rw[HV v af]at aa;rw[HV x hx]at ab;obtain⟨dv,s⟩: ∃d,d=aU aA v 0:=⟨_,rfl⟩
   obtain⟨dx,z⟩: ∃d,d=aU aA x 0:=⟨_,rfl⟩
   have gv:=bP hg.out af;have gx:=ap.out;rw[←s]at aa gv;rw[←z]at ab gx;have m1:(0:Int)≤(j:Int):=by omega
   have m2:(j:Int)<(nb.length:Int):=by omega
   have m3:(0:Int)≤(v:Int):=by omega
   have m4:(v:Int)<(n:Int):=by omega
   have m5:(0:Int)≤(x:Int):=by omega
   have m6:(x:Int)<(n:Int):=by omega
   have m7:((v:Int)== -1)=false:=by first|(simp;done)|(simp;omega)
   have w7:IntKind.i64.wrap (dx-1)=dx-1:=aK3 _ (by omega);have FZ:=xQ (aY F5 hZ);have NZ:=xQ (aY N5 hZ);have cn:wr.cell? ⟨gN,j,none⟩=some (I v):=by have:=NZ.out.cellAt j (by omega);rw[this];simp[ivs,bA,aj.out]
   have cf:wr.cell? ⟨gF,v,none⟩=some (I dv):=by have:=FZ.out.cellAt v (by omega);rw[this];simp only[ivs,aKl,aa,aKv]
   have cx:wr.cell? ⟨gF,x,none⟩=some (I dx):=by have:=FZ.out.cellAt x (by omega);rw[this];simp only[ivs,aKl,ab,aKv]
   by_cases hjJ:j<J
   ·have be:(dv !=dx-1)=true:=by
     have:=ba.out j v hjJ aj.out;rw[←s,←z]at this;simpa using this
    clear aa ab s z gv gx;go_wp2;go_quiet (fail);go_wp2;go_roundw
    case rel=>exact⟨j+1,by omega,by go_num,by exact .drewN hZ _⟩
    case measure=>simp[intOf];omega
   obtain rfl:j=J:=by omega
   have bl:v=y:=by have h1:=aj.out;rw[a9.out]at h1;injection h1 with h1;exact h1.symm
   subst bl;have be:(dv !=dx-1)=false:=by have:=ak.out;rw[←s,←z]at this;simp[this]
   have bb:=xQ (show 1≤aU aA (x:Int) 0 by have h1:=(bP hg.out af).1;have h2:=ak.out;omega);clear aa ab s gv;go_wp2;go_quiet (fail);generalize bf:World.drewN _ _=wq;have t:Ext w5 wq:=by rw[←bf];exact hZ.drewN _
   clear bf cn cf cx FZ NZ hZ;have OQ:=xQ (aY O5 t);have FQ:=xQ (aY F5 t);have NQ:=xQ (aY N5 t);have BQ:=xQ (B5.out.ext t);have XQ:=xQ (X5.out.trans t);have zq:=t.sz;clear O5 F5 N5 B5 X5 t;have cn:wq.cell? ⟨gN,j,none⟩=some (I v):=by have:=NQ.out.cellAt j (by omega);rw[this];simp[ivs,bA,aj.out]
   have lO:w.heap.size+1≤wq.heap.size:=by omega
   have bp:=(FQ.out.lt gF rfl).2;go_wp2_with (at_builtin;go_loud (refine fK rfl _ _ rfl (w.heap.size+1) (.slice q l lc) l (bA (pre++ [x])) rfl (OQ.out.alloc _) _ _ (v:Int) _ rfl (by simp) (by omega) (aK9 lO (by simp)) ?_;intro p' a w9 c ad m;have r:(Value.slice p' (l+1) a).ownBlock=(Value.slice q l lc).ownBlock∨(Value.slice p' (l+1) a).ownBlock=some (wq.alloc (.cells #[v] TI)).heap.size:=m;have b:World.grownBy _ w9 (Value.slice q l lc).ownBlock:=ad;have X9:=xQ (Ext.own (XQ.out.alloc _) (OQ.out.alloc _) b (by omega));have B9:=xQ (nX OQ b BQ.out);have F9:=xQ ((FQ.out.alloc _).kept b (.inr (Ne.symm a6.out)));have O9:=xQ c;have z9:=b.size;have A9:=xQ r;clear c ad r b m));have bh:Hid ((Value.slice p' (l+1) a).ownBlock≠some gF):=by
    show _≠_;rcases A9.out with h|h
    ·rw[h];exact a6.out
    rw[h];simp;omega
   have b3:(wq:Nat)≤w9:=aK9 (by simp) z9;clear z9 cn;have bv:0<f:=by have:=az.out;have:=bb.out;omega
   obtain⟨f',rfl⟩: ∃f',f=f'+1:=⟨f-1,by omega⟩
   have ax:Hid ((pre++ [x])++cM aA n f' v=cM aA n 12 u):=by
    show _=_;rw[←HW.out]
    conv=>rhs;rw[cM,if_neg bn.out,←HY.out]
    simp
   go_roundw
   case rel=>exact⟨v,f',pre++ [x],p',l+1,a,by go_num,af,by have:=ak.out;have:=az.out;omega,ax.out,rfl,by have:=a5.out;simp;omega,by have:=O9.out;simpa[bA]using this,F9.out,bh.out,X9.out,B9.out,by omega⟩
   case measure=>simp[intOf];have:=ak.out;have:=bb.out;omega
theorem vX (aA aB:Int)(p:OA)(n a u:Nat)(xs:List Int)(w:World)(hS:Sl w p n a 1 (ivs xs))(b:aN aA aB xs=true)(hu:u<n):
  U 158 #[aH aA aB p n a,u,(),(-1:Int)] w (bI (bA (cM aA n 12 u)) w):=by
 have hl:=hS.ilen;obtain⟨g1,g2,g3,g4,g5,g6,g7,g8,g9⟩:=bL b;have hg:=oP (n:=n) g1 g2 g3 g4 (by omega);refine aFc aA aB p n a u (aU aA u 0) w hg (by omega) (by omega) hu rfl (bP hg hu).1 (fun w' hx=> ?_) (fun w' hx=> ?_) (fun k hk w' hx=> ?_)
 ·have:=wG aA aB u 0 p n a xs w' (hS.ext hx);rwa[cS,if_pos ⟨b,by omega,by omega⟩]at this
 ·refine(aE6 aA aB p n a 0 (-1) xs w' (hS.ext hx) b (by omega)).mono ?_;rintro e w2 ⟨D,hD,hr⟩;exact⟨D,⟨hD.len,fun v hv=>vS hg (aA3 aA n) hD hv⟩,hr⟩
 have:=aAt aA aB k p n a xs w' (hS.ext hx) b (by omega) (by omega);rwa[jT]at this
end
end Go.Proofs.YtbgkcehffiogcaaGreatDoor
