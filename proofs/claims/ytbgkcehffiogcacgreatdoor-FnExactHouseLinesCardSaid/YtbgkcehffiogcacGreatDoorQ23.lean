/-
  Texts of this proof, packed (@packed).
-/
import Derived.Test.YtbgkcehffiogcacGreatDoorQ22
namespace Go.Proofs.YtbgkcehffiogcacGreatDoor
open Go.RowKit Go.Proofs.Tryz
set_option linter.unusedSimpArgs false
set_option linter.unusedVariables false
set_option maxHeartbeats 8000000
set_option maxRecDepth 100000
theorem aNk (aA aB a:Int)(p:OA)(n cap:Nat)(w:World)(hn:n≤12)(h0:0≤a)(h1:a<n)
  (HV:xB 72 #[aH aA aB p n cap] w true)
  (HH:Hid (∀w',U 159 #[aH aA aB p n cap,a] w' (O (.bool true) w')))
  (HA:Hid (∀(k:Nat),k<n→ ∀w',U 160 #[aA,a,k] w' (O (I (aX aA a k)) w'))):
  U 217 #[aH aA aB p n cap,a] w (bA (jX aA n a) w):=by
 go_enter func217,ntmps217;go_wp2_with fail;refine Z (HV _ xE) fun w1 u=>?_
 have B1:=xQ ((Blk.new w TH3 #[aA,aB,.slice p n cap]).ext u);have X1:=xQ (show Ext w w1 from xE);obtain⟨b0,b1,b2⟩:=B1.out.cells3;clear u;go_wp2_with fail;refine Z (HH _) fun w2 s=>?_
 clear b0 b1 b2;have B2:=xQ (B1.out.ext s);have X2:=xQ (X1.out.trans s);obtain⟨b0,b1,b2⟩:=B2.out.cells3;clear s B1 X1;go_wp2;go_loopw [5,19] (fun v i wr=> ∃(k:Nat) (q:OA) (m c:Nat),k≤n∧i=I k∧v= .slice q m c∧m≤k∧wr.ownsRow (w.heap.size+1) TI 1 (.slice q m c) m (ivs (fP (fun b=>decide (aX aA a b=1)) k))∧Ext w wr∧Blk wr w TH3 #[aA,aB,.slice p n cap]) (fun _ i _=>n-(intOf i).toNat)
 case atStart=>exact⟨0,_,0,0,aRv _,rfl,rfl,aRp _,aS4 _ _ _ _,X2.out,B2.out⟩
 case round=>
  clear b0 b1 b2 B2 X2;obtain⟨k,q,m,c,hk,rfl,rfl,ab,j,o,hB⟩:=hrel;have HO:=xQ j;have HB:=xQ hB;clear j hB;obtain⟨b0,b1,b2⟩:=HB.out.cells3;by_cases hlt:k<n
  ·go_wp2_with fail;refine Z (HA k hlt _) fun w1 h1=>?_
   have g:=xQ (aZ HO h1);have l:=xQ (HB.out.ext h1);have h:=xQ (o.trans h1);have aa:(w:Nat)<w1:=l.out.lt;clear h1 b0 b1 b2 HO HB o;by_cases hx0:aX aA a k=1
   ·have t0:(aX aA a k==1)=true:=by simp[hx0]
    have d:Hid (fP (fun b=>decide (aX aA a b=1)) (k+1)=fP (fun b=>decide (aX aA a b=1)) k++ [(k:Int)]):=by show _=_;rw[fP,if_pos (by simpa using hx0)]
    clear hx0;go_wp2_with (at_builtin;refine cM fQ rfl _ _ rfl (w.heap.size+1) _ _ _ rfl (g.out.alloc _) _ _ (k:Int) _ rfl (by simp) (by omega) (by first|(simp;done)|(simp;omega)) ?_;intro p' t w2 f r;have y:=xQ f;have z:Ext w w2:=Ext.own (h.out.alloc _) (g.out.alloc _) r (by omega);have x:=xQ (tD g r l.out);clear f r);go_roundw
    case rel=>exact⟨k+1,p',m+1,t,by omega,by go_num,rfl,by omega,by rw[d.out];exact y.out,z,x.out⟩
    case measure=>simp[intOf];omega
   have t0:(aX aA a k==1)=false:=by simp[hx0]
   have d:Hid (fP (fun b=>decide (aX aA a b=1)) (k+1)=fP (fun b=>decide (aX aA a b=1)) k):=by show _=_;rw[fP,if_neg (by simpa using hx0),aSe]
   clear hx0;go_wp2;go_roundw
   case rel=>exact⟨k+1,q,m,c,by omega,by go_num,rfl,by omega,by rw[d.out];exact g.out,h.out,l.out⟩
   case measure=>simp[intOf];omega
  have d:Hid (fP (fun b=>decide (aX aA a b=1)) k=jX aA n a):=by show _=_;unfold jX;rw[show k=n by omega]
  go_wp2;go_ret;exact dG (by rw[←d.out];have:=HO.out.1;simpa using this) (by rw[←d.out];exact bJ HO (Nat.le_succ _)) o
theorem aHk (aA aB a:Int)(p:OA)(n cap:Nat)(xs:List Int)(w:World)(hS:Sl w p n cap 1 (ivs xs))(b:aO aA aB xs=true)(h0:0≤a)(h1:a<n):
  U 217 #[aH aA aB p n cap,a] w (bA (jX aA n a) w):=by
 have hl:=hS.ilen;obtain⟨g1,g2,g3,g4,g5,g6,g7,g8,g9⟩:=bN b;refine aNk aA aB a p n cap w (by omega) h0 h1 (fun w' hx=>by have:=fY aA aB p n cap xs w' (hS.ext hx);rwa[b]at this) (fun w'=> ?_) (fun k hk w'=>nA aA a k w' h0 (by omega) (by omega) (by omega) (by omega) (by omega));have:=jH aA aB a p n cap w' (by omega);rwa[decide_eq_true (⟨h0,h1⟩:0≤a∧a<n)]at this
theorem aI9 {k n:Nat}(h:k<n):(List.replicate k (-1:Int)++List.replicate (n-k) 0).set k (-1)=List.replicate (k+1) (-1)++List.replicate (n-(k+1)) 0:=by
 have e:n-k=(n-(k+1))+1:=by omega
 rw[e,aT9,aT8 _ _ (by simp),List.replicate_succ',aSh];simp
theorem aN6 (aA aB:Int)(p:OA)(n cap src:Nat)(a:Int)(w:World)(bw:4≤n)(hn:n≤12)(hs:src<n)
  (HC:Hid (∀(k:Nat),k<n→ ∀w',Ext w w'→U 217 #[aH aA aB p n cap,k] w' (bA (bG (aS aA n k)) w'))):
  U 216 #[aH aA aB p n cap,src,a] w fun e w'=> ∃D,tG (qU aA n a) [src] n D∧bA D w e w':=by
 obtain⟨AR,ae⟩: ∃AR:Array Value,AR=madeCells #[()] n:=⟨_,rfl⟩
 have bi: ∀w:World,(Instr.makeSlice 22 (I n) (I n)).run prog w= .ok (.slice (some ⟨w,0,none⟩) n n) (w.alloc (.cells AR TI)):=fun w=>by rw[ae];exact run_make_row' _ _ (I 0) 8 underlying22 (by kernel_rfl) rfl .i64 .i64 n (by omega) (by omega) w
 have av:Hid (AR.toList=ivs (List.replicate 0 (-1)++List.replicate (n-0) 0)):=by show _=_;rw[ae,(oB n).1];simp
 have aw:Hid (AR.size=n):=by show _=_;rw[ae];exact(oB n).2
 clear ae;go_enter func216,ntmps216;go_wp2;have ME:=xQ (show Mem w ((w.alloc (.cells #[aA,aB,.slice p n cap] TH3)).alloc (.cells AR TI)) [aI w TI 1 (some ⟨w.heap.size+1,0,none⟩) (n) (n) (ivs (List.replicate 0 (-1)++List.replicate (n-0) 0)),aJ w w TH3 #[aA,aB,.slice p n cap]]from by rw[←av.out];exact((Mem.start w).c0 TH3 #[aA,aB,.slice p n cap]).lit TI 1 n _ AR (by simp) (by rw[aw.out];omega) (by simp[maxLen];omega));clear av aw bi;go_loopw [19] (fun i wr=> ∃(k:Nat),k≤n∧i=I k∧Mem w wr [aI w TI 1 (some ⟨w.heap.size+1,0,none⟩) (n) (n) (ivs (List.replicate k (-1)++List.replicate (n-k) 0)),aJ w w TH3 #[aA,aB,.slice p n cap]]) (fun i _=>n-(intOf i).toNat)
 case atStart=>exact⟨0,aRv _,rfl,ME.out⟩
 case round=>
  clear ME;obtain⟨k,hk,rfl,hM⟩:=hrel;have HM:=xQ hM;clear hM;by_cases hlt:k<n
  ·have i1:(0:Int)≤(k:Int):=by omega
   have i2:(k:Int)<(n:Int):=by omega
   have hl:(List.replicate k (-1:Int)++List.replicate (n-k) 0)[k]? =some 0:=by rw[aS3 (by simp)];simp[aTe];omega
   have a9:wr.cell? ⟨w.heap.size+1,k,none⟩=some (I 0):=by have:=(HM.out.ow 0).cellAt k (by omega);rw[this];simp only[ivs,aS9,hl,aSm]
   have ba:wr.frozen? ⟨w.heap.size+1,k,none⟩=false:=(HM.out.ow 0).frozenAt k;clear hl;have M2:=xQ (HM.out.ostore (i:=0) rfl k (I (-1)));go_wp2;go_roundw
   case rel=>exact⟨k+1,by omega,by go_num,by have:=M2.out;rw[eF,aI9 hlt]at this;exact this⟩
   case measure=>simp[intOf];omega
  obtain rfl:n=k:=by omega
  rw[aT0,show List.replicate n (-1:Int)++List.replicate 0 0=List.replicate n (-1) by simp]at HM;have i1:(0:Int)≤(src:Int):=by omega
  have i2:(src:Int)<(n:Int):=by omega
  have a9:wr.cell? ⟨w.heap.size+1,src,none⟩=some (I (-1)):=by have:=(HM.out.ow 0).cellAt src (by omega);rw[this];simp[ivs,hs]
  have ba:wr.frozen? ⟨w.heap.size+1,src,none⟩=false:=(HM.out.ow 0).frozenAt src;have M2:=xQ (HM.out.ostore (i:=0) rfl src (I 0));rw[show Hid (Mem w (wr.setCell ⟨w.heap.size+1,src,none⟩ (I 0)) (List.set [aI w TI 1 (some ⟨w.heap.size+1,0,none⟩) (n) (n) (ivs (List.replicate n (-1))),aJ w w TH3 #[aA,aB,.slice p n cap]] 0 (aI w TI 1 (some ⟨w.heap.size+1,0,none⟩) n n (List.set (ivs (List.replicate n (-1))) src (I 0)))))=Hid (Mem w (wr.setCell ⟨w.heap.size+1,src,none⟩ (I 0)) [aI w TI 1 (some ⟨w.heap.size+1,0,none⟩) (n) (n) (ivs ((List.replicate n (-1)).set src 0)),aJ w w TH3 #[aA,aB,.slice p n cap]]) by rw[eF];rfl]at M2;go_upto_region 8 with fail;clear a9 ba HM;generalize a7:World.setCell _ _ _=w1;rw[a7]at M2;clear a7;have I1:=xQ (Inv.one (adj:=qU aA n a) hs);have M3:=xQ (M2.out.lit TI 1 1 w1 #[src] rfl rfl (by simp[maxLen]));clear M2;go_wp2;go_loopw [9,10] (fun v i wr=> ∃(k:Nat) (q:OA) (l lc:Nat) (D:List Int) (Q:List Nat),k≤l∧i=I k∧v= .slice q l lc∧l=Q.length∧(∀x∈D,-1≤x∧x≤k)∧Inv (qU aA n a) [src] n k (D,Q)∧Mem w wr [aI w TI 1 (q) (l) (lc) (ivs (bG Q)),aI w TI 1 (some ⟨w.heap.size+1,0,none⟩) (n) (n) (ivs (D)),aJ w w TH3 #[aA,aB,.slice p n cap]]) (fun _ i _=>n-(intOf i).toNat)
  case atStart=>exact⟨0,some ⟨w1,0,none⟩,1,1,_,[src],aRv _,rfl,rfl,rfl,aMp _ _,I1.out,M3.out⟩
  case round=>
   clear M3 I1;obtain⟨k,q,l,lc,D,Q,hk,rfl,rfl,ao,a1,ab,hM⟩:=hrel;have HM:=xQ hM;have HI:=xQ ab;have t:=xQ ao;have bx:l≤n:=by rw[ao];exact ab.qlen
   have ar:=xQ a1;clear hM ab ao a1;by_cases hlt2:k<l
   ·obtain⟨u,hu⟩: ∃u,Q[k]? =some u:=⟨_,aRq (by rw[←t.out];exact hlt2)⟩
    have bl:u<n:=HI.out.bd u (aRs hu);have HU:=xQ hu;clear hu;obtain⟨gL,rfl,az,ak⟩:=HM.out.so 0;have i3:(0:Int)≤(k:Int):=by omega
    have i4:(k:Int)<(l:Int):=by omega
    have cu:wr.cell? ⟨gL,k,none⟩=some (I u):=by have:=(HM.out.ow 0).cellAt k (by omega);rw[this];simp[ivs,bG,HU.out]
    obtain⟨nb,af⟩: ∃nb,nb=aS aA n u:=⟨_,rfl⟩
    have aj:=xQ af;have au:Hid (∀w',Ext w w'→U 217 #[aH aA aB p n cap,u] w' (bA (bG nb) w')):=by rw[af];exact HC u bl
    have bj:nb.length≤n:=by rw[af];exact aRz (aSt _ _) (by simp)
    clear af;have a5:(bG nb).length=nb.length:=by simp[bG]
    go_wp2;refine rL (gl [gEq (.agg #[aA,aB,.slice p n cap]),gEq (.slice (some ⟨gL,0,none⟩) l lc),gEq (k:Int),gEq (.pointer (some ⟨gL,k,none⟩)),gEq (u:Int),(fun v w'=> ∃q c,v= .slice q nb c∧w'.ownsRow wr TI 1 (.slice q nb c) nb.length (ivs (bG nb))),gEq (nb.length:Int),gEq (I 0)]) 8 8 [(0,some 37),(1,some 38),(2,some 39),(3,some 40),(4,some 41),(5,some 42),(6,some 43),(7,some 44)] ?steps ?fin (hG:=(lH (bC (bH _) (bC (bH _) (bC (bH _) (bC (bH _) (bC (bH _) (bC (fun v w w' ⟨q,c,he,ho⟩ hx=>⟨q,c,he,aZ ho hx⟩) (bC (bH _) (bC (bH _) (oG)))))))))))
    case steps=>
     refine sC [] rfl (fun wi hx=> ?_) ?_
     ·intro K hK;have hX:Ext wr wi:=xE;obtain⟨bg,br,bs⟩:=((HM.out.bk 2).ext hX).tri;go_simp;exact hK _ _ ⟨.agg #[aA,aB,.slice p n cap],rfl,rfl,Ext.refl _⟩
     refine sS0 [] (sS0 [] (sS2 [(1,some 38),(2,some 39)] ?_));refine sC [(3,some 40)] rfl (fun wi hx=> ?_) ?_
     ·intro v3 h3 K hK;obtain rfl:=h3;have hX:Ext wr wi:=xE;have bg:wi.cell? ⟨gL,k,none⟩=some (I u):=(hX.cells.1 _ _ ak).trans cu;go_simp;exact hK _ _ ⟨I u,rfl,rfl,Ext.refl _⟩
     refine sC [(0,some 37),(4,some 41)] rfl (fun wi hx=> ?_) ?_
     ·intro v0 h0 v4 h4 K hK;subst h0 h4;go_wp2_with fail;refine(au _ (HM.out.ext.trans hx.of_drew)).mono ?_;rintro e w5 ⟨q5,c5,rfl,o5,bo⟩;rw[a5]at o5⊢;go_simp;exact hK _ _ ⟨.slice q5 nb c5,rfl,⟨q5,c5,rfl,bJ o5 (by have:=hx.sz;simpa using this)⟩,bo⟩
     refine sC [(5,some 42)] rfl (fun wi hx=> ?_) ?_
     ·intro v5 h5 K hK;obtain⟨q5,c5,rfl,ap⟩:=h5;go_simp;exact hK _ _ ⟨I nb.length,rfl,rfl,Ext.refl _⟩
     exact sS0 [] StepsL.nil
    case fin=>
     intro wi hx v0 h0 v1 h1 v2 h2 v3 h3 v4 h4 v5 h5 v6 h6 v7 h7;subst h0 h1 h2 h3 h4;obtain⟨q5,c5,rfl,ap⟩:=h5;subst h6 h7;have M5:=xQ (show Mem w wi [aI w TI 1 (q5) (nb.length) (c5) (ivs (bG nb)),aI w TI 1 (some ⟨gL,0,none⟩) (l) (lc) (ivs (bG Q)),aI w TI 1 (some ⟨w.heap.size+1,0,none⟩) (n) (n) (ivs (D)),aJ w w TH3 #[aA,aB,.slice p n cap]]from HM.out.ownNew hx.of_drew ap (aRp _));clear ap hx cu HM au i3 i4 az ak;refine wpAny_done (by kernel_rfl) ?_ _;try go_frame
     go_wp2;go_loopw [9,44] (fun v i wr=> ∃(j:Nat) (q:OA) (l2 lc:Nat) (D2:List Int) (Q2:List Nat),j≤nb.length∧i=I j∧v= .slice q l2 lc∧l2=Q2.length∧(D2,Q2)=bQ (D.getD u 0+1) (D,Q) ((nb.take j).filter (fun(v:Nat)=>decide ((v:Int)≠a)))∧(∀x∈D2,-1≤x∧x≤(k:Int)+1)∧Mem w wr [aI w TI 1 (q5) (nb.length) (c5) (ivs (bG nb)),aI w TI 1 (q) (l2) (lc) (ivs (bG Q2)),aI w TI 1 (some ⟨w.heap.size+1,0,none⟩) (n) (n) (ivs (D2)),aJ w w TH3 #[aA,aB,.slice p n cap]]) (fun _ i _=>nb.length-(intOf i).toNat)
     case atStart=>exact⟨0,some ⟨gL,0,none⟩,l,lc,D,Q,aRv _,rfl,rfl,t.out,by simp[bQ],fun x hx=>by have:=ar x hx;omega,M5.out⟩
     case round=>
      clear M5;obtain⟨j,q,l2,lc,D2,Q2,hj,rfl,rfl,ai,am,y,hM⟩:=hrel;have a6:u∈Q:=aRs HU.out;have b:Mid (qU aA n a) [src] n k u ((nb.take j).filter (fun(v:Nat)=>decide ((v:Int)≠a))) (D,Q) (D2,Q2):=by
       rw[am]
       have:=Mid.many a6 ((nb.take j).filter (fun(v:Nat)=>decide ((v:Int)≠a))) [] (D,Q) (HI.out.mid HU.out) (fun v hv=>by
        have h1:=aSi.1 hv;have h2:v∈aS aA n u:=by rw[←aj.out];exact aTi h1.1
        exact⟨aSi.2 ⟨h2,h1.2⟩,(bU.1 h2).1⟩)
       simpa using this
      have ax:D2.length=n:=b.len;have bv:Q2.length≤n:=pB b.nodup b.bd;have aq:D2.getD u 0=D.getD u 0:=b.same u a6;obtain⟨r,hr⟩:=b.pre;dsimp only at hr;have bh:k<Q2.length:=by rw[hr,aRx];have:=t.out;omega
      have a0:Q2[k]? =some u:=by have:=t.out;rw[hr,aS8 (by omega)];exact HU.out
      have f:=dL (D:=D2) (v:=u) (by omega);have a3: -1≤D2.getD u 0:=(y _ f.2).1;have a4:D2.getD u 0≤(k:Int):=by rw[aq];exact(ar _ (dL (D:=D) (v:=u) (by have:=HI.out.len;dsimp only at this;omega)).2).2
      have HM:=xQ hM;have ad:=xQ am;have m:=xQ y;have o:=xQ ai;have be:=xQ a0;have bb:=xQ f.1;have bf:=xQ aq;have bq:l2≤n:=by omega
      have bp:k<l2:=by omega
      have ay:=xQ ax;clear hM am y ai a0 f aq hr b ax bh;by_cases hlt3:j<nb.length
      ·obtain⟨v,hv⟩: ∃v,nb[j]? =some v:=⟨_,aRq hlt3⟩
       have bm:v<n:=(bU.1 (by rw[←aj.out];exact aRs hv:v∈aS aA n u)).1;have HV:=xQ hv;clear hv;obtain⟨gN,rfl,bt,bu⟩:=HM.out.so 0;obtain⟨gL,rfl,az,ak⟩:=HM.out.so 1;obtain⟨dv,al⟩: ∃d,d=D2.getD v 0:=⟨_,rfl⟩
       obtain⟨du,f⟩: ∃d,d=D2.getD u 0:=⟨_,rfl⟩
       have z:=dL (D:=D2) (v:=v) (by rw[ay.out];exact bm);rw[←al]at z;have bc:=xQ z.1;have ah:=xQ al;have ag:=xQ f;rw[←f]at a3 a4;clear al f z;have m1:(0:Int)≤(j:Int):=by omega
       have m2:(j:Int)<(nb.length:Int):=by omega
       have m3:(0:Int)≤(v:Int):=by omega
       have m4:(v:Int)<(n:Int):=by omega
       have m5:(0:Int)≤(u:Int):=by omega
       have m6:(u:Int)<(n:Int):=by omega
       have m7:(0:Int)≤(k:Int):=by omega
       have m8:(k:Int)<(l2:Int):=by omega
       have cn:wr.cell? ⟨gN,j,none⟩=some (I v):=by have:=(HM.out.ow 0).cellAt j (by omega);rw[this];simp[ivs,bG,HV.out]
       have cf:wr.cell? ⟨w.heap.size+1,v,none⟩=some (I dv):=by have:=(HM.out.ow 2).cellAt v (by omega);rw[this];simp only[ivs,aS9,bc.out,aSm]
       by_cases hvb:(v:Int)=a
       ·have t1:((v:Int)!=a)=false:=by simp[hvb]
        have s:=xQ (aIl HV hvb);clear hvb;go_wp2;go_roundw
        case rel=>exact⟨j+1,some ⟨gL,0,none⟩,l2,lc,D2,Q2,by omega,by go_num,rfl,o.out,by rw[s.out];exact ad.out,m.out,HM.out⟩
        case measure=>simp[intOf];omega
       have t1:((v:Int)!=a)=true:=by simp[hvb]
       have s:=xQ (aEz HV hvb);clear hvb;by_cases hd0:dv<0
       ·have t2:decide (dv<0)=true:=by simp[hd0]
        have g:Hid ((D2.set v (du+1),Q2++ [v])=bQ (D.getD u 0+1) (D,Q) ((nb.take (j+1)).filter (fun(v:Nat)=>decide ((v:Int)≠a)))):=by show _=_;rw[s.out,eD,←ad.out,lK (by rw[←ah.out];exact hd0),ag.out,bf.out]
        have cl:wr.cell? ⟨gL,k,none⟩=some (I u):=by have:=(HM.out.ow 1).cellAt k (by omega);rw[this];simp[ivs,bG,be.out]
        have cd:wr.cell? ⟨w.heap.size+1,u,none⟩=some (I du):=by have:=(HM.out.ow 2).cellAt u (by omega);rw[this,ag.out];simp only[ivs,aS9,bb.out,aSm]
        have ff:wr.frozen? ⟨w.heap.size+1,v,none⟩=false:=(HM.out.ow 2).frozenAt v;have bz:IntKind.i64.wrap (du+1)=du+1:=aRr _ (by omega);have M6:=xQ (show Mem w (wr.setCell ⟨w.heap.size+1,v,none⟩ (I (du+1))) [aI w TI 1 (some ⟨gN,0,none⟩) (nb.length) (c5) (ivs (bG nb)),aI w TI 1 (some ⟨gL,0,none⟩) (l2) (lc) (ivs (bG Q2)),aI w TI 1 (some ⟨w.heap.size+1,0,none⟩) (n) (n) (ivs (D2.set v (du+1))),aJ w w TH3 #[aA,aB,.slice p n cap]]from by rw[←eF];exact HM.out.ostore (i:=2) rfl v (I (du+1)));have a2:Hid (∀x∈D2.set v (du+1),-1≤x∧x≤(k:Int)+1):=by
         show∀_,_;intro x hx;rcases aT1 hx with h|h
         ·exact m x h
         omega
        clear hd0;go_upto_region 17 with fail;clear cl cd ff cn cf HM;generalize a8:World.setCell _ _ _=w4;rw[a8]at M6;clear a8;go_wp2_with (at_builtin;go_loud (refine cG fQ rfl _ _ rfl (M6.out.adv ((Ext.refl _).alloc (.cells #[v] TI))) 1 rfl rfl (ivs [(v:Int)]) rfl (eJ _ _ _ 1 1 _ (by first|rfl|simp) (by first|rfl|simp) (by simp[maxLen])) (fun u hu=>by obtain rfl:=aSc.1 hu;rfl) (by omega) ?_;intro q7 c7 w6 M7));have M8:=xQ (show Mem w w6 [aI w TI 1 (some ⟨gN,0,none⟩) (nb.length) (c5) (ivs (bG nb)),aI w TI 1 (q7) (l2+1) (c7) (ivs (bG (Q2++ [v]))),aI w TI 1 (some ⟨w.heap.size+1,0,none⟩) (n) (n) (ivs (D2.set v (du+1))),aJ w w TH3 #[aA,aB,.slice p n cap]]from by rw[show ivs (bG (Q2++ [v]))=ivs (bG Q2)++ivs [(v:Int)] by simp[ivs,bG]];exact M7);clear M7 M6;go_wp2;go_roundw
        case rel=>exact⟨j+1,q7,l2+1,c7,D2.set v (du+1),Q2++ [v],by omega,by go_num,rfl,by simp[o.out],g.out,a2.out,M8.out⟩
        case measure=>simp[intOf];omega
       have t2:decide (dv<0)=false:=by simp;omega
       have g:Hid ((D2,Q2)=bQ (D.getD u 0+1) (D,Q) ((nb.take (j+1)).filter (fun(v:Nat)=>decide ((v:Int)≠a)))):=by show _=_;rw[s.out,eD,←ad.out,nG (by rw[←ah.out];exact hd0)]
       clear hd0;go_wp2;go_roundw
       case rel=>exact⟨j+1,some ⟨gL,0,none⟩,l2,lc,D2,Q2,by omega,by go_num,rfl,o.out,g.out,m.out,HM.out⟩
       case measure=>simp[intOf];omega
      obtain rfl:nb.length=j:=by omega
      have an:Hid (Inv (qU aA n a) [src] n (k+1) (D2,Q2)):=by show Inv _ _ _ _ _;have h1:=HI.out.step HU (fun v hv=>aIx hv);have h2:=ad.out;rw[aTf,aj.out]at h2;rw[h2];exact h1
      have M9:=xQ (show Mem w wr [aI w TI 1 (q) (l2) (lc) (ivs (bG Q2)),aI w TI 1 (some ⟨w.heap.size+1,0,none⟩) (n) (n) (ivs (D2)),aJ w w TH3 #[aA,aB,.slice p n cap]]from HM.out.pick [1,2,3] (by decide) rfl);clear HM;go_wp2;go_roundw
      case rel=>exact⟨k+1,q,l2,lc,D2,Q2,by omega,by go_num,rfl,o.out,fun x hx=>by have:=m x hx;omega,an.out,M9.out⟩
      case measure=>simp[intOf];omega
   have aa:=xQ (HI.out.dist (by have:=t.out;dsimp only;omega));go_wp2;go_ret;exact⟨D,aa.out,some ⟨w.heap.size+1,0,none⟩,n,by rw[aa.out.len];rfl,by rw[aa.out.len];exact HM.out.ow 1,HM.out.ext⟩
theorem aQo (aA aB:Int)(p:OA)(n cap src:Nat)(a:Int)(xs:List Int)(w:World)(hS:Sl w p n cap 1 (ivs xs))(b:aO aA aB xs=true)(hs:src<n):
  U 216 #[aH aA aB p n cap,src,a] w fun e w'=> ∃D,tG (qU aA n a) [src] n D∧bA D w e w':=by
 have hl:=hS.ilen;obtain⟨g1,g2,g3,g4,g5,g6,g7,g8,g9⟩:=bN b
 exact aN6 aA aB p n cap src a w (by omega) (by omega) hs (fun k hk w' hx=>by
  have:=aHk aA aB k p n cap xs w' (hS.ext hx) b (by omega) (by omega)
  rwa[lQ]at this)
theorem aN3 (aA aB:Int)(p:OA)(n cap u:Nat)(w:World)(hg:Hid ((aA,n)∈jI))(bg:4≤n)(hn:n≤12)(hu:u<n)
  (HV:xB 72 #[aH aA aB p n cap] w true)
  (HH:Hid (∀(k:Nat),k<n→ ∀w',U 159 #[aH aA aB p n cap,k] w' (O (.bool true) w')))
  (HF:xC 216 #[aH aA aB p n cap,(),(-1:Int)] w fun w' e w''=> ∃D,(D.length=n∧ ∀v,v<n→D.getD v 0=aX aA v 0)∧bA D w' e w'')
  (HC:Hid (∀(k:Nat),k<n→ ∀w',Ext w w'→U 217 #[aH aA aB p n cap,k] w' (bA (bG (aS aA n k)) w'))):
  U 190 #[aH aA aB p n cap,u,(),(-1:Int)] w (bA (bG (dH aA n 12 u)) w):=by
 have a1:(0:Int)≤(u:Int):=by omega
 have a2:(u:Int)<(n:Int):=by omega
 have a3:((-1:Int)==(u:Int))=false:=by first|(simp;done)|(simp;omega)
 have a4:decide ((n:Int)≤ -1)=false:=by first|(simp;done)|(simp;omega)
 have az:Hid (∀w',U 159 #[aH aA aB p n cap,()] w' (O (.bool true) w')):=HH.out 0 (by omega);have z:=xQ (bV hg.out hu);go_enter func190,ntmps190;go_wp2_with fail;have M0:=((Mem.start w).c0 TH3 #[aA,aB,.slice p n cap])
 refine Z (HV _ M0.ext) fun w1 au=>?_
 have M1:=(M0.adv au)
 obtain⟨b0,b1,b2⟩:=(M1.bk 0).cells3;clear au M0;go_wp2_with fail;refine Z (HH u hu _) fun w2 av=>?_
 have M2:=(M1.adv av)
 clear b0 b1 b2 av M1;obtain⟨b0,b1,b2⟩:=(M2.bk 0).cells3;go_wp2_with fail;refine Z (az _) fun w3 aw=>?_
 have M3:=(M2.adv aw)
 clear b0 b1 b2 aw M2;obtain⟨b0,b1,b2⟩:=(M3.bk 0).cells3;go_wp2_with fail;refine(HF _ M3.ext).mono ?_;rintro e w4 ⟨D,⟨af,al⟩,q2,c2,rfl,o4,ax⟩;rw[af]at o4⊢;have HD:=xQ af;have ab:=xQ al;have M4:=(M3.call ax o4)
 clear b0 b1 b2 ax o4 M3 af al;obtain⟨gF,rfl,a6,a7⟩:=M4.so 0;have cU:w4.cell? ⟨gF,u,none⟩=some (I (aX aA u 0)):=by have h1:=(dL (D:=D) (v:=u) (by rw[HD.out];exact hu)).1;rw[ab u hu]at h1;have:=(M4.ow 0).cellAt u (by omega);rw[this];simp only[ivs,aS9,h1,aSm]
 have a5:decide (aX aA (u:Int) 0<0)=false:=by have:=z.out.1;first|(simp;done)|(simp;omega)
 have M5:=(M4.lit TI 1 1 w4 #[u] rfl rfl (by simp[maxLen]))
 go_wp2;clear cU M4 a6 a7;go_loopw [10,11] (fun o v wr=> ∃(x f:Nat) (pre:List Nat) (q:OA) (l lc:Nat),o= .slice q l lc∧v=I x∧x<n∧aX aA x 0≤f∧pre++dH aA n f x=dH aA n 12 u∧l=pre.length+1∧Mem w wr [aI w TI 1 (q) (l) (lc) (ivs (bG (pre++ [x]))),aI w TI 1 (some ⟨gF,0,none⟩) (n) (c2) (ivs (D)),aJ w w TH3 #[aA,aB,.slice p n cap]]) (fun _ v _=>(aX aA (intOf v) 0).toNat)
 case atStart=>exact⟨u,12,[],some ⟨w4,0,none⟩,1,1,rfl,rfl,hu,by have:=z.out.2.1;omega,rfl,rfl,M5⟩
 case round=>
  clear M5;obtain⟨x,f,pre,q,l,lc,rfl,rfl,hx,hf,r,hl,hM⟩:=hrel;have HM:=hM;have HW:=xQ r;have ad:=xQ (bV hg.out hx);have aj:=xQ hf;have be:l≤12:=by have h1:=congrArg List.length r;have h2:=nE hg.out f x hx hf;have h3:=nE hg.out 12 u hu (by have:=z.out.2.1;omega);have h4:=z.out.2.1;have h5:=ad.out.1;rw[aRx]at h1;omega
  have ak:=xQ hl;clear hM r hf hl;by_cases h0:x=0
  ·have t0:((x:Int)!=0)=false:=by simp[h0]
   have aa:Hid (pre++ [x]=dH aA n 12 u):=by show _=_;rw[←HW.out];subst h0;cases f<;>simp[dH]
   clear h0;go_wp2;go_ret;exact dG (by rw[←aa.out];have:=ak.out;simp[bG];omega) (by rw[←aa.out];exact HM.ow 0) HM.ext
  have t0:((x:Int)!=0)=true:=by simp[h0]
  obtain⟨J,a8,t,ag⟩:=aI5 hg.out hx h0;obtain⟨e1,e2,e3⟩:=ad.out.2.2.2.1 h0;have bd:=xQ h0;obtain⟨y,hy⟩: ∃y,y=lT aA n x:=⟨_,rfl⟩
  rw[←hy]at t e1 e2 e3;have HY:=xQ hy;clear hy h0;obtain⟨nb,h⟩: ∃nb,nb=aS aA n x:=⟨_,rfl⟩
  rw[←h]at a8 t ag;have ai:Hid (∀w',Ext w w'→U 217 #[aH aA aB p n cap,x] w' (bA (bG nb) w')):=by rw[h];exact HC x hx
  have a0:=xQ h;have bb:nb.length≤12:=by rw[h];exact aRz (aSt _ _) (by simp;omega)
  have am:=xQ t;have an:=xQ ag;have s:=xQ e3;clear h t ag e2 e3;have ap:(bG nb).length=nb.length:=by simp[bG]
  obtain⟨b0,b1,b2⟩:=(HM.bk 2).cells3;go_wp2_with fail;clear b0 b1 b2;refine(ai _ HM.ext).mono ?_;rintro e w5 ⟨q5,c5,rfl,o5,ay⟩;rw[ap]at o5⊢;have M6:=(HM.call ay o5)
  clear o5 ay ai HM;obtain⟨gN,rfl,a9,ba⟩:=M6.so 0;clear a9 ba;go_wp2;go_loopw [11,69] (fun cc i wz=> ∃j:Nat,j≤J∧cc=I x∧i=I j∧Mem w wz [aI w TI 1 (some ⟨gN,0,none⟩) (nb.length) (c5) (ivs (bG nb)),aI w TI 1 (q) (l) (lc) (ivs (bG (pre++ [x]))),aI w TI 1 (some ⟨gF,0,none⟩) (n) (c2) (ivs (D)),aJ w w TH3 #[aA,aB,.slice p n cap]]) (fun _ i _=>J-(intOf i).toNat)
  case atStart=>exact⟨0,aRv _,rfl,rfl,M6⟩
  case round=>
   clear M6;obtain⟨j,hj,rfl,rfl,hM⟩:=hrel;have HM:=hM;clear hM;obtain⟨v,hv⟩: ∃v,nb[j]? =some v:=⟨_,aRq (by omega)⟩
   have m:v<n:=(bU.1 (by rw[←a0.out];exact aRs hv:v∈aS aA n x)).1;have ae:=xQ hv;have c:=(dL (D:=D) (v:=v) (by rw[HD.out];exact m)).1;have g:=(dL (D:=D) (v:=x) (by rw[HD.out];exact hx)).1;rw[ab v m]at c;rw[ab x hx]at g;obtain⟨dv,a⟩: ∃d,d=aX aA v 0:=⟨_,rfl⟩
   obtain⟨dx,b⟩: ∃d,d=aX aA x 0:=⟨_,rfl⟩
   have gv:=bV hg.out m;have gx:=ad.out;rw[←a]at c gv;rw[←b]at g gx;have m1:(0:Int)≤(j:Int):=by omega
   have m2:(j:Int)<(nb.length:Int):=by omega
   have m3:(0:Int)≤(v:Int):=by omega
   have m4:(v:Int)<(n:Int):=by omega
   have m5:(0:Int)≤(x:Int):=by omega
   have m6:(x:Int)<(n:Int):=by omega
   have w7:IntKind.i64.wrap (dx-1)=dx-1:=aRr _ (by omega);have cn:wr.cell? ⟨gN,j,none⟩=some (I v):=by have:=(HM.ow 0).cellAt j (by omega);rw[this];simp[ivs,bG,ae.out]
   have cf:wr.cell? ⟨gF,v,none⟩=some (I dv):=by have:=(HM.ow 2).cellAt v (by omega);rw[this];simp only[ivs,aS9,c,aSm]
   have cx:wr.cell? ⟨gF,x,none⟩=some (I dx):=by have:=(HM.ow 2).cellAt x (by omega);rw[this];simp only[ivs,aS9,g,aSm]
   by_cases hjJ:j<J
   ·have aq:(dv==dx-1)=false:=by
     have:=an.out j v hjJ ae.out;rw[←a,←b]at this;exact beq_eq_false_iff_ne.2 this
    clear c g a b gv gx;go_wp2;go_quiet (fail);go_wp2;go_roundw
    case rel=>exact⟨j+1,by omega,rfl,by go_num,HM.adv xE⟩
    case measure=>simp[intOf];omega
   obtain rfl:j=J:=by omega
   have bc:v=y:=by have h1:=ae.out;rw[am.out]at h1;injection h1 with h1;exact h1.symm
   subst bc;have aq:(dv==dx-1)=true:=by have:=s.out;rw[←a,←b]at this;simp[this]
   have ao:=xQ (show 1≤aX aA (x:Int) 0 by have h1:=(bV hg.out m).1;have h2:=s.out;omega);clear c g a gv;go_wp2;go_quiet (fail);generalize ar:World.drewN _ _=wq;have M7:=(show Mem w wq [aI w TI 1 (q) (l) (lc) (ivs (bG (pre++ [x]))),aI w TI 1 (some ⟨gF,0,none⟩) (n) (c2) (ivs (D)),aJ w w TH3 #[aA,aB,.slice p n cap]]from by rw[←ar];exact(HM.adv xE).pick [1,2,3] (by decide) rfl)
   clear ar cn cf cx HM;go_wp2_with (at_builtin;go_loud (refine cG fQ rfl _ _ rfl (M7.adv ((Ext.refl _).alloc (.cells #[v] TI))) 0 rfl rfl (ivs [(v:Int)]) rfl (eJ _ _ _ 1 1 _ (by first|rfl|simp) (by first|rfl|simp) (by simp[maxLen])) (fun u hu=>by obtain rfl:=aSc.1 hu;rfl) (by omega) ?_;intro q7 c7 w6 M8));have M9:=(show Mem w w6 [aI w TI 1 (q7) (l+1) (c7) (ivs (bG (pre++ [x]++ [v]))),aI w TI 1 (some ⟨gF,0,none⟩) (n) (c2) (ivs (D)),aJ w w TH3 #[aA,aB,.slice p n cap]]from by rw[show ivs (bG (pre++ [x]++ [v]))=ivs (bG (pre++ [x]))++ivs [(v:Int)] by simp[ivs,bG]];exact M8)
   clear M8 M7;have bf:0<f:=by have:=aj.out;have:=ao.out;omega
   obtain⟨f',rfl⟩: ∃f',f=f'+1:=⟨f-1,by omega⟩
   have ah:Hid ((pre++ [x])++dH aA n f' v=dH aA n 12 u):=by
    show _=_;rw[←HW.out]
    conv=>rhs;rw[dH,if_neg bd.out,←HY.out]
    simp
   go_wp2;go_roundw
   case rel=>exact⟨v,f',pre++ [x],q7,l+1,c7,rfl,by go_num,m,by have:=s.out;have:=aj.out;omega,ah.out,by have:=ak.out;simp;omega,M9⟩
   case measure=>simp[intOf];have:=s.out;have:=ao.out;omega
theorem aQn (aA aB:Int)(p:OA)(n cap u:Nat)(xs:List Int)(w:World)(hS:Sl w p n cap 1 (ivs xs))(a:aO aA aB xs=true)(hu:u<n):
  U 190 #[aH aA aB p n cap,u,(),(-1:Int)] w (bA (bG (dH aA n 12 u)) w):=by
 have hl:=hS.ilen;obtain⟨g1,g2,g3,g4,g5,g6,g7,g8,g9⟩:=bN a;have hg:=rK (n:=n) g1 g2 g3 g4 (by omega);refine aN3 aA aB p n cap u w hg (by omega) (by omega) hu (fun w' hx=>by have:=fY aA aB p n cap xs w' (hS.ext hx);rwa[a]at this) (fun k hk w'=> ?_) (fun w' hx=> ?_) (fun k hk w' hx=> ?_)
 ·have:=jH aA aB k p n cap w' (by omega);rwa[decide_eq_true (⟨by omega,by omega⟩:0≤(k:Int)∧(k:Int)<n)]at this
 ·refine(aQo aA aB p n cap 0 (-1) xs w' (hS.ext hx) a (by omega)).mono ?_;rintro e w2 ⟨D,hD,hr⟩;exact⟨D,⟨hD.len,fun v hv=>aAs hg (aFg aA n) hD hv⟩,hr⟩
 have:=aHk aA aB k p n cap xs w' (hS.ext hx) a (by omega) (by omega);rwa[lQ]at this
theorem aNl (aA aB c d A:Int)(p:OA)(n cap:Nat)(w:World)(HV:xB 72 #[aH aA aB p n cap] w true)(HF:Hid (∀w',U 159 #[aH aA aB p n cap,c] w' (O (.bool true) w')))(HT:Hid (∀w',U 159 #[aH aA aB p n cap,d] w' (O (.bool true) w')))
  (HA:Hid (∀w',U 160 #[aA,c,d] w' (O (I A) w'))):
  U 218 #[aH aA aB p n cap,c,d] w (O (I A) w):=by
 go_enter func218,ntmps218;go_wp2_with fail;refine Z (HV _ ((Mem.start w).c0 TH3 #[aA,aB,.slice p n cap]).ext) fun w1 a=>?_
 have M1:=(((Mem.start w).c0 TH3 #[aA,aB,.slice p n cap]).adv a)
 clear a;obtain⟨h0,h1,h2⟩:=(M1.bk 0).tri;go_wp2_with fail;clear h0 h1 h2;refine Z (HF _) fun w2 b=>?_
 have M2:=(M1.adv b)
 clear M1 b;obtain⟨h0,h1,h2⟩:=(M2.bk 0).tri;go_wp2_with fail;clear h0 h1 h2;refine Z (HT _) fun w3 f=>?_
 have M3:=(M2.adv f)
 clear M2 f;obtain⟨h0,h1,h2⟩:=(M3.bk 0).tri;go_wp2_with fail;clear h0 h1 h2;refine Z (HA _) fun w4 g=>?_
 have M4:=(M3.adv g)
 clear M3 g;go_wp2;go_ret;exact⟨rfl,M4.ext⟩
theorem aKh (aA aB f t:Int)(p:OA)(n cap:Nat)(w:World)(HV:xB 72 #[aH aA aB p n cap] w true)(HF:Hid (∀w',U 159 #[aH aA aB p n cap,f] w' (O (.bool false) w'))):
  U 123 #[aH aA aB p n cap,eI f t] w (O (.bool false) w):=by
 go_enter func123,ntmps123;go_wp2_with fail;refine Z (HV _ (((Mem.start w).c0 TH3 #[aA,aB,.slice p n cap]).c1 TSL #[f,t]).ext) fun w1 a=>?_
 have M1:=((((Mem.start w).c0 TH3 #[aA,aB,.slice p n cap]).c1 TSL #[f,t]).adv a)
 clear a;obtain⟨h0,h1,h2⟩:=(M1.bk 1).tri;have s0:=(M1.bk 0).cl 0;have s1:=(M1.bk 0).cl 1;go_wp2_with fail;clear h0 h1 h2 s0 s1;refine Z (HF _) fun w2 b=>?_
 have M2:=(M1.adv b)
 clear M1 b;obtain⟨h0,h1,h2⟩:=(M2.bk 1).tri;have s0:=(M2.bk 0).cl 0;have s1:=(M2.bk 0).cl 1;go_wp2;go_ret;exact⟨rfl,M2.ext⟩
theorem aKg (aA aB f t:Int)(p:OA)(n cap:Nat)(w:World)(HV:xB 72 #[aH aA aB p n cap] w true)(HF:Hid (∀w',U 159 #[aH aA aB p n cap,f] w' (O (.bool true) w')))(HT:Hid (∀w',U 159 #[aH aA aB p n cap,t] w' (O (.bool false) w'))):
  U 123 #[aH aA aB p n cap,eI f t] w (O (.bool false) w):=by
 go_enter func123,ntmps123;go_wp2_with fail;refine Z (HV _ (((Mem.start w).c0 TH3 #[aA,aB,.slice p n cap]).c1 TSL #[f,t]).ext) fun w1 a=>?_
 have M1:=((((Mem.start w).c0 TH3 #[aA,aB,.slice p n cap]).c1 TSL #[f,t]).adv a)
 clear a;obtain⟨h0,h1,h2⟩:=(M1.bk 1).tri;have s0:=(M1.bk 0).cl 0;have s1:=(M1.bk 0).cl 1;go_wp2_with fail;clear h0 h1 h2 s0 s1;refine Z (HF _) fun w2 b=>?_
 have M2:=(M1.adv b)
 clear M1 b;obtain⟨h0,h1,h2⟩:=(M2.bk 1).tri;have s0:=(M2.bk 0).cl 0;have s1:=(M2.bk 0).cl 1;go_wp2_with fail;clear h0 h1 h2 s0 s1;refine Z (HT _) fun w3 c=>?_
 have M3:=(M2.adv c)
 clear M2 c;obtain⟨h0,h1,h2⟩:=(M3.bk 1).tri;have s0:=(M3.bk 0).cl 0;have s1:=(M3.bk 0).cl 1;go_wp2;go_ret;exact⟨rfl,M3.ext⟩
theorem aKf (aA aB:Int)(b a n cap i j:Nat)(x y:Int)(w:World)(hi:i<n)(hj:j<n)(hb:b<w.heap.size)(g:Hid (w.cell? ⟨b,a+i,none⟩=some (I x)))(h:Hid (w.cell? ⟨b,a+j,none⟩=some (I y)))(d1:(x !=0)=false)(HV:xB 72 #[aH aA aB (some ⟨b,a,none⟩) n cap] w true)(HF:Hid (∀w',U 159 #[aH aA aB (some ⟨b,a,none⟩) n cap,i] w' (O (.bool true) w')))(HT:Hid (∀w',U 159 #[aH aA aB (some ⟨b,a,none⟩) n cap,j] w' (O (.bool true) w'))):
  U 123 #[aH aA aB (some ⟨b,a,none⟩) n cap,eI (i:Int) (j:Int)] w (O (.bool false) w):=by
 have a1:(0:Int)≤(i:Int):=by omega
 have a3:(i:Int)<(n:Int):=by omega
 go_enter func123,ntmps123;go_wp2_with fail;refine Z (HV _ (((Mem.start w).c0 TH3 #[aA,aB,.slice (some ⟨b,a,none⟩) n cap]).c1 TSL #[i,j]).ext) fun w1 c=>?_
 have M1:=((((Mem.start w).c0 TH3 #[aA,aB,.slice (some ⟨b,a,none⟩) n cap]).c1 TSL #[i,j]).adv c)
 clear c;obtain⟨h0,h1,h2⟩:=(M1.bk 1).tri;have s0:=(M1.bk 0).cl 0;have s1:=(M1.bk 0).cl 1;go_wp2_with fail;clear h0 h1 h2 s0 s1;refine Z (HF _) fun w2 d=>?_
 have M2:=(M1.adv d)
 clear M1 d;obtain⟨h0,h1,h2⟩:=(M2.bk 1).tri;have s0:=(M2.bk 0).cl 0;have s1:=(M2.bk 0).cl 1;go_wp2_with fail;clear h0 h1 h2 s0 s1;refine Z (HT _) fun w3 f=>?_
 have M3:=(M2.adv f)
 clear M2 f;obtain⟨h0,h1,h2⟩:=(M3.bk 1).tri;have s0:=(M3.bk 0).cl 0;have s1:=(M3.bk 0).cl 1;have g1:w3.cell? ⟨b,a+i,none⟩=some (I x):=(M3.ext.cells.1 _ _ hb).trans g.out;go_wp2;go_ret;exact⟨rfl,M3.ext⟩
theorem aKe (aA aB:Int)(b a n cap i j:Nat)(x y:Int)(w:World)(hi:i<n)(hj:j<n)(hb:b<w.heap.size)(g:Hid (w.cell? ⟨b,a+i,none⟩=some (I x)))(h:Hid (w.cell? ⟨b,a+j,none⟩=some (I y)))(d1:(x !=0)=true)(d2:(y==0)=false)(HV:xB 72 #[aH aA aB (some ⟨b,a,none⟩) n cap] w true)(HF:Hid (∀w',U 159 #[aH aA aB (some ⟨b,a,none⟩) n cap,i] w' (O (.bool true) w')))(HT:Hid (∀w',U 159 #[aH aA aB (some ⟨b,a,none⟩) n cap,j] w' (O (.bool true) w'))):
  U 123 #[aH aA aB (some ⟨b,a,none⟩) n cap,eI (i:Int) (j:Int)] w (O (.bool false) w):=by
 have a1:(0:Int)≤(i:Int):=by omega
 have a2:(0:Int)≤(j:Int):=by omega
 have a3:(i:Int)<(n:Int):=by omega
 have a4:(j:Int)<(n:Int):=by omega
 go_enter func123,ntmps123;go_wp2_with fail;refine Z (HV _ (((Mem.start w).c0 TH3 #[aA,aB,.slice (some ⟨b,a,none⟩) n cap]).c1 TSL #[i,j]).ext) fun w1 c=>?_
 have M1:=((((Mem.start w).c0 TH3 #[aA,aB,.slice (some ⟨b,a,none⟩) n cap]).c1 TSL #[i,j]).adv c)
 clear c;obtain⟨h0,h1,h2⟩:=(M1.bk 1).tri;have s0:=(M1.bk 0).cl 0;have s1:=(M1.bk 0).cl 1;go_wp2_with fail;clear h0 h1 h2 s0 s1;refine Z (HF _) fun w2 d=>?_
 have M2:=(M1.adv d)
 clear M1 d;obtain⟨h0,h1,h2⟩:=(M2.bk 1).tri;have s0:=(M2.bk 0).cl 0;have s1:=(M2.bk 0).cl 1;go_wp2_with fail;clear h0 h1 h2 s0 s1;refine Z (HT _) fun w3 f=>?_
 have M3:=(M2.adv f)
 clear M2 f;obtain⟨h0,h1,h2⟩:=(M3.bk 1).tri;have s0:=(M3.bk 0).cl 0;have s1:=(M3.bk 0).cl 1;have g1:w3.cell? ⟨b,a+i,none⟩=some (I x):=(M3.ext.cells.1 _ _ hb).trans g.out;have g2:w3.cell? ⟨b,a+j,none⟩=some (I y):=(M3.ext.cells.1 _ _ hb).trans h.out;go_wp2;go_ret;exact⟨rfl,M3.ext⟩
theorem aN7 (aA aB:Int)(b a n cap i j:Nat)(x y A:Int)(w:World)(hi:i<n)(hj:j<n)(hb:b<w.heap.size)(h:Hid (w.cell? ⟨b,a+i,none⟩=some (I x)))(k:Hid (w.cell? ⟨b,a+j,none⟩=some (I y)))(d1:(x !=0)=true)(d2:(y==0)=true)(HV:xB 72 #[aH aA aB (some ⟨b,a,none⟩) n cap] w true)(HF:Hid (∀w',U 159 #[aH aA aB (some ⟨b,a,none⟩) n cap,i] w' (O (.bool true) w')))(HT:Hid (∀w',U 159 #[aH aA aB (some ⟨b,a,none⟩) n cap,j] w' (O (.bool true) w')))(HA:Hid (∀w',U 160 #[aA,i,j] w' (O (I A) w'))):
  U 123 #[aH aA aB (some ⟨b,a,none⟩) n cap,eI (i:Int) (j:Int)] w (O (.bool (A==1)) w):=by
 have a1:(0:Int)≤(i:Int):=by omega
 have a2:(0:Int)≤(j:Int):=by omega
 have a3:(i:Int)<(n:Int):=by omega
 have a4:(j:Int)<(n:Int):=by omega
 go_enter func123,ntmps123;go_wp2_with fail;refine Z (HV _ (((Mem.start w).c0 TH3 #[aA,aB,.slice (some ⟨b,a,none⟩) n cap]).c1 TSL #[i,j]).ext) fun w1 c=>?_
 have M1:=((((Mem.start w).c0 TH3 #[aA,aB,.slice (some ⟨b,a,none⟩) n cap]).c1 TSL #[i,j]).adv c)
 clear c;obtain⟨h0,h1,h2⟩:=(M1.bk 1).tri;have s0:=(M1.bk 0).cl 0;have s1:=(M1.bk 0).cl 1;go_wp2_with fail;clear h0 h1 h2 s0 s1;refine Z (HF _) fun w2 d=>?_
 have M2:=(M1.adv d)
 clear M1 d;obtain⟨h0,h1,h2⟩:=(M2.bk 1).tri;have s0:=(M2.bk 0).cl 0;have s1:=(M2.bk 0).cl 1;go_wp2_with fail;clear h0 h1 h2 s0 s1;refine Z (HT _) fun w3 f=>?_
 have M3:=(M2.adv f)
 clear M2 f;obtain⟨h0,h1,h2⟩:=(M3.bk 1).tri;have s0:=(M3.bk 0).cl 0;have s1:=(M3.bk 0).cl 1;have g1:w3.cell? ⟨b,a+i,none⟩=some (I x):=(M3.ext.cells.1 _ _ hb).trans h.out;have g2:w3.cell? ⟨b,a+j,none⟩=some (I y):=(M3.ext.cells.1 _ _ hb).trans k.out;go_wp2_with fail;clear h0 h1 h2 s0 s1 g1 g2;refine Z (HA _) fun w4 g=>?_
 have M4:=(M3.adv g)
 clear M3 g;go_wp2;go_ret;exact⟨rfl,M4.ext⟩
theorem aQw (aA aB:Int)(c d:Nat)(p:OA)(n cap:Nat)(xs:List Int)(w:World)(hS:Sl w p n cap 1 (ivs xs))(a:aO aA aB xs=true)(hc:c<n)(hd:d<n):
  U 218 #[aH aA aB p n cap,c,d] w (O (I (aX aA c d)) w):=by
 have hl:=hS.ilen;obtain⟨g1,g2,g3,g4,g5,g6,g7,g8,g9⟩:=bN a;have HH: ∀(k:Nat),k<n→ ∀w',U 159 #[aH aA aB p n cap,k] w' (O (.bool true) w'):=fun k hk w'=>by have:=jH aA aB k p n cap w' (by omega);rwa[decide_eq_true (⟨by omega,by omega⟩:0≤(k:Int)∧(k:Int)<n)]at this
 exact aNl aA aB c d _ p n cap w (fun w' hx=>by have:=fY aA aB p n cap xs w' (hS.ext hx);rwa[a]at this) (HH c hc) (HH d hd) (fun w'=>nA aA c d w' (by omega) (by omega) (by omega) (by omega) (by omega) (by omega))
theorem aQp (aA aB f t:Int)(p:OA)(n cap:Nat)(xs:List Int)(w:World)(hS:Sl w p n cap 1 (ivs xs))(d:aO aA aB xs=true):
  U 123 #[aH aA aB p n cap,eI f t] w (O (.bool (bF aA aB xs f t)) w):=by
 have hl:=hS.ilen;obtain⟨g1,g2,g3,g4,g5,g6,g7,g8,g9⟩:=bN d;have HV: ∀w',Ext w w'→U 72 #[aH aA aB p n cap] w' (O (.bool true) w'):=fun w' hx=>by have:=fY aA aB p n cap xs w' (hS.ext hx);rwa[d]at this
 have HH: ∀(c:Int) w',U 159 #[aH aA aB p n cap,c] w' (O (.bool (decide (0≤c∧c<n))) w'):=fun c w'=>jH aA aB c p n cap w' (by omega)
 by_cases hf:0≤f∧f<n
 ·have HF:=HH f;rw[decide_eq_true hf]at HF;by_cases ht:0≤t∧t<n
  ·have HT:=HH t;rw[decide_eq_true ht]at HT;obtain⟨i,rfl⟩: ∃i:Nat,f=(i:Int):=⟨f.toNat,by omega⟩
   obtain⟨j,rfl⟩: ∃j:Nat,t=(j:Int):=⟨t.toNat,by omega⟩
   have hi:i<n:=by omega
   have hj:j<n:=by omega
   obtain⟨b,a,rfl,hb,l⟩:=hS.rd (by omega);have m:xs[i]? =some (xs.getD i 0):=by rw[aRw,aRq (by omega)];rfl
   have o:xs[j]? =some (xs.getD j 0):=by rw[aRw,aRq (by omega)];rfl
   have g:w.cell? ⟨b,a+i,none⟩=some (I (xs.getD i 0)):=by rw[l i (by omega)];simp only[ivs,aS9,m,aSm]
   have k:w.cell? ⟨b,a+j,none⟩=some (I (xs.getD j 0)):=by rw[l j (by omega)];simp only[ivs,aS9,o,aSm]
   have r:0≤xs.getD i 0:=pI d i;have q:dM aA aB xs (i:Int) (j:Int)=aX aA i j:=by unfold dM;rw[if_pos ⟨d,⟨by omega,by omega⟩,by omega,by omega⟩]
   unfold bF;rw[q,aTr,aTr];clear m o;generalize xs.getD i 0=x at*;generalize xs.getD j 0=y at*;by_cases hx0:x=0
   ·subst hx0;rw[show(decide (aX aA (i:Int) j=1)&&decide (0<(0:Int))&&decide (y=0))=false by simp];exact aKf aA aB b a n cap i j _ _ w hi hj hb g k (by simp) HV HF HT
   have d1:(x !=0)=true:=by simp[hx0]
   by_cases hy0:y=0
   ·subst hy0;rw[show(decide (aX aA (i:Int) j=1)&&decide (0<x)&&decide ((0:Int)=0))=(aX aA (i:Int) j==1) by rw[decide_eq_true (show 0<x by omega)];by_cases ha:aX aA (i:Int) j=1<;>simp[ha]];exact aN7 aA aB b a n cap i j _ _ _ w hi hj hb g k d1 (by simp) HV HF HT (fun w'=>nA aA i j w' (by omega) (by omega) (by omega) (by omega) (by omega) (by omega))
   rw[show(decide (aX aA (i:Int) j=1)&&decide (0<x)&&decide (y=0))=false by simp[hy0]];exact aKe aA aB b a n cap i j _ _ w hi hj hb g k d1 (by simp[hy0]) HV HF HT
  have HT:=HH t;rw[decide_eq_false ht]at HT
  rw[show bF aA aB xs f t=false by
   cases h:bF aA aB xs f t with
   |false=>rfl
   |true=>
    unfold bF at h;simp only[aRy,decide_eq_true_eq]at h
    have:=jW h.1.1;omega]
  exact aKg aA aB f t p n cap w HV HF HT
 have HF:=HH f;rw[decide_eq_false hf]at HF
 rw[show bF aA aB xs f t=false by
  cases h:bF aA aB xs f t with
  |false=>rfl
  |true=>
   unfold bF at h;simp only[aRy,decide_eq_true_eq]at h
   have:=jW h.1.1;omega]
 exact aKh aA aB f t p n cap w HV HF
theorem aHy (q:OA)(m c2:Nat)(xs:List Int)(w:World)(hm:m≤1000)(hS:Sl w q m c2 1 (ivs xs)):
  U 126 #[.slice q m c2] w fun e w'=> ∃q' c',e= .returned (.slice q' m c')∧w'.ownsRow w TI 1 (.slice q' m c') m (ivs xs)∧Ext w w':=by
 cases q with
 |none=>
  have h0:m=0:=by
   by_cases h:0<m
   ·obtain⟨b,g,e,_⟩:=hS.rd h;cases e
   omega
  subst h0;have d:ivs xs= []:=aSb (by have:=hS.len;simpa using this);have f: ∀(w:World) (a:OA) (n c n' c':Nat),(binOp .eql 22 (.slice a n c) (.slice none n' c')).run prog w= .ok (.bool a.isNone) w:=fun w a n c n' c'=>Lib.run_eql_slice_nil w _ _ a n c n' c' underlying22
  clear hS;go_enter func126,ntmps126;go_wp2;go_ret;exact⟨none,0,rfl,by rw[d];exact aS4 _ _ _ _,Ext.refl _⟩
 |some a=>
  have HS:=xQ hS;have MS:=((Mem.start w).made0 TI 1 w (by simp))
  have f: ∀(w:World) (a:OA) (n c n' c':Nat),(binOp .eql 22 (.slice a n c) (.slice none n' c')).run prog w= .ok (.bool a.isNone) w:=fun w a n c n' c'=>Lib.run_eql_slice_nil w _ _ a n c n' c' underlying22
  clear hS;go_enter func126,ntmps126;go_wp2_with (at_builtin;go_loud (refine cG fQ rfl _ _ rfl MS 0 rfl rfl (ivs xs) rfl (HS.out.ext ((Ext.refl _).alloc _)) (qM xs) (by omega) ?_;intro q7 c7 w6 M6));have M7:=(show Mem w w6 [aI w TI 1 q7 m c7 (ivs xs)]from by simpa using M6)
  clear M6;go_wp2;go_ret;exact⟨q7,c7,rfl,M7.ow 0,M7.ext⟩
theorem mC (aA aB:Int)(p:OA)(n cap:Nat)(xs:List Int)(w:World)(hn:n≤1000)(hS:Sl w p n cap 1 (ivs xs)):
  U 86 #[aH aA aB p n cap] w (eC aA aB xs w):=by
 have hl:=xQ hS.ilen;have HS:=xQ hS;clear hS;have HK:xC 126 #[.slice p n cap] w fun w' e w''=> ∃q' c',e= .returned (.slice q' n c')∧w''.ownsRow w' TI 1 (.slice q' n c') n (ivs xs)∧Ext w' w'':=fun w' hx=>aHy p n cap xs w' hn (HS.out.ext hx)
 go_enter func86,ntmps86;go_wp2;have ME:=(((Mem.start w).c0 TH3 #[aA,aB,.slice p n cap]).c1 TH3 #[(),(),((),())])
 refine rL (gl [gEq (.pointer (some ⟨w,0,none⟩)),gEq aA,gEq (.pointer (some ⟨w,1,none⟩)),gEq aB,gEq (.pointer (some ⟨w,2,none⟩)),gEq (.slice p n cap),(fun v w'=> ∃q c,v= .slice q n c∧w'.ownsRow (w.heap.size+2) TI 1 (.slice q n c) n (ivs xs)),(fun v w'=> ∃q c,v=aH aA aB q n c∧w'.ownsRow (w.heap.size+2) TI 1 (.slice q n c) n (ivs xs))]) 8 9 [(0,some 3),(1,some 4),(2,some 5),(3,some 6),(4,some 7),(5,some 8),(6,some 9),(7,some 10)] ?steps ?fin (hG:=(lH (bC (bH _) (bC (bH _) (bC (bH _) (bC (bH _) (bC (bH _) (bC (bH _) (bC (fun v w w' ⟨q,c,he,ho⟩ hx=>⟨q,c,he,aZ ho hx⟩) (bC (fun v w w' ⟨q,c,he,ho⟩ hx=>⟨q,c,he,aZ ho hx⟩) (oG)))))))))))
 case steps=>
  refine sS0 [] ?_;refine sC [(0,some 3)] rfl (fun wi hx=> ?_) ?_
  ·intro v0 h0 K hK;obtain rfl:=h0;have hX:Ext ((w.alloc (.cells #[aA,aB,.slice p n cap] TH3)).alloc (.cells #[(),(),((),())] TH3)) wi:=xE;have b:=((ME.bk 1).ext hX).cl 0;go_simp;exact hK _ _ ⟨I aA,rfl,rfl,Ext.refl _⟩
  refine sS0 [] ?_;refine sC [(2,some 5)] rfl (fun wi hx=> ?_) ?_
  ·intro v2 h2 K hK;obtain rfl:=h2;have hX:Ext ((w.alloc (.cells #[aA,aB,.slice p n cap] TH3)).alloc (.cells #[(),(),((),())] TH3)) wi:=xE;have b:=((ME.bk 1).ext hX).cl 1;go_simp;exact hK _ _ ⟨I aB,rfl,rfl,Ext.refl _⟩
  refine sS0 [] ?_;refine sC [(4,some 7)] rfl (fun wi hx=> ?_) ?_
  ·intro v4 h4 K hK;obtain rfl:=h4;have hX:Ext ((w.alloc (.cells #[aA,aB,.slice p n cap] TH3)).alloc (.cells #[(),(),((),())] TH3)) wi:=xE;have b:=((ME.bk 1).ext hX).cl 2;go_simp;exact hK _ _ ⟨.slice p n cap,rfl,rfl,Ext.refl _⟩
  refine sC [(5,some 8)] rfl (fun wi hx=> ?_) ?_
  ·intro v5 h5 K hK;obtain rfl:=h5;go_wp2_with fail;refine(HK _ (ME.ext.trans hx.of_drew)).mono ?_;rintro e w5 ⟨q5,c5,rfl,o5,g⟩;go_simp;exact hK _ _ ⟨.slice q5 n c5,rfl,⟨q5,c5,rfl,bJ o5 (by have:=hx.sz;simp at this;omega)⟩,g⟩
  refine sC [(1,some 4),(3,some 6),(6,some 9)] rfl (fun wi hx=> ?_) StepsL.nil
  ·intro v1 h1 v3 h3 v6 h6 K hK;subst h1 h3;obtain⟨q6,c6,rfl,a⟩:=h6;go_simp;exact hK _ _ ⟨aH aA aB q6 n c6,rfl,⟨q6,c6,rfl,a⟩,Ext.refl _⟩
 case fin=>
  intro wi hx v0 h0 v1 h1 v2 h2 v3 h3 v4 h4 v5 h5 v6 h6 v7 h7;subst h0 h1 h2 h3 h4 h5;obtain⟨q6,c6,rfl,a⟩:=h6;obtain⟨q7,c7,rfl,d⟩:=h7;have hX:Ext ((w.alloc (.cells #[aA,aB,.slice p n cap] TH3)).alloc (.cells #[(),(),((),())] TH3)) wi:=hx.of_drew;have M2:=(show Mem w wi [aI w TI 1 (q7) (n) (c7) (ivs xs),aJ w (w.heap.size+1) TH3 #[(),(),((),())],aJ w w TH3 #[aA,aB,.slice p n cap]]from ME.ownNew hX d (by simp))
  clear ME hx hX a d HK HS;try go_frame
  obtain⟨z0,h,z1,i,z2,j⟩:=(M2.bk 1).trif;refine wpAny_ready (rs:= [8]) (by kernel_rfl) (by simp) ?_;refine AllReady.cons rfl (fun K hK=> ?_) AllReady.nil;go_simp;refine hK _ _ ?_;clear hK K;refine wpAny_done (by kernel_rfl) ?_ _;try go_frame
  have M3:=((M2.st 1 0 (I aA)).st 1 1 (I aB))
  have M4:=(M3.st 1 2 (.slice q7 n c7))
  go_wp2;have M5:=(show Mem w (((wi.setCell ⟨w.heap.size+1,0,none⟩ (I aA)).setCell ⟨w.heap.size+1,1,none⟩ (I aB)).setCell ⟨w.heap.size+1,2,none⟩ (.slice q7 n c7)) [aI w TI 1 (q7) (n) (c7) (ivs xs),aJ w (w.heap.size+1) TH3 #[aA,aB,.slice q7 n c7],aJ w w TH3 #[aA,aB,.slice p n cap]]from M4)
  generalize f:World.setCell _ _ _=wz;rw[f]at M5;clear f M2 M3 M4 z0 h z1 i z2 j;obtain⟨y0,y1,y2⟩:=(M5.bk 1).tri;exact bodyPost_ret (v:=aH aA aB q7 n c7) (by simp[results,results86,go_sem, *]) rfl (wT hl.out (M5.ow 0) M5.ext)
end Go.Proofs.YtbgkcehffiogcacGreatDoor
