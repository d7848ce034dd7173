/-
  Texts of this proof, packed (@packed).
-/
import Derived.Test.YtpelpnfhbepokaaGreatDoorV26
namespace Go.Proofs.YtpelpnfhbepokaaGreatDoor
open Go.RowKit
set_option linter.unusedVariables false
set_option linter.unusedSimpArgs false
set_option maxHeartbeats 8000000
set_option maxRecDepth 100000
theorem aIo (aA aB a:Int)(p:OA)(n f:Nat)(w:World)(hn:n≤12)(h0:0≤a)(h1:a<n)
  (HV:xB 53 #[aH aA aB p n f] w true)
  (HH:Hid (∀w',Calls Tryz.prog 149 #[aH aA aB p n f,a] w' fun e w''=>e= .returned (.bool true)∧Ext w' w''))
  (HA:Hid (∀(k:Nat),k<n→ ∀w',Calls Tryz.prog 150 #[aA,a,(k:Int)] w' fun e w''=>e= .returned (.int .i64 (aW aA a k))∧Ext w' w'')):
  Calls Tryz.prog 214 #[aH aA aB p n f,a] w (aX (iV aA n a) w):=by
 go_enter Tryz.func214,Tryz.ntmps214;go_wp2_with fail;refine(HV _ xE).mono ?_;rintro e w1 ⟨rfl,y⟩;have B1:=xQ ((Blk.new w TH3 #[aA,aB,.slice p n f]).ext y);have X1:=xQ (show Ext w w1 from xE);have x:=B1.out.lt;obtain⟨b0,b1,b2⟩:=B1.out.cells3;clear y;go_wp2_with fail;refine(HH _).mono ?_;rintro e w2 ⟨rfl,t⟩;clear b0 b1 b2;have B2:=xQ (B1.out.ext t);have X2:=xQ (X1.out.trans t);have ae:=B2.out.lt;obtain⟨b0,b1,b2⟩:=B2.out.cells3;clear t B1 X1 x;go_wp2;go_loopw [5,19] (fun v i wr=> ∃(k:Nat) (q:OA) (m c:Nat),k≤n∧i= .int .i64 k∧v= .slice q m c∧m≤k∧wr.ownsRow (w.heap.size+1) TI 1 (.slice q m c) m (ivs (eW (fun b=>decide (aW aA a b=1)) k))∧Ext w wr∧Blk wr w.heap.size TH3 #[aA,aB,.slice p n f]) (fun _ i _=>n-(intOf i).toNat)
 case atStart=>exact⟨0,_,0,0,Nat.zero_le _,rfl,rfl,Nat.le_refl _,World.ownsRow_nil _ _ _ _,X2.out,B2.out⟩
 case round=>
  clear b0 b1 b2 B2 X2;obtain⟨k,q,m,c,hk,rfl,rfl,af,l,r,hB⟩:=hrel;have HO:=xQ l;have HB:=xQ hB;have x:w.heap.size<wr.heap.size:=hB.lt;clear l hB;obtain⟨b0,b1,b2⟩:=HB.out.cells3;by_cases hlt:k<n
  ·go_wp2_with fail;refine(HA k hlt _).mono ?_;rintro e w1 ⟨rfl,h1⟩;have h:=xQ (bG HO h1);have o:=xQ (HB.out.ext h1);have j:=xQ (r.trans h1);have ad:w.heap.size<w1.heap.size:=o.out.lt;clear h1 b0 b1 b2 HO HB r;by_cases hx0:aW aA a k=1
   ·have t0:(aW aA a k==1)=true:=by simp[hx0]
    have d:Hid (eW (fun b=>decide (aW aA a b=1)) (k+1)=eW (fun b=>decide (aW aA a b=1)) k++ [(k:Int)]):=by show _=_;rw[eW,if_pos (by simpa using hx0)]
    clear hx0;go_wp2_with (at_builtin;refine cI eV rfl _ _ rfl (w.heap.size+1) _ _ _ rfl (h.out.alloc _) _ _ (k:Int) _ rfl (by simp) (by omega) (by first|(simp;done)|(simp;omega)) ?_;intro p' u w2 g s;have aa:=xQ g;have ab:Ext w w2:=Ext.own (j.out.alloc _) (h.out.alloc _) s (by omega);have z:=xQ (oG h s o.out);clear g s);go_roundw
    case rel=>exact⟨k+1,p',m+1,u,by omega,by go_num,rfl,by omega,by rw[d.out];exact aa.out,ab,z.out⟩
    case measure=>simp[intOf];omega
   have t0:(aW aA a k==1)=false:=by simp[hx0]
   have d:Hid (eW (fun b=>decide (aW aA a b=1)) (k+1)=eW (fun b=>decide (aW aA a b=1)) k):=by show _=_;rw[eW,if_neg (by simpa using hx0),List.append_nil]
   clear hx0;go_wp2;go_roundw
   case rel=>exact⟨k+1,q,m,c,by omega,by go_num,rfl,by omega,by rw[d.out];exact h.out,j.out,o.out⟩
   case measure=>simp[intOf];omega
  have d:Hid (eW (fun b=>decide (aW aA a b=1)) k=iV aA n a):=by show _=_;unfold iV;rw[show k=n by omega]
  go_wp2;go_ret;exact cZ (by rw[←d.out];have:=HO.out.1;simpa using this) (by rw[←d.out];exact bE HO (Nat.le_succ _)) r
theorem aDh (aA aB a:Int)(p:OA)(n b:Nat)(xs:List Int)(w:World)(hS:Sl w p n b 1 (ivs xs))(c:aM aA aB xs=true)(h0:0≤a)(h1:a<n):
  Calls Tryz.prog 214 #[aH aA aB p n b,a] w (aX (iV aA n a) w):=by
 have hl:=hS.ilen;obtain⟨g1,g2,g3,g4,g5,g6,g7,g8,g9⟩:=bM c;refine aIo aA aB a p n b w (by omega) h0 h1 (fun w' hx=>by have:=fI aA aB p n b xs w' (hS.ext hx);rwa[c]at this) (fun w'=> ?_) (fun k hk w'=>lI aA a k w' h0 (by omega) (by omega) (by omega) (by omega) (by omega));have:=iI aA aB a p n b w' (by omega);rwa[decide_eq_true (⟨h0,h1⟩:0≤a∧a<n)]at this
theorem aE7 {k n:Nat}(h:k<n):(List.replicate k (-1:Int)++List.replicate (n-k) 0).set k (-1)=List.replicate (k+1) (-1)++List.replicate (n-(k+1)) 0:=by
 have e:n-k=(n-(k+1))+1:=by omega
 rw[e,List.replicate_succ,List.set_append_right _ _ (by simp),List.replicate_succ',List.append_assoc];simp
theorem aIc (aA aB:Int)(p:OA)(n a src:Nat)(b:Int)(w:World)(b5:4≤n)(hn:n≤12)(hs:src<n)
  (HC:Hid (∀(k:Nat),k<n→ ∀w',Ext w w'→Calls Tryz.prog 214 #[aH aA aB p n a,(k:Int)] w' (aX (bF (aS aA n k)) w'))):
  Calls Tryz.prog 213 #[aH aA aB p n a,(src:Int),b] w fun e w'=> ∃D,qR (oM aA n b) [src] n D∧aX D w e w':=by
 obtain⟨AR,af⟩: ∃AR:Array Value,AR=madeCells #[()] n:=⟨_,rfl⟩
 have bm: ∀w:World,(Instr.makeSlice 23 (.int .i64 (n:Int)) (.int .i64 (n:Int))).run Tryz.prog w= .ok (.slice (some ⟨w.heap.size,0,none⟩) n n) (w.alloc (.cells AR TI)):=fun w=>by rw[af];exact run_make_row' _ _ (.int .i64 0) 8 Tryz.underlying23 (by kernel_rfl) rfl .i64 .i64 n (by omega) (by omega) w
 have aw:Hid (AR.toList=ivs (List.replicate 0 (-1)++List.replicate (n-0) 0)):=by show _=_;rw[af,(mL n).1];simp
 have ax:Hid (AR.size=n):=by show _=_;rw[af];exact(mL n).2
 clear af;go_enter Tryz.func213,Tryz.ntmps213;go_wp2;have ME:=xQ (show Mem w ((w.alloc (.cells #[aA,aB,.slice p n a] TH3)).alloc (.cells AR TI)) [aJ w.heap.size TI 1 (some ⟨w.heap.size+1,0,none⟩) (n) (n) (ivs (List.replicate 0 (-1)++List.replicate (n-0) 0)),aI w.heap.size (w.heap.size) TH3 #[aA,aB,.slice p n a]]from by rw[←aw.out];exact((Mem.start w).c0 TH3 #[aA,aB,.slice p n a]).lit TI 1 n _ AR (by simp) (by rw[ax.out];omega) (by simp[maxLen];omega));clear aw ax bm;go_loopw [19] (fun i wr=> ∃(k:Nat),k≤n∧i= .int .i64 (k:Int)∧Mem w wr [aJ w.heap.size TI 1 (some ⟨w.heap.size+1,0,none⟩) (n) (n) (ivs (List.replicate k (-1)++List.replicate (n-k) 0)),aI w.heap.size (w.heap.size) TH3 #[aA,aB,.slice p n a]]) (fun i _=>n-(intOf i).toNat)
 case atStart=>exact⟨0,Nat.zero_le _,rfl,ME.out⟩
 case round=>
  clear ME;obtain⟨k,hk,rfl,hM⟩:=hrel;have HM:=xQ hM;clear hM;have bs:=(HM.out.hi 1)
  by_cases hlt:k<n
  ·have i1:(0:Int)≤(k:Int):=by omega
   have i2:(k:Int)<(n:Int):=by omega
   have hl:(List.replicate k (-1:Int)++List.replicate (n-k) 0)[k]? =some 0:=by rw[List.getElem?_append_right (by simp)];simp[List.getElem?_replicate];omega
   have bc:wr.cell? ⟨w.heap.size+1,k,none⟩=some (.int .i64 0):=by have:=(HM.out.ow 0).cellAt k (by omega);rw[this];simp only[ivs,List.getElem?_map,hl,Option.map_some]
   have be:wr.frozen? ⟨w.heap.size+1,k,none⟩=false:=(HM.out.ow 0).frozenAt k;clear hl;have M2:=xQ (HM.out.ostore (i:=0) rfl k (.int .i64 (-1)));go_wp2;go_roundw
   case rel=>exact⟨k+1,by omega,by go_num,by have:=M2.out;rw[dR,aE7 hlt]at this;exact this⟩
   case measure=>simp[intOf];omega
  obtain rfl:n=k:=by omega
  rw[Nat.sub_self,show List.replicate n (-1:Int)++List.replicate 0 0=List.replicate n (-1) by simp]at HM;have i1:(0:Int)≤(src:Int):=by omega
  have i2:(src:Int)<(n:Int):=by omega
  have bc:wr.cell? ⟨w.heap.size+1,src,none⟩=some (.int .i64 (-1)):=by have:=(HM.out.ow 0).cellAt src (by omega);rw[this];simp[ivs,hs]
  have be:wr.frozen? ⟨w.heap.size+1,src,none⟩=false:=(HM.out.ow 0).frozenAt src;have M2:=xQ (HM.out.ostore (i:=0) rfl src (.int .i64 0));rw[show Hid (Mem w (wr.setCell ⟨w.heap.size+1,src,none⟩ (.int .i64 0)) (List.set [aJ w.heap.size TI 1 (some ⟨w.heap.size+1,0,none⟩) (n) (n) (ivs (List.replicate n (-1))),aI w.heap.size (w.heap.size) TH3 #[aA,aB,.slice p n a]] 0 (aJ w.heap.size TI 1 (some ⟨w.heap.size+1,0,none⟩) n n (List.set (ivs (List.replicate n (-1))) src (.int .i64 0)))))=Hid (Mem w (wr.setCell ⟨w.heap.size+1,src,none⟩ (.int .i64 0)) [aJ w.heap.size TI 1 (some ⟨w.heap.size+1,0,none⟩) (n) (n) (ivs ((List.replicate n (-1)).set src 0)),aI w.heap.size (w.heap.size) TH3 #[aA,aB,.slice p n a]]) by rw[dR];rfl]at M2;go_upto_region 8 with fail;clear bc be HM bs;generalize a8:World.setCell _ _ _=w1;rw[a8]at M2;clear a8;have I1:=xQ (Inv.one (adj:=oM aA n b) hs);have M3:=xQ (M2.out.lit TI 1 1 w1.heap.size #[(src:Int)] rfl rfl (by simp[maxLen]));clear M2;go_wp2;go_loopw [9,10] (fun v i wr=> ∃(k:Nat) (q:OA) (l lc:Nat) (D:List Int) (Q:List Nat),k≤l∧i= .int .i64 (k:Int)∧v= .slice q l lc∧l=Q.length∧(∀x∈D,-1≤x∧x≤k)∧Inv (oM aA n b) [src] n k (D,Q)∧Mem w wr [aJ w.heap.size TI 1 (q) (l) (lc) (ivs (bF Q)),aJ w.heap.size TI 1 (some ⟨w.heap.size+1,0,none⟩) (n) (n) (ivs (D)),aI w.heap.size (w.heap.size) TH3 #[aA,aB,.slice p n a]]) (fun _ i _=>n-(intOf i).toNat)
  case atStart=>exact⟨0,some ⟨w1.heap.size,0,none⟩,1,1,_,[src],Nat.zero_le _,rfl,rfl,rfl,aHv _ _,I1.out,M3.out⟩
  case round=>
   clear M3 I1;obtain⟨k,q,l,lc,D,Q,hk,rfl,rfl,ap,a2,ad,hM⟩:=hrel;have HM:=xQ hM;have HI:=xQ ad;have z:=xQ ap;have b6:l≤n:=by rw[ap];exact ad.qlen
   have au:=xQ a2;clear hM ad ap a2;by_cases hlt2:k<l
   ·obtain⟨u,hu⟩: ∃u,Q[k]? =some u:=⟨_,List.getElem?_eq_getElem (by rw[←z.out];exact hlt2)⟩
    have bp:u<n:=HI.out.bd u (List.mem_of_getElem? hu);have HU:=xQ hu;clear hu;obtain⟨gL,rfl,a0,al⟩:=HM.out.so 0;have i3:(0:Int)≤(k:Int):=by omega
    have i4:(k:Int)<(l:Int):=by omega
    have i5:(0:Int)≤(u:Int):=by omega
    have i6:(u:Int)<(n:Int):=by omega
    have cu:wr.cell? ⟨gL,k,none⟩=some (.int .i64 (u:Int)):=by have:=(HM.out.ow 0).cellAt k (by omega);rw[this];simp[ivs,bF,HU.out]
    obtain⟨nb,ag⟩: ∃nb,nb=aS aA n u:=⟨_,rfl⟩
    have ak:=xQ ag;have av:Hid (∀w',Ext w w'→Calls Tryz.prog 214 #[aH aA aB p n a,(u:Int)] w' (aX (bF nb) w')):=by rw[ag];exact HC u bp
    have bo:nb.length≤n:=by rw[ag];exact Nat.le_trans (List.length_filter_le _ _) (by simp)
    clear ag;have a6:(bF nb).length=nb.length:=by simp[bF]
    go_wp2;refine rL (gl [gEq (.agg #[aA,aB,.slice p n a]),gEq (.slice (some ⟨gL,0,none⟩) l lc),gEq (k:Int),gEq (.pointer (some ⟨gL,k,none⟩)),gEq (u:Int),(fun v w'=> ∃q c,v= .slice q nb.length c∧w'.ownsRow wr.heap.size TI 1 (.slice q nb.length c) nb.length (ivs (bF nb))),gEq (nb.length:Int),gEq (.int .i64 0)]) 8 8 [(0,some 37),(1,some 38),(2,some 39),(3,some 40),(4,some 41),(5,some 42),(6,some 43),(7,some 44)] ?steps ?fin (hG:=(mN (bN (bS _) (bN (bS _) (bN (bS _) (bN (bS _) (bN (bS _) (bN (fun v w w' ⟨q,c,he,ho⟩ hx=>⟨q,c,he,bG ho hx⟩) (bN (bS _) (bN (bS _) (pD)))))))))))
    case steps=>
     refine sC [] rfl (fun wi hx=> ?_) ?_
     ·intro K hK;have hX:Ext wr wi:=xE;obtain⟨bj,b0,b1⟩:=((HM.out.bk 2).ext hX).tri;go_simp;exact hK _ _ ⟨.agg #[aA,aB,.slice p n a],rfl,rfl,Ext.refl _⟩
     refine sS0 [] (sS0 [] (sS2 [(1,some 38),(2,some 39)] ?_));refine sC [(3,some 40)] rfl (fun wi hx=> ?_) ?_
     ·intro v3 h3 K hK;obtain rfl:=h3;have hX:Ext wr wi:=xE;have bj:wi.cell? ⟨gL,k,none⟩=some (.int .i64 (u:Int)):=(hX.cells.1 _ _ al).trans cu;go_simp;exact hK _ _ ⟨.int .i64 (u:Int),rfl,rfl,Ext.refl _⟩
     refine sC [(0,some 37),(4,some 41)] rfl (fun wi hx=> ?_) ?_
     ·intro v0 h0 v4 h4 K hK;obtain rfl:=h0;obtain rfl:=h4;go_wp2_with fail;refine(av _ (HM.out.ext.trans hx.of_drew)).mono ?_;rintro e w5 ⟨q5,c5,rfl,o5,br⟩;rw[a6]at o5⊢;go_simp;exact hK _ _ ⟨.slice q5 nb.length c5,rfl,⟨q5,c5,rfl,bE o5 (by have:=hx.sz;simpa using this)⟩,br⟩
     refine sC [(5,some 42)] rfl (fun wi hx=> ?_) ?_
     ·intro v5 h5 K hK;obtain⟨q5,c5,rfl,aq⟩:=h5;go_simp;exact hK _ _ ⟨.int .i64 (nb.length:Int),rfl,rfl,Ext.refl _⟩
     exact sS0 [] StepsL.nil
    case fin=>
     intro wi hx v0 h0 v1 h1 v2 h2 v3 h3 v4 h4 v5 h5 v6 h6 v7 h7;obtain rfl:=h0;obtain rfl:=h1;obtain rfl:=h2;obtain rfl:=h3;obtain rfl:=h4;obtain⟨q5,c5,rfl,aq⟩:=h5;obtain rfl:=h6;obtain rfl:=h7;have M5:=xQ (show Mem w wi [aJ w.heap.size TI 1 (q5) (nb.length) (c5) (ivs (bF nb)),aJ w.heap.size TI 1 (some ⟨gL,0,none⟩) (l) (lc) (ivs (bF Q)),aJ w.heap.size TI 1 (some ⟨w.heap.size+1,0,none⟩) (n) (n) (ivs (D)),aI w.heap.size (w.heap.size) TH3 #[aA,aB,.slice p n a]]from HM.out.ownNew hx.of_drew aq (Nat.le_refl _));clear aq hx cu HM av i3 i4 i5 i6 a0 al;refine wpAny_done (by kernel_rfl) ?_ _;try go_frame
     go_wp2;go_loopw [9,44] (fun v i wr=> ∃(j:Nat) (q:OA) (l2 lc:Nat) (D2:List Int) (Q2:List Nat),j≤nb.length∧i= .int .i64 (j:Int)∧v= .slice q l2 lc∧l2=Q2.length∧(D2,Q2)=bL (D.getD u 0+1) (D,Q) ((nb.take j).filter (fun(v:Nat)=>decide ((v:Int)≠b)))∧(∀x∈D2,-1≤x∧x≤(k:Int)+1)∧Mem w wr [aJ w.heap.size TI 1 (q5) (nb.length) (c5) (ivs (bF nb)),aJ w.heap.size TI 1 (q) (l2) (lc) (ivs (bF Q2)),aJ w.heap.size TI 1 (some ⟨w.heap.size+1,0,none⟩) (n) (n) (ivs (D2)),aI w.heap.size (w.heap.size) TH3 #[aA,aB,.slice p n a]]) (fun _ i _=>nb.length-(intOf i).toNat)
     case atStart=>exact⟨0,some ⟨gL,0,none⟩,l,lc,D,Q,Nat.zero_le _,rfl,rfl,z.out,by simp[bL],fun x hx=>by have:=au x hx;omega,M5.out⟩
     case round=>
      clear M5;obtain⟨j,q,l2,lc,D2,Q2,hj,rfl,rfl,aj,an,aa,hM⟩:=hrel;have a7:u∈Q:=List.mem_of_getElem? HU.out;have f:Mid (oM aA n b) [src] n k u ((nb.take j).filter (fun(v:Nat)=>decide ((v:Int)≠b))) (D,Q) (D2,Q2):=by
       rw[an]
       have:=Mid.many a7 ((nb.take j).filter (fun(v:Nat)=>decide ((v:Int)≠b))) [] (D,Q) (HI.out.mid HU.out) (fun v hv=>by
        have h1:=List.mem_filter.1 hv;have h2:v∈aS aA n u:=by rw[←ak.out];exact List.mem_of_mem_take h1.1
        exact⟨List.mem_filter.2 ⟨h2,h1.2⟩,(bQ.1 h2).1⟩)
       simpa using this
      have ay:D2.length=n:=f.len;have b4:Q2.length≤n:=nF f.nodup f.bd;have ar:D2.getD u 0=D.getD u 0:=f.same u a7;obtain⟨r,hr⟩:=f.pre;dsimp only at hr;have bl:k<Q2.length:=by rw[hr,List.length_append];have:=z.out;omega
      have a1:Q2[k]? =some u:=by have:=z.out;rw[hr,List.getElem?_append_left (by omega)];exact HU.out
      have m:=dD (D:=D2) (v:=u) (by omega);have a4: -1≤D2.getD u 0:=(aa _ m.2).1;have a5:D2.getD u 0≤(k:Int):=by rw[ar];exact(au _ (dD (D:=D) (v:=u) (by have:=HI.out.len;dsimp only at this;omega)).2).2
      have HM:=xQ hM;have ae:=xQ an;have g:=xQ aa;have s:=xQ aj;have bh:=xQ a1;have bf:=xQ m.1;have bi:=xQ ar;have bz:l2≤n:=by omega
      have bx:k<l2:=by omega
      have az:=xQ ay;have b8:=(HM.out.hi 3)
      clear hM an aa aj a1 m ar hr f ay bl;by_cases hlt3:j<nb.length
      ·obtain⟨v,hv⟩: ∃v,nb[j]? =some v:=⟨_,List.getElem?_eq_getElem hlt3⟩
       have bq:v<n:=(bQ.1 (by rw[←ak.out];exact List.mem_of_getElem? hv:v∈aS aA n u)).1;have HV:=xQ hv;clear hv;obtain⟨gN,rfl,b2,b3⟩:=HM.out.so 0;obtain⟨gL,rfl,a0,al⟩:=HM.out.so 1;obtain⟨dv,am⟩: ∃d,d=D2.getD v 0:=⟨_,rfl⟩
       obtain⟨du,m⟩: ∃d,d=D2.getD u 0:=⟨_,rfl⟩
       have t:=dD (D:=D2) (v:=v) (by rw[az.out];exact bq);rw[←am]at t;have bg:=xQ t.1;have bw:=g _ t.2;have ai:=xQ am;have ah:=xQ m;rw[←m]at a4 a5;clear am m t;have m1:(0:Int)≤(j:Int):=by omega
       have m2:(j:Int)<(nb.length:Int):=by omega
       have m3:(0:Int)≤(v:Int):=by omega
       have m4:(v:Int)<(n:Int):=by omega
       have m5:(0:Int)≤(u:Int):=by omega
       have m6:(u:Int)<(n:Int):=by omega
       have m7:(0:Int)≤(k:Int):=by omega
       have m8:(k:Int)<(l2:Int):=by omega
       have bt: ¬(gN=gL):=HM.out.ne (i:=0) (j:=1) (by omega) rfl rfl rfl rfl;have ba: ¬(gN=w.heap.size+1):=HM.out.ne (i:=0) (j:=2) (by omega) rfl rfl rfl rfl;have bb: ¬(gL=w.heap.size+1):=HM.out.ne (i:=1) (j:=2) (by omega) rfl rfl rfl rfl;have bu: ¬(w.heap.size+1=gN):=fun h=>ba h.symm
       have bv: ¬(w.heap.size+1=gL):=fun h=>bb h.symm
       have cn:wr.cell? ⟨gN,j,none⟩=some (.int .i64 (v:Int)):=by have:=(HM.out.ow 0).cellAt j (by omega);rw[this];simp[ivs,bF,HV.out]
       have cf:wr.cell? ⟨w.heap.size+1,v,none⟩=some (.int .i64 dv):=by have:=(HM.out.ow 2).cellAt v (by omega);rw[this];simp only[ivs,List.getElem?_map,bg.out,Option.map_some]
       by_cases hvb:(v:Int)=b
       ·have t1:((v:Int)!=b)=false:=by simp[hvb]
        have y:=xQ (aEi HV hvb);clear hvb;go_wp2;go_roundw
        case rel=>exact⟨j+1,some ⟨gL,0,none⟩,l2,lc,D2,Q2,by omega,by go_num,rfl,s.out,by rw[y.out];exact ae.out,g.out,HM.out⟩
        case measure=>simp[intOf];omega
       have t1:((v:Int)!=b)=true:=by simp[hvb]
       have y:=xQ (aB4 HV hvb);clear hvb;by_cases hd0:dv<0
       ·have t2:decide (dv<0)=true:=by simp[hd0]
        have o:Hid ((D2.set v (du+1),Q2++ [v])=bL (D.getD u 0+1) (D,Q) ((nb.take (j+1)).filter (fun(v:Nat)=>decide ((v:Int)≠b)))):=by show _=_;rw[y.out,dM,←ae.out,kD (by rw[←ai.out];exact hd0),ah.out,bi.out]
        have cl:wr.cell? ⟨gL,k,none⟩=some (.int .i64 (u:Int)):=by have:=(HM.out.ow 1).cellAt k (by omega);rw[this];simp[ivs,bF,bh.out]
        have cd:wr.cell? ⟨w.heap.size+1,u,none⟩=some (.int .i64 du):=by have:=(HM.out.ow 2).cellAt u (by omega);rw[this,ah.out];simp only[ivs,List.getElem?_map,bf.out,Option.map_some]
        have ff:wr.frozen? ⟨w.heap.size+1,v,none⟩=false:=(HM.out.ow 2).frozenAt v;have b7:IntKind.i64.wrap (du+1)=du+1:=IntWalk.i64_in _ (by omega);have M6:=xQ (show Mem w (wr.setCell ⟨w.heap.size+1,v,none⟩ (.int .i64 (du+1))) [aJ w.heap.size TI 1 (some ⟨gN,0,none⟩) (nb.length) (c5) (ivs (bF nb)),aJ w.heap.size TI 1 (some ⟨gL,0,none⟩) (l2) (lc) (ivs (bF Q2)),aJ w.heap.size TI 1 (some ⟨w.heap.size+1,0,none⟩) (n) (n) (ivs (D2.set v (du+1))),aI w.heap.size (w.heap.size) TH3 #[aA,aB,.slice p n a]]from by rw[←dR];exact HM.out.ostore (i:=2) rfl v (.int .i64 (du+1)));have a3:Hid (∀x∈D2.set v (du+1),-1≤x∧x≤(k:Int)+1):=by
         show∀_,_;intro x hx;rcases List.mem_or_eq_of_mem_set hx with h|h
         ·exact g x h
         omega
        clear hd0;go_upto_region 17 with fail;clear cl cd ff cn cf HM;generalize a9:World.setCell _ _ _=w4;rw[a9]at M6;clear a9 bt ba bb bu bv;go_wp2_with (at_builtin;go_loud (refine cE eV rfl _ _ rfl (M6.out.adv ((Ext.refl _).alloc (.cells #[(v:Int)] TI))) 1 rfl rfl (ivs [(v:Int)]) rfl (dJ _ _ _ 1 1 _ (by first|rfl|simp) (by first|rfl|simp) (by simp[maxLen])) (fun u hu=>by obtain rfl:=List.mem_singleton.1 hu;rfl) (by omega) ?_;intro q7 c7 w6 M7));have M8:=xQ (show Mem w w6 [aJ w.heap.size TI 1 (some ⟨gN,0,none⟩) (nb.length) (c5) (ivs (bF nb)),aJ w.heap.size TI 1 (q7) (l2+1) (c7) (ivs (bF (Q2++ [v]))),aJ w.heap.size TI 1 (some ⟨w.heap.size+1,0,none⟩) (n) (n) (ivs (D2.set v (du+1))),aI w.heap.size (w.heap.size) TH3 #[aA,aB,.slice p n a]]from by rw[show ivs (bF (Q2++ [v]))=ivs (bF Q2)++ivs [(v:Int)] by simp[ivs,bF]];exact M7);clear M7 M6;go_wp2;go_roundw
        case rel=>exact⟨j+1,q7,l2+1,c7,D2.set v (du+1),Q2++ [v],by omega,by go_num,rfl,by simp[s.out],o.out,a3.out,M8.out⟩
        case measure=>simp[intOf];omega
       have t2:decide (dv<0)=false:=by simp;omega
       have o:Hid ((D2,Q2)=bL (D.getD u 0+1) (D,Q) ((nb.take (j+1)).filter (fun(v:Nat)=>decide ((v:Int)≠b)))):=by show _=_;rw[y.out,dM,←ae.out,lR (by rw[←ai.out];exact hd0)]
       clear hd0;go_wp2;go_roundw
       case rel=>exact⟨j+1,some ⟨gL,0,none⟩,l2,lc,D2,Q2,by omega,by go_num,rfl,s.out,o.out,g.out,HM.out⟩
       case measure=>simp[intOf];omega
      obtain rfl:nb.length=j:=by omega
      have ao:Hid (Inv (oM aA n b) [src] n (k+1) (D2,Q2)):=by show Inv _ _ _ _ _;have h1:=HI.out.step HU (fun v hv=>aEr hv);have h2:=ae.out;rw[List.take_length,ak.out]at h2;rw[h2];exact h1
      have M9:=xQ (show Mem w wr [aJ w.heap.size TI 1 (q) (l2) (lc) (ivs (bF Q2)),aJ w.heap.size TI 1 (some ⟨w.heap.size+1,0,none⟩) (n) (n) (ivs (D2)),aI w.heap.size (w.heap.size) TH3 #[aA,aB,.slice p n a]]from HM.out.pick [1,2,3] (by decide) rfl);clear HM;go_wp2;go_roundw
      case rel=>exact⟨k+1,q,l2,lc,D2,Q2,by omega,by go_num,rfl,s.out,fun x hx=>by have:=g x hx;omega,ao.out,M9.out⟩
      case measure=>simp[intOf];omega
   have ab:=xQ (HI.out.dist (by have:=z.out;dsimp only;omega));go_wp2;go_ret;exact⟨D,ab.out,some ⟨w.heap.size+1,0,none⟩,n,by rw[ab.out.len];rfl,by rw[ab.out.len];exact HM.out.ow 1,HM.out.ext⟩
theorem aL1 (aA aB:Int)(p:OA)(n a src:Nat)(b:Int)(xs:List Int)(w:World)(hS:Sl w p n a 1 (ivs xs))(c:aM aA aB xs=true)(hs:src<n):
  Calls Tryz.prog 213 #[aH aA aB p n a,(src:Int),b] w fun e w'=> ∃D,qR (oM aA n b) [src] n D∧aX D w e w':=by
 have hl:=hS.ilen;obtain⟨g1,g2,g3,g4,g5,g6,g7,g8,g9⟩:=bM c
 exact aIc aA aB p n a src b w (by omega) (by omega) hs (fun k hk w' hx=>by
  have:=aDh aA aB k p n a xs w' (hS.ext hx) c (by omega) (by omega)
  rwa[kH]at this)
theorem aI9 (aA aB:Int)(p:OA)(n a u:Nat)(w:World)(hg:Hid ((aA,n)∈gU))(bi:4≤n)(hn:n≤12)(hu:u<n)
  (HV:xB 53 #[aH aA aB p n a] w true)
  (HH:Hid (∀(k:Nat),k<n→ ∀w',Calls Tryz.prog 149 #[aH aA aB p n a,(k:Int)] w' fun e w''=>e= .returned (.bool true)∧Ext w' w''))
  (HF:xC 213 #[aH aA aB p n a,(),(-1:Int)] w fun w' e w''=> ∃D,(D.length=n∧ ∀v,v<n→D.getD v 0=aW aA v 0)∧aX D w' e w'')
  (HC:Hid (∀(k:Nat),k<n→ ∀w',Ext w w'→Calls Tryz.prog 214 #[aH aA aB p n a,(k:Int)] w' (aX (bF (aS aA n k)) w'))):
  Calls Tryz.prog 187 #[aH aA aB p n a,(u:Int),(),(-1:Int)] w (aX (bF (cX aA n 12 u)) w):=by
 have a1:(0:Int)≤(u:Int):=by omega
 have a2:(u:Int)<(n:Int):=by omega
 have a3:((-1:Int)==(u:Int))=false:=by first|(simp;done)|(simp;omega)
 have a4:decide ((n:Int)≤ -1)=false:=by first|(simp;done)|(simp;omega)
 have a6:Hid (∀w',Calls Tryz.prog 149 #[aH aA aB p n a,()] w' fun e w''=>e= .returned (.bool true)∧Ext w' w''):=HH.out 0 (by omega);have ab:=xQ (bT hg.out hu);go_enter Tryz.func187,Tryz.ntmps187;go_wp2_with fail;have M0:=((Mem.start w).c0 TH3 #[aA,aB,.slice p n a])
 refine(HV _ M0.ext).mono ?_;rintro e w1 ⟨rfl,aw⟩;have M1:=(M0.adv aw)
 have c:=(M1.hi 0)
 obtain⟨b0,b1,b2⟩:=(M1.bk 0).cells3;clear aw M0;go_wp2_with fail;refine(HH u hu _).mono ?_;rintro e w2 ⟨rfl,ax⟩;have M2:=(M1.adv ax)
 clear b0 b1 b2 ax M1 c;have c:=(M2.hi 0)
 obtain⟨b0,b1,b2⟩:=(M2.bk 0).cells3;go_wp2_with fail;refine(a6 _).mono ?_;rintro e w3 ⟨rfl,ay⟩;have M3:=(M2.adv ay)
 clear b0 b1 b2 ay M2 c;have c:=(M3.hi 0)
 obtain⟨b0,b1,b2⟩:=(M3.bk 0).cells3;go_wp2_with fail;refine(HF _ M3.ext).mono ?_;rintro e w4 ⟨D,⟨ah,an⟩,q2,c2,rfl,o4,az⟩;rw[ah]at o4⊢;have HD:=xQ ah;have ae:=xQ an;have M4:=(M3.call az o4)
 clear b0 b1 b2 az o4 M3 c ah an;obtain⟨gF,rfl,a8,a9⟩:=M4.so 0;have cU:w4.cell? ⟨gF,u,none⟩=some (.int .i64 (aW aA u 0)):=by have h1:=(dD (D:=D) (v:=u) (by rw[HD.out];exact hu)).1;rw[ae u hu]at h1;have:=(M4.ow 0).cellAt u (by omega);rw[this];simp only[ivs,List.getElem?_map,h1,Option.map_some]
 have a5:decide (aW aA (u:Int) 0<0)=false:=by have:=ab.out.1;first|(simp;done)|(simp;omega)
 have M5:=(M4.lit TI 1 1 w4.heap.size #[(u:Int)] rfl rfl (by simp[maxLen]))
 go_wp2;clear cU M4 a8 a9;go_loopw [10,11] (fun o v wr=> ∃(x f:Nat) (pre:List Nat) (q:OA) (l lc:Nat),o= .slice q l lc∧v= .int .i64 (x:Int)∧x<n∧aW aA x 0≤f∧pre++cX aA n f x=cX aA n 12 u∧l=pre.length+1∧Mem w wr [aJ w.heap.size TI 1 (q) (l) (lc) (ivs (bF (pre++ [x]))),aJ w.heap.size TI 1 (some ⟨gF,0,none⟩) (n) (c2) (ivs (D)),aI w.heap.size (w.heap.size) TH3 #[aA,aB,.slice p n a]]) (fun _ v _=>(aW aA (intOf v) 0).toNat)
 case atStart=>exact⟨u,12,[],some ⟨w4.heap.size,0,none⟩,1,1,rfl,rfl,hu,by have:=ab.out.2.1;omega,rfl,rfl,M5⟩
 case round=>
  clear M5;obtain⟨x,f,pre,q,l,lc,rfl,rfl,hx,hf,t,hl,hM⟩:=hrel;have HM:=hM;have HW:=xQ t;have af:=xQ (bT hg.out hx);have al:=xQ hf;have bg:l≤12:=by have h1:=congrArg List.length t;have h2:=lP hg.out f x hx hf;have h3:=lP hg.out 12 u hu (by have:=ab.out.2.1;omega);have h4:=ab.out.2.1;have h5:=af.out.1;rw[List.length_append]at h1;omega
  have am:=xQ hl;clear hM t hf hl;by_cases h0:x=0
  ·have t0:((x:Int)!=0)=false:=by simp[h0]
   have ad:Hid (pre++ [x]=cX aA n 12 u):=by show _=_;rw[←HW.out];subst h0;cases f<;>simp[cX]
   clear h0;go_wp2;go_ret;exact cZ (by rw[←ad.out];have:=am.out;simp[bF];omega) (by rw[←ad.out];exact HM.ow 0) HM.ext
  have t0:((x:Int)!=0)=true:=by simp[h0]
  obtain⟨J,ba,aa,ai⟩:=aE2 hg.out hx h0;obtain⟨e1,e2,e3⟩:=af.out.2.2.2.1 h0;have bf:=xQ h0;obtain⟨y,hy⟩: ∃y,y=kI aA n x:=⟨_,rfl⟩
  rw[←hy]at aa e1 e2 e3;have HY:=xQ hy;clear hy h0;obtain⟨nb,r⟩: ∃nb,nb=aS aA n x:=⟨_,rfl⟩
  rw[←r]at ba aa ai;have ak:Hid (∀w',Ext w w'→Calls Tryz.prog 214 #[aH aA aB p n a,(x:Int)] w' (aX (bF nb) w')):=by rw[r];exact HC x hx
  have a7:=xQ r;have bd:nb.length≤12:=by rw[r];exact Nat.le_trans (List.length_filter_le _ _) (by simp;omega)
  have ao:=xQ aa;have ap:=xQ ai;have z:=xQ e3;clear r aa ai e2 e3;have ar:(bF nb).length=nb.length:=by simp[bF]
  have c:=(HM.hi 2)
  obtain⟨b0,b1,b2⟩:=(HM.bk 2).cells3;go_wp2_with fail;clear b0 b1 b2;refine(ak _ HM.ext).mono ?_;rintro e w5 ⟨q5,c5,rfl,o5,a0⟩;rw[ar]at o5⊢;have M6:=(HM.call a0 o5)
  clear o5 a0 ak HM c;obtain⟨gN,rfl,bb,bc⟩:=M6.so 0;clear bb bc;go_wp2;go_loopw [11,69] (fun cc i wz=> ∃j:Nat,j≤J∧cc= .int .i64 (x:Int)∧i= .int .i64 (j:Int)∧Mem w wz [aJ w.heap.size TI 1 (some ⟨gN,0,none⟩) (nb.length) (c5) (ivs (bF nb)),aJ w.heap.size TI 1 (q) (l) (lc) (ivs (bF (pre++ [x]))),aJ w.heap.size TI 1 (some ⟨gF,0,none⟩) (n) (c2) (ivs (D)),aI w.heap.size (w.heap.size) TH3 #[aA,aB,.slice p n a]]) (fun _ i _=>J-(intOf i).toNat)
  case atStart=>exact⟨0,Nat.zero_le _,rfl,rfl,M6⟩
  case round=>
   clear M6;obtain⟨j,hj,rfl,rfl,hM⟩:=hrel;have HM:=hM;clear hM;obtain⟨v,hv⟩: ∃v,nb[j]? =some v:=⟨_,List.getElem?_eq_getElem (by omega)⟩
   have s:v<n:=(bQ.1 (by rw[←a7.out];exact List.mem_of_getElem? hv:v∈aS aA n x)).1;have ag:=xQ hv;have h:=(dD (D:=D) (v:=v) (by rw[HD.out];exact s)).1;have m:=(dD (D:=D) (v:=x) (by rw[HD.out];exact hx)).1;rw[ae v s]at h;rw[ae x hx]at m;obtain⟨dv,b⟩: ∃d,d=aW aA v 0:=⟨_,rfl⟩
   obtain⟨dx,g⟩: ∃d,d=aW aA x 0:=⟨_,rfl⟩
   have gv:=bT hg.out s;have gx:=af.out;rw[←b]at h gv;rw[←g]at m gx;have m1:(0:Int)≤(j:Int):=by omega
   have m2:(j:Int)<(nb.length:Int):=by omega
   have m3:(0:Int)≤(v:Int):=by omega
   have m4:(v:Int)<(n:Int):=by omega
   have m5:(0:Int)≤(x:Int):=by omega
   have m6:(x:Int)<(n:Int):=by omega
   have w7:IntKind.i64.wrap (dx-1)=dx-1:=IntWalk.i64_in _ (by omega);have cn:wr.cell? ⟨gN,j,none⟩=some (.int .i64 (v:Int)):=by have:=(HM.ow 0).cellAt j (by omega);rw[this];simp[ivs,bF,ag.out]
   have cf:wr.cell? ⟨gF,v,none⟩=some (.int .i64 dv):=by have:=(HM.ow 2).cellAt v (by omega);rw[this];simp only[ivs,List.getElem?_map,h,Option.map_some]
   have cx:wr.cell? ⟨gF,x,none⟩=some (.int .i64 dx):=by have:=(HM.ow 2).cellAt x (by omega);rw[this];simp only[ivs,List.getElem?_map,m,Option.map_some]
   by_cases hjJ:j<J
   ·have au:(dv==dx-1)=false:=by
     have:=ap.out j v hjJ ag.out;rw[←b,←g]at this;exact beq_eq_false_iff_ne.2 this
    clear h m b g gv gx;go_wp2;go_quiet (fail);go_wp2;go_roundw
    case rel=>exact⟨j+1,by omega,rfl,by go_num,HM.adv xE⟩
    case measure=>simp[intOf];omega
   obtain rfl:j=J:=by omega
   have be:v=y:=by have h1:=ag.out;rw[ao.out]at h1;injection h1 with h1;exact h1.symm
   subst be;have au:(dv==dx-1)=true:=by have:=z.out;rw[←b,←g]at this;simp[this]
   have aq:=xQ (show 1≤aW aA (x:Int) 0 by have h1:=(bT hg.out s).1;have h2:=z.out;omega);clear h m b gv;go_wp2;go_quiet (fail);generalize av:World.drewN _ _=wq;have M7:=(show Mem w wq [aJ w.heap.size TI 1 (q) (l) (lc) (ivs (bF (pre++ [x]))),aJ w.heap.size TI 1 (some ⟨gF,0,none⟩) (n) (c2) (ivs (D)),aI w.heap.size (w.heap.size) TH3 #[aA,aB,.slice p n a]]from by rw[←av];exact(HM.adv xE).pick [1,2,3] (by decide) rfl)
   clear av cn cf cx HM;go_wp2_with (at_builtin;go_loud (refine cE eV rfl _ _ rfl (M7.adv ((Ext.refl _).alloc (.cells #[(v:Int)] TI))) 0 rfl rfl (ivs [(v:Int)]) rfl (dJ _ _ _ 1 1 _ (by first|rfl|simp) (by first|rfl|simp) (by simp[maxLen])) (fun u hu=>by obtain rfl:=List.mem_singleton.1 hu;rfl) (by omega) ?_;intro q7 c7 w6 M8));have M9:=(show Mem w w6 [aJ w.heap.size TI 1 (q7) (l+1) (c7) (ivs (bF (pre++ [x]++ [v]))),aJ w.heap.size TI 1 (some ⟨gF,0,none⟩) (n) (c2) (ivs (D)),aI w.heap.size (w.heap.size) TH3 #[aA,aB,.slice p n a]]from by rw[show ivs (bF (pre++ [x]++ [v]))=ivs (bF (pre++ [x]))++ivs [(v:Int)] by simp[ivs,bF]];exact M8)
   clear M8 M7;have bh:0<f:=by have:=al.out;have:=aq.out;omega
   obtain⟨f',rfl⟩: ∃f',f=f'+1:=⟨f-1,by omega⟩
   have aj:Hid ((pre++ [x])++cX aA n f' v=cX aA n 12 u):=by
    show _=_;rw[←HW.out]
    conv=>rhs;rw[cX,if_neg bf.out,←HY.out]
    simp
   go_wp2;go_roundw
   case rel=>exact⟨v,f',pre++ [x],q7,l+1,c7,rfl,by go_num,s,by have:=z.out;have:=al.out;omega,aj.out,by have:=am.out;simp;omega,M9⟩
   case measure=>simp[intOf];have:=z.out;have:=aq.out;omega
theorem aL0 (aA aB:Int)(p:OA)(n a u:Nat)(xs:List Int)(w:World)(hS:Sl w p n a 1 (ivs xs))(b:aM aA aB xs=true)(hu:u<n):
  Calls Tryz.prog 187 #[aH aA aB p n a,(u:Int),(),(-1:Int)] w (aX (bF (cX aA n 12 u)) w):=by
 have hl:=hS.ilen;obtain⟨g1,g2,g3,g4,g5,g6,g7,g8,g9⟩:=bM b;have hg:=pC (n:=n) g1 g2 g3 g4 (by omega);refine aI9 aA aB p n a u w hg (by omega) (by omega) hu (fun w' hx=>by have:=fI aA aB p n a xs w' (hS.ext hx);rwa[b]at this) (fun k hk w'=> ?_) (fun w' hx=> ?_) (fun k hk w' hx=> ?_)
 ·have:=iI aA aB k p n a w' (by omega);rwa[decide_eq_true (⟨by omega,by omega⟩:0≤(k:Int)∧(k:Int)<n)]at this
 ·refine(aL1 aA aB p n a 0 (-1) xs w' (hS.ext hx) b (by omega)).mono ?_;rintro e w2 ⟨D,hD,hr⟩;exact⟨D,⟨hD.len,fun v hv=>wX hg (aBh aA n) hD hv⟩,hr⟩
 have:=aDh aA aB k p n a xs w' (hS.ext hx) b (by omega) (by omega);rwa[kH]at this
theorem aIp (aA aB c d A:Int)(p:OA)(n a:Nat)(w:World)(HV:xB 53 #[aH aA aB p n a] w true)(HF:Hid (∀w',Calls Tryz.prog 149 #[aH aA aB p n a,c] w' fun e w''=>e= .returned (.bool true)∧Ext w' w''))(HT:Hid (∀w',Calls Tryz.prog 149 #[aH aA aB p n a,d] w' fun e w''=>e= .returned (.bool true)∧Ext w' w''))
  (HA:Hid (∀w',Calls Tryz.prog 150 #[aA,c,d] w' fun e w''=>e= .returned (.int .i64 A)∧Ext w' w'')):
  Calls Tryz.prog 215 #[aH aA aB p n a,c,d] w fun e w'=>e= .returned (.int .i64 A)∧Ext w w':=by
 go_enter Tryz.func215,Tryz.ntmps215;go_wp2_with fail;refine(HV _ ((Mem.start w).c0 TH3 #[aA,aB,.slice p n a]).ext).mono ?_;rintro e w1 ⟨rfl,h⟩;have M1:=(((Mem.start w).c0 TH3 #[aA,aB,.slice p n a]).adv h)
 have b:=M1.hi 0;clear h;obtain⟨h0,h1,h2⟩:=(M1.bk 0).tri;go_wp2_with fail;clear h0 h1 h2;refine(HF _).mono ?_;rintro e w2 ⟨rfl,i⟩;have M2:=(M1.adv i)
 clear M1 b i;have f:=M2.hi 0;obtain⟨h0,h1,h2⟩:=(M2.bk 0).tri;go_wp2_with fail;clear h0 h1 h2;refine(HT _).mono ?_;rintro e w3 ⟨rfl,j⟩;have M3:=(M2.adv j)
 clear M2 f j;have g:=M3.hi 0;obtain⟨h0,h1,h2⟩:=(M3.bk 0).tri;go_wp2_with fail;clear h0 h1 h2;refine(HA _).mono ?_;rintro e w4 ⟨rfl,k⟩;have M4:=(M3.adv k)
 clear M3 g k;have l:=M4.hi 0;go_wp2;go_ret;exact⟨rfl,M4.ext⟩
theorem aFx (aA aB f t:Int)(p:OA)(n a:Nat)(w:World)(HV:xB 53 #[aH aA aB p n a] w true)(HF:Hid (∀w',Calls Tryz.prog 149 #[aH aA aB p n a,f] w' fun e w''=>e= .returned (.bool false)∧Ext w' w'')):
  Calls Tryz.prog 102 #[aH aA aB p n a,dQ f t] w fun e w'=>e= .returned (.bool false)∧Ext w w':=by
 go_enter Tryz.func102,Tryz.ntmps102;go_wp2_with fail;refine(HV _ (((Mem.start w).c0 TH3 #[aA,aB,.slice p n a]).c1 TSL #[f,t]).ext).mono ?_;rintro e w1 ⟨rfl,d⟩;have M1:=((((Mem.start w).c0 TH3 #[aA,aB,.slice p n a]).c1 TSL #[f,t]).adv d)
 have b:=M1.hi 0;have c:=M1.hi 1;clear d;obtain⟨h0,h1,h2⟩:=(M1.bk 1).tri;have s0:=(M1.bk 0).cl 0;have s1:=(M1.bk 0).cl 1;go_wp2_with fail;clear h0 h1 h2 s0 s1;refine(HF _).mono ?_;rintro e w2 ⟨rfl,g⟩;have M2:=(M1.adv g)
 clear M1 b c g;have h:=M2.hi 0;have i:=M2.hi 1;obtain⟨h0,h1,h2⟩:=(M2.bk 1).tri;have s0:=(M2.bk 0).cl 0;have s1:=(M2.bk 0).cl 1;go_wp2;go_ret;exact⟨rfl,M2.ext⟩
theorem aFw (aA aB f t:Int)(p:OA)(n a:Nat)(w:World)(HV:xB 53 #[aH aA aB p n a] w true)(HF:Hid (∀w',Calls Tryz.prog 149 #[aH aA aB p n a,f] w' fun e w''=>e= .returned (.bool true)∧Ext w' w''))(HT:Hid (∀w',Calls Tryz.prog 149 #[aH aA aB p n a,t] w' fun e w''=>e= .returned (.bool false)∧Ext w' w'')):
  Calls Tryz.prog 102 #[aH aA aB p n a,dQ f t] w fun e w'=>e= .returned (.bool false)∧Ext w w':=by
 go_enter Tryz.func102,Tryz.ntmps102;go_wp2_with fail;refine(HV _ (((Mem.start w).c0 TH3 #[aA,aB,.slice p n a]).c1 TSL #[f,t]).ext).mono ?_;rintro e w1 ⟨rfl,h⟩;have M1:=((((Mem.start w).c0 TH3 #[aA,aB,.slice p n a]).c1 TSL #[f,t]).adv h)
 have b:=M1.hi 0;have c:=M1.hi 1;clear h;obtain⟨h0,h1,h2⟩:=(M1.bk 1).tri;have s0:=(M1.bk 0).cl 0;have s1:=(M1.bk 0).cl 1;go_wp2_with fail;clear h0 h1 h2 s0 s1;refine(HF _).mono ?_;rintro e w2 ⟨rfl,i⟩;have M2:=(M1.adv i)
 clear M1 b c i;have d:=M2.hi 0;have g:=M2.hi 1;obtain⟨h0,h1,h2⟩:=(M2.bk 1).tri;have s0:=(M2.bk 0).cl 0;have s1:=(M2.bk 0).cl 1;go_wp2_with fail;clear h0 h1 h2 s0 s1;refine(HT _).mono ?_;rintro e w3 ⟨rfl,j⟩;have M3:=(M2.adv j)
 clear M2 d g j;have k:=M3.hi 0;have l:=M3.hi 1;obtain⟨h0,h1,h2⟩:=(M3.bk 1).tri;have s0:=(M3.bk 0).cl 0;have s1:=(M3.bk 0).cl 1;go_wp2;go_ret;exact⟨rfl,M3.ext⟩
theorem aFv (aA aB:Int)(b a n c i j:Nat)(x y:Int)(w:World)(hi:i<n)(hj:j<n)(hb:b<w.heap.size)(o:Hid (w.cell? ⟨b,a+i,none⟩=some (.int .i64 x)))(p:Hid (w.cell? ⟨b,a+j,none⟩=some (.int .i64 y)))(d1:(x !=0)=false)(HV:xB 53 #[aH aA aB (some ⟨b,a,none⟩) n c] w true)(HF:Hid (∀w',Calls Tryz.prog 149 #[aH aA aB (some ⟨b,a,none⟩) n c,(i:Int)] w' fun e w''=>e= .returned (.bool true)∧Ext w' w''))(HT:Hid (∀w',Calls Tryz.prog 149 #[aH aA aB (some ⟨b,a,none⟩) n c,(j:Int)] w' fun e w''=>e= .returned (.bool true)∧Ext w' w'')):
  Calls Tryz.prog 102 #[aH aA aB (some ⟨b,a,none⟩) n c,dQ (i:Int) (j:Int)] w fun e w'=>e= .returned (.bool false)∧Ext w w':=by
 have a1:(0:Int)≤(i:Int):=by omega
 have a2:(0:Int)≤(j:Int):=by omega
 have a3:(i:Int)<(n:Int):=by omega
 have a4:(j:Int)<(n:Int):=by omega
 go_enter Tryz.func102,Tryz.ntmps102;go_wp2_with fail;refine(HV _ (((Mem.start w).c0 TH3 #[aA,aB,.slice (some ⟨b,a,none⟩) n c]).c1 TSL #[(i:Int),(j:Int)]).ext).mono ?_;rintro e w1 ⟨rfl,k⟩;have M1:=((((Mem.start w).c0 TH3 #[aA,aB,.slice (some ⟨b,a,none⟩) n c]).c1 TSL #[(i:Int),(j:Int)]).adv k)
 have d:=M1.hi 0;have f:=M1.hi 1;clear k;obtain⟨h0,h1,h2⟩:=(M1.bk 1).tri;have s0:=(M1.bk 0).cl 0;have s1:=(M1.bk 0).cl 1;go_wp2_with fail;clear h0 h1 h2 s0 s1;refine(HF _).mono ?_;rintro e w2 ⟨rfl,l⟩;have M2:=(M1.adv l)
 clear M1 d f l;have g:=M2.hi 0;have h:=M2.hi 1;obtain⟨h0,h1,h2⟩:=(M2.bk 1).tri;have s0:=(M2.bk 0).cl 0;have s1:=(M2.bk 0).cl 1;go_wp2_with fail;clear h0 h1 h2 s0 s1;refine(HT _).mono ?_;rintro e w3 ⟨rfl,m⟩;have M3:=(M2.adv m)
 clear M2 g h m;have q:=M3.hi 0;have r:=M3.hi 1;obtain⟨h0,h1,h2⟩:=(M3.bk 1).tri;have s0:=(M3.bk 0).cl 0;have s1:=(M3.bk 0).cl 1;have g1:w3.cell? ⟨b,a+i,none⟩=some (.int .i64 x):=(M3.ext.cells.1 _ _ hb).trans o.out;have g2:w3.cell? ⟨b,a+j,none⟩=some (.int .i64 y):=(M3.ext.cells.1 _ _ hb).trans p.out;go_wp2;go_ret;exact⟨rfl,M3.ext⟩
theorem aFu (aA aB:Int)(b a n c i j:Nat)(x y:Int)(w:World)(hi:i<n)(hj:j<n)(hb:b<w.heap.size)(o:Hid (w.cell? ⟨b,a+i,none⟩=some (.int .i64 x)))(p:Hid (w.cell? ⟨b,a+j,none⟩=some (.int .i64 y)))(d1:(x !=0)=true)(d2:(y==0)=false)(HV:xB 53 #[aH aA aB (some ⟨b,a,none⟩) n c] w true)(HF:Hid (∀w',Calls Tryz.prog 149 #[aH aA aB (some ⟨b,a,none⟩) n c,(i:Int)] w' fun e w''=>e= .returned (.bool true)∧Ext w' w''))(HT:Hid (∀w',Calls Tryz.prog 149 #[aH aA aB (some ⟨b,a,none⟩) n c,(j:Int)] w' fun e w''=>e= .returned (.bool true)∧Ext w' w'')):
  Calls Tryz.prog 102 #[aH aA aB (some ⟨b,a,none⟩) n c,dQ (i:Int) (j:Int)] w fun e w'=>e= .returned (.bool false)∧Ext w w':=by
 have a1:(0:Int)≤(i:Int):=by omega
 have a2:(0:Int)≤(j:Int):=by omega
 have a3:(i:Int)<(n:Int):=by omega
 have a4:(j:Int)<(n:Int):=by omega
 go_enter Tryz.func102,Tryz.ntmps102;go_wp2_with fail;refine(HV _ (((Mem.start w).c0 TH3 #[aA,aB,.slice (some ⟨b,a,none⟩) n c]).c1 TSL #[(i:Int),(j:Int)]).ext).mono ?_;rintro e w1 ⟨rfl,k⟩;have M1:=((((Mem.start w).c0 TH3 #[aA,aB,.slice (some ⟨b,a,none⟩) n c]).c1 TSL #[(i:Int),(j:Int)]).adv k)
 have d:=M1.hi 0;have f:=M1.hi 1;clear k;obtain⟨h0,h1,h2⟩:=(M1.bk 1).tri;have s0:=(M1.bk 0).cl 0;have s1:=(M1.bk 0).cl 1;go_wp2_with fail;clear h0 h1 h2 s0 s1;refine(HF _).mono ?_;rintro e w2 ⟨rfl,l⟩;have M2:=(M1.adv l)
 clear M1 d f l;have g:=M2.hi 0;have h:=M2.hi 1;obtain⟨h0,h1,h2⟩:=(M2.bk 1).tri;have s0:=(M2.bk 0).cl 0;have s1:=(M2.bk 0).cl 1;go_wp2_with fail;clear h0 h1 h2 s0 s1;refine(HT _).mono ?_;rintro e w3 ⟨rfl,m⟩;have M3:=(M2.adv m)
 clear M2 g h m;have q:=M3.hi 0;have r:=M3.hi 1;obtain⟨h0,h1,h2⟩:=(M3.bk 1).tri;have s0:=(M3.bk 0).cl 0;have s1:=(M3.bk 0).cl 1;have g1:w3.cell? ⟨b,a+i,none⟩=some (.int .i64 x):=(M3.ext.cells.1 _ _ hb).trans o.out;have g2:w3.cell? ⟨b,a+j,none⟩=some (.int .i64 y):=(M3.ext.cells.1 _ _ hb).trans p.out;go_wp2;go_ret;exact⟨rfl,M3.ext⟩
theorem aId (aA aB:Int)(b a n c i j:Nat)(x y A:Int)(w:World)(hi:i<n)(hj:j<n)(hb:b<w.heap.size)(r:Hid (w.cell? ⟨b,a+i,none⟩=some (.int .i64 x)))(s:Hid (w.cell? ⟨b,a+j,none⟩=some (.int .i64 y)))(d1:(x !=0)=true)(d2:(y==0)=true)(HV:xB 53 #[aH aA aB (some ⟨b,a,none⟩) n c] w true)(HF:Hid (∀w',Calls Tryz.prog 149 #[aH aA aB (some ⟨b,a,none⟩) n c,(i:Int)] w' fun e w''=>e= .returned (.bool true)∧Ext w' w''))(HT:Hid (∀w',Calls Tryz.prog 149 #[aH aA aB (some ⟨b,a,none⟩) n c,(j:Int)] w' fun e w''=>e= .returned (.bool true)∧Ext w' w''))(HA:Hid (∀w',Calls Tryz.prog 150 #[aA,(i:Int),(j:Int)] w' fun e w''=>e= .returned (.int .i64 A)∧Ext w' w'')):
  Calls Tryz.prog 102 #[aH aA aB (some ⟨b,a,none⟩) n c,dQ (i:Int) (j:Int)] w fun e w'=>e= .returned (.bool (A==1))∧Ext w w':=by
 have a1:(0:Int)≤(i:Int):=by omega
 have a2:(0:Int)≤(j:Int):=by omega
 have a3:(i:Int)<(n:Int):=by omega
 have a4:(j:Int)<(n:Int):=by omega
 go_enter Tryz.func102,Tryz.ntmps102;go_wp2_with fail;refine(HV _ (((Mem.start w).c0 TH3 #[aA,aB,.slice (some ⟨b,a,none⟩) n c]).c1 TSL #[(i:Int),(j:Int)]).ext).mono ?_;rintro e w1 ⟨rfl,m⟩;have M1:=((((Mem.start w).c0 TH3 #[aA,aB,.slice (some ⟨b,a,none⟩) n c]).c1 TSL #[(i:Int),(j:Int)]).adv m)
 have d:=M1.hi 0;have f:=M1.hi 1;clear m;obtain⟨h0,h1,h2⟩:=(M1.bk 1).tri;have s0:=(M1.bk 0).cl 0;have s1:=(M1.bk 0).cl 1;go_wp2_with fail;clear h0 h1 h2 s0 s1;refine(HF _).mono ?_;rintro e w2 ⟨rfl,o⟩;have M2:=(M1.adv o)
 clear M1 d f o;have g:=M2.hi 0;have h:=M2.hi 1;obtain⟨h0,h1,h2⟩:=(M2.bk 1).tri;have s0:=(M2.bk 0).cl 0;have s1:=(M2.bk 0).cl 1;go_wp2_with fail;clear h0 h1 h2 s0 s1;refine(HT _).mono ?_;rintro e w3 ⟨rfl,p⟩;have M3:=(M2.adv p)
 clear M2 g h p;have k:=M3.hi 0;have l:=M3.hi 1;obtain⟨h0,h1,h2⟩:=(M3.bk 1).tri;have s0:=(M3.bk 0).cl 0;have s1:=(M3.bk 0).cl 1;have g1:w3.cell? ⟨b,a+i,none⟩=some (.int .i64 x):=(M3.ext.cells.1 _ _ hb).trans r.out;have g2:w3.cell? ⟨b,a+j,none⟩=some (.int .i64 y):=(M3.ext.cells.1 _ _ hb).trans s.out;go_wp2_with fail;clear h0 h1 h2 s0 s1 g1 g2;refine(HA _).mono ?_;rintro e w4 ⟨rfl,q⟩;have M4:=(M3.adv q)
 clear M3 k l q;have t:=M4.hi 0;have u:=M4.hi 1;go_wp2;go_ret;exact⟨rfl,M4.ext⟩
theorem aL9 (aA aB:Int)(c d:Nat)(p:OA)(n a:Nat)(xs:List Int)(w:World)(hS:Sl w p n a 1 (ivs xs))(b:aM aA aB xs=true)(hc:c<n)(hd:d<n):
  Calls Tryz.prog 215 #[aH aA aB p n a,(c:Int),(d:Int)] w fun e w'=>e= .returned (.int .i64 (aW aA c d))∧Ext w w':=by
 have hl:=hS.ilen;obtain⟨g1,g2,g3,g4,g5,g6,g7,g8,g9⟩:=bM b;have HH: ∀(k:Nat),k<n→ ∀w',Calls Tryz.prog 149 #[aH aA aB p n a,(k:Int)] w' fun e w''=>e= .returned (.bool true)∧Ext w' w'':=fun k hk w'=>by have:=iI aA aB k p n a w' (by omega);rwa[decide_eq_true (⟨by omega,by omega⟩:0≤(k:Int)∧(k:Int)<n)]at this
 exact aIp aA aB c d _ p n a w (fun w' hx=>by have:=fI aA aB p n a xs w' (hS.ext hx);rwa[b]at this) (HH c hc) (HH d hd) (fun w'=>lI aA c d w' (by omega) (by omega) (by omega) (by omega) (by omega) (by omega))
theorem aL2 (aA aB f t:Int)(p:OA)(n a:Nat)(xs:List Int)(w:World)(hS:Sl w p n a 1 (ivs xs))(g:aM aA aB xs=true):
  Calls Tryz.prog 102 #[aH aA aB p n a,dQ f t] w fun e w'=>e= .returned (.bool (bB aA aB xs f t))∧Ext w w':=by
 have hl:=hS.ilen;obtain⟨g1,g2,g3,g4,g5,g6,g7,g8,g9⟩:=bM g;have HV: ∀w',Ext w w'→Calls Tryz.prog 53 #[aH aA aB p n a] w' fun e w''=>e= .returned (.bool true)∧Ext w' w'':=fun w' hx=>by have:=fI aA aB p n a xs w' (hS.ext hx);rwa[g]at this
 have HH: ∀(c:Int) w',Calls Tryz.prog 149 #[aH aA aB p n a,c] w' fun e w''=>e= .returned (.bool (decide (0≤c∧c<n)))∧Ext w' w'':=fun c w'=>iI aA aB c p n a w' (by omega)
 by_cases hf:0≤f∧f<n
 ·have HF:=HH f;rw[decide_eq_true hf]at HF;by_cases ht:0≤t∧t<n
  ·have HT:=HH t;rw[decide_eq_true ht]at HT;obtain⟨i,rfl⟩: ∃i:Nat,f=(i:Int):=⟨f.toNat,by omega⟩
   obtain⟨j,rfl⟩: ∃j:Nat,t=(j:Int):=⟨t.toNat,by omega⟩
   have hi:i<n:=by omega
   have hj:j<n:=by omega
   obtain⟨b,d,rfl,hb,m⟩:=hS.rd (by omega);have o:xs[i]? =some (xs.getD i 0):=by rw[List.getD_eq_getElem?_getD,List.getElem?_eq_getElem (by omega)];rfl
   have q:xs[j]? =some (xs.getD j 0):=by rw[List.getD_eq_getElem?_getD,List.getElem?_eq_getElem (by omega)];rfl
   have k:w.cell? ⟨b,d+i,none⟩=some (.int .i64 (xs.getD i 0)):=by rw[m i (by omega)];simp only[ivs,List.getElem?_map,o,Option.map_some]
   have l:w.cell? ⟨b,d+j,none⟩=some (.int .i64 (xs.getD j 0)):=by rw[m j (by omega)];simp only[ivs,List.getElem?_map,q,Option.map_some]
   have s:0≤xs.getD i 0:=nK g i;have r:dE aA aB xs (i:Int) (j:Int)=aW aA i j:=by unfold dE;rw[if_pos ⟨g,⟨by omega,by omega⟩,by omega,by omega⟩]
   unfold bB;rw[r,Int.toNat_natCast,Int.toNat_natCast];clear o q;generalize xs.getD i 0=x at*;generalize xs.getD j 0=y at*;by_cases hx0:x=0
   ·subst hx0;rw[show(decide (aW aA (i:Int) j=1)&&decide (0<(0:Int))&&decide (y=0))=false by simp];exact aFv aA aB b d n a i j _ _ w hi hj hb k l (by simp) HV HF HT
   have d1:(x !=0)=true:=by simp[hx0]
   by_cases hy0:y=0
   ·subst hy0;rw[show(decide (aW aA (i:Int) j=1)&&decide (0<x)&&decide ((0:Int)=0))=(aW aA (i:Int) j==1) by rw[decide_eq_true (show 0<x by omega)];by_cases ha:aW aA (i:Int) j=1<;>simp[ha]];exact aId aA aB b d n a i j _ _ _ w hi hj hb k l d1 (by simp) HV HF HT (fun w'=>lI aA i j w' (by omega) (by omega) (by omega) (by omega) (by omega) (by omega))
   rw[show(decide (aW aA (i:Int) j=1)&&decide (0<x)&&decide (y=0))=false by simp[hy0]];exact aFu aA aB b d n a i j _ _ w hi hj hb k l d1 (by simp[hy0]) HV HF HT
  have HT:=HH t;rw[decide_eq_false ht]at HT
  rw[show bB aA aB xs f t=false by
   cases h:bB aA aB xs f t with
   |false=>rfl
   |true=>
    unfold bB at h;simp only[Bool.and_eq_true,decide_eq_true_eq]at h
    have:=iT h.1.1;omega]
  exact aFw aA aB f t p n a w HV HF HT
 have HF:=HH f;rw[decide_eq_false hf]at HF
 rw[show bB aA aB xs f t=false by
  cases h:bB aA aB xs f t with
  |false=>rfl
  |true=>
   unfold bB at h;simp only[Bool.and_eq_true,decide_eq_true_eq]at h
   have:=iT h.1.1;omega]
 exact aFx aA aB f t p n a w HV HF
end Go.Proofs.YtpelpnfhbepokaaGreatDoor
