/-
  Texts of this proof, packed (@packed).
-/
import Derived.Test.YthfmmibomhhmpaaGreatDoorY28
namespace Go.Proofs.YthfmmibomhhmpaaGreatDoor
open Go.RowKit Go.Proofs.Tryz
set_option linter.unusedSimpArgs false
set_option linter.unusedVariables false
set_option maxHeartbeats 8000000
set_option maxRecDepth 100000
theorem aJl {k n:Nat}(h:k<n):(List.replicate k (-1:Int)++List.replicate (n-k) 0).set k (-1)=List.replicate (k+1) (-1)++List.replicate (n-(k+1)) 0:=by
 have e:n-k=(n-(k+1))+1:=by omega
 rw[e,aV9,aVj _ _ (by simp),List.replicate_succ',aTx];simp
theorem aOq (aA aB:Int)(p:OA)(n a src:Nat)(b:Int)(w:World)(bx:4≤n)(hn:n≤12)(hs:src<n)
  (HC:Hid (∀(k:Nat),k<n→ ∀w',Ext w w'→U 197 #[aH aA aB p n a,k] w' (bC (bK (aU aA n k)) w'))):
  U 196 #[aH aA aB p n a,src,b] w fun e w'=> ∃D,uP (sD aA n b) [src] n D∧bC D w e w':=by
 obtain⟨AR,af⟩: ∃AR:Array Value,AR=madeCells #[()] n:=⟨_,rfl⟩
 have bj: ∀w:World,(Instr.makeSlice 23 (I n) (I n)).run prog w= .ok (.slice (some ⟨w,0,none⟩) n n) (w.alloc (.cells AR TI)):=fun w=>by rw[af];exact run_make_row' _ _ (I 0) 8 underlying23 (by kernel_rfl) rfl .i64 .i64 n (by omega) (by omega) w
 have aw:Hid (AR.toList=ivs (List.replicate 0 (-1)++List.replicate (n-0) 0)):=by show _=_;rw[af,(pC n).1];simp
 have ax:Hid (AR.size=n):=by show _=_;rw[af];exact(pC n).2
 clear af;go_enter func196,ntmps196;go_wp2;have ME:=xQ (show Mem w ((w.alloc (.cells #[aA,aB,.slice p n a] TH3)).alloc (.cells AR TI)) [aJ w TI 1 (some ⟨w.heap.size+1,0,none⟩) (n) (n) (ivs (List.replicate 0 (-1)++List.replicate (n-0) 0)),aI w w TH3 #[aA,aB,.slice p n a]]from by rw[←aw.out];exact((Mem.start w).c0 TH3 #[aA,aB,.slice p n a]).lit TI 1 n _ AR (by simp) (by rw[ax.out];omega) (by simp[maxLen];omega));clear aw ax bj;go_loopw [19] (fun i wr=> ∃(k:Nat),k≤n∧i=I k∧Mem w wr [aJ w TI 1 (some ⟨w.heap.size+1,0,none⟩) (n) (n) (ivs (List.replicate k (-1)++List.replicate (n-k) 0)),aI w w TH3 #[aA,aB,.slice p n a]]) (fun i _=>n-(intOf i).toNat)
 case atStart=>exact⟨0,aTd _,rfl,ME.out⟩
 case round=>
  clear ME;obtain⟨k,hk,rfl,hM⟩:=hrel;have HM:=xQ hM;clear hM;by_cases hlt:k<n
  ·have i1:=aVt k;have i2:=aVu k n;have hl:(List.replicate k (-1:Int)++List.replicate (n-k) 0)[k]? =some 0:=by
    rw[aTy (by simp)];simp[aV1];omega
   have ba:wr.cell? ⟨w.heap.size+1,k,none⟩=some (I 0):=by have:=(HM.out.ow 0).cellAt k (by omega);rw[this];simp only[ivs,aTo,hl,aU4]
   have bb:wr.frozen? ⟨w.heap.size+1,k,none⟩=false:=(HM.out.ow 0).frozenAt k;clear hl;have M2:=xQ (HM.out.ostore (i:=0) rfl k (I (-1)));go_wp2;go_roundw
   case rel=>exact⟨k+1,by omega,by go_num,by have:=M2.out;rw[eL,aJl hlt]at this;exact this⟩
   case measure=>simp[intOf];omega
  obtain rfl:n=k:=by omega
  rw[aV0,show List.replicate n (-1:Int)++List.replicate 0 0=List.replicate n (-1) by simp]at HM;have i1:=aVt src;have i2:=aVu src n;have ba:wr.cell? ⟨w.heap.size+1,src,none⟩=some (I (-1)):=by have:=(HM.out.ow 0).cellAt src (by omega);rw[this];simp[ivs,hs]
  have bb:wr.frozen? ⟨w.heap.size+1,src,none⟩=false:=(HM.out.ow 0).frozenAt src;have M2:=xQ (HM.out.ostore (i:=0) rfl src (I 0));rw[show Hid (Mem w (wr.setCell ⟨w.heap.size+1,src,none⟩ (I 0)) (List.set [aJ w TI 1 (some ⟨w.heap.size+1,0,none⟩) (n) (n) (ivs (List.replicate n (-1))),aI w w TH3 #[aA,aB,.slice p n a]] 0 (aJ w TI 1 (some ⟨w.heap.size+1,0,none⟩) n n (List.set (ivs (List.replicate n (-1))) src (I 0)))))=Hid (Mem w (wr.setCell ⟨w.heap.size+1,src,none⟩ (I 0)) [aJ w TI 1 (some ⟨w.heap.size+1,0,none⟩) (n) (n) (ivs ((List.replicate n (-1)).set src 0)),aI w w TH3 #[aA,aB,.slice p n a]]) by rw[eL];rfl]at M2;go_upto_region 8 with fail;clear ba bb HM;generalize a8:World.setCell _ _ _=w1;rw[a8]at M2;clear a8;have I1:=xQ (Inv.one (adj:=sD aA n b) hs);have M3:=xQ (M2.out.lit TI 1 1 w1 #[src] rfl rfl (by simp[maxLen]));clear M2;go_wp2;go_loopw [9,10] (fun v i wr=> ∃(k:Nat) (q:OA) (l lc:Nat) (D:List Int) (Q:List Nat),k≤l∧i=I k∧v= .slice q l lc∧l=Q.length∧(∀x∈D,-1≤x∧x≤k)∧Inv (sD aA n b) [src] n k (D,Q)∧Mem w wr [aJ w TI 1 (q) (l) (lc) (ivs (bK Q)),aJ w TI 1 (some ⟨w.heap.size+1,0,none⟩) (n) (n) (ivs (D)),aI w w TH3 #[aA,aB,.slice p n a]]) (fun _ i _=>n-(intOf i).toNat)
  case atStart=>exact⟨0,some ⟨w1,0,none⟩,1,1,_,[src],aTd _,rfl,rfl,rfl,aO4 _ _,I1.out,M3.out⟩
  case round=>
   clear M3 I1;obtain⟨k,q,l,lc,D,Q,hk,rfl,rfl,ap,a2,ad,hM⟩:=hrel;have HM:=xQ hM;have HI:=xQ ad;have y:=xQ ap;have bz:l≤n:=by rw[ap];exact ad.qlen
   have au:=xQ a2;clear hM ad ap a2;by_cases hlt2:k<l
   ·obtain⟨u,hu⟩: ∃u,Q[k]? =some u:=⟨_,aT6 (by rw[←y.out];exact hlt2)⟩
    have bm:u<n:=HI.out.bd u (aT7 hu);have HU:=xQ hu;clear hu;obtain⟨gL,rfl,a0,al⟩:=HM.out.so 0;have i3:=aVt k;have i4:=aVu k l;have cu:wr.cell? ⟨gL,k,none⟩=some (I u):=by have:=(HM.out.ow 0).cellAt k (by omega);rw[this];simp[ivs,bK,HU.out]
    obtain⟨nb,ag⟩: ∃nb,nb=aU aA n u:=⟨_,rfl⟩
    have ak:=xQ ag;have av:Hid (∀w',Ext w w'→U 197 #[aH aA aB p n a,u] w' (bC (bK nb) w')):=by rw[ag];exact HC u bm
    have bl:nb.length≤n:=by rw[ag];exact aTg (aUb _ _) (by simp)
    clear ag;have a6:(bK nb).length=nb.length:=by simp[bK]
    go_wp2;refine rL (gl [gEq (.agg #[aA,aB,.slice p n a]),gEq (.slice (some ⟨gL,0,none⟩) l lc),gEq (k:Int),gEq (.pointer (some ⟨gL,k,none⟩)),gEq (u:Int),(fun v w'=> ∃q c,v= .slice q nb c∧w'.ownsRow wr TI 1 (.slice q nb c) nb.length (ivs (bK nb))),gEq (nb.length:Int),gEq (I 0)]) 8 8 [(0,some 37),(1,some 38),(2,some 39),(3,some 40),(4,some 41),(5,some 42),(6,some 43),(7,some 44)] ?steps ?fin (hG:=(kK (aX (bB _) (aX (bB _) (aX (bB _) (aX (bB _) (aX (bB _) (aX (fun v w w' ⟨q,c,he,ho⟩ hx=>⟨q,c,he,aW ho hx⟩) (aX (bB _) (aX (bB _) (mU)))))))))))
    case steps=>
     refine sC [] rfl (fun wi hx=> ?_) ?_
     ·intro K hK;have hX:Ext wr wi:=xE;obtain⟨bh,bs,bt⟩:=((HM.out.bk 2).ext hX).tri;go_simp;exact hK _ _ ⟨.agg #[aA,aB,.slice p n a],rfl,rfl,Ext.refl _⟩
     refine sS0 [] (sS0 [] (sS2 [(1,some 38),(2,some 39)] ?_));refine sC [(3,some 40)] rfl (fun wi hx=> ?_) ?_
     ·intro v3 h3 K hK;obtain rfl:=h3;have hX:Ext wr wi:=xE;have bh:wi.cell? ⟨gL,k,none⟩=some (I u):=(hX.cells.1 _ _ al).trans cu;go_simp;exact hK _ _ ⟨I u,rfl,rfl,Ext.refl _⟩
     refine sC [(0,some 37),(4,some 41)] rfl (fun wi hx=> ?_) ?_
     ·intro v0 h0 v4 h4 K hK;subst h0 h4;go_wp2_with fail;refine(av _ (HM.out.ext.trans hx.of_drew)).mono ?_;rintro e w5 ⟨q5,c5,rfl,o5,bp⟩;rw[a6]at o5⊢;go_simp;exact hK _ _ ⟨.slice q5 nb c5,rfl,⟨q5,c5,rfl,bM o5 (by have:=hx.sz;simpa using this)⟩,bp⟩
     refine sC [(5,some 42)] rfl (fun wi hx=> ?_) ?_
     ·intro v5 h5 K hK;obtain⟨q5,c5,rfl,aq⟩:=h5;go_simp;exact hK _ _ ⟨I nb.length,rfl,rfl,Ext.refl _⟩
     exact sS0 [] StepsL.nil
    case fin=>
     intro wi hx v0 h0 v1 h1 v2 h2 v3 h3 v4 h4 v5 h5 v6 h6 v7 h7;subst h0 h1 h2 h3 h4;obtain⟨q5,c5,rfl,aq⟩:=h5;subst h6 h7;have M5:=xQ (show Mem w wi [aJ w TI 1 (q5) (nb.length) (c5) (ivs (bK nb)),aJ w TI 1 (some ⟨gL,0,none⟩) (l) (lc) (ivs (bK Q)),aJ w TI 1 (some ⟨w.heap.size+1,0,none⟩) (n) (n) (ivs (D)),aI w w TH3 #[aA,aB,.slice p n a]]from HM.out.ownNew hx.of_drew aq (aT5 _));clear aq hx cu HM av i3 i4 a0 al;refine wpAny_done (by kernel_rfl) ?_ _;try go_frame
     go_wp2;go_loopw [9,44] (fun v i wr=> ∃(j:Nat) (q:OA) (l2 lc:Nat) (D2:List Int) (Q2:List Nat),j≤nb.length∧i=I j∧v= .slice q l2 lc∧l2=Q2.length∧(D2,Q2)=bS (D.getD u 0+1) (D,Q) ((nb.take j).filter (fun(v:Nat)=>decide ((v:Int)≠b)))∧(∀x∈D2,-1≤x∧x≤(k:Int)+1)∧Mem w wr [aJ w TI 1 (q5) (nb.length) (c5) (ivs (bK nb)),aJ w TI 1 (q) (l2) (lc) (ivs (bK Q2)),aJ w TI 1 (some ⟨w.heap.size+1,0,none⟩) (n) (n) (ivs (D2)),aI w w TH3 #[aA,aB,.slice p n a]]) (fun _ i _=>nb.length-(intOf i).toNat)
     case atStart=>exact⟨0,some ⟨gL,0,none⟩,l,lc,D,Q,aTd _,rfl,rfl,y.out,by simp[bS],fun x hx=>by have:=au x hx;omega,M5.out⟩
     case round=>
      clear M5;obtain⟨j,q,l2,lc,D2,Q2,hj,rfl,rfl,aj,an,z,hM⟩:=hrel;have a7:u∈Q:=aT7 HU.out;have f:Mid (sD aA n b) [src] n k u ((nb.take j).filter (fun(v:Nat)=>decide ((v:Int)≠b))) (D,Q) (D2,Q2):=by
       rw[an]
       have:=Mid.many a7 ((nb.take j).filter (fun(v:Nat)=>decide ((v:Int)≠b))) [] (D,Q) (HI.out.mid HU.out) (fun v hv=>by
        have h1:=aTs.1 hv;have h2:v∈aU aA n u:=by rw[←ak.out];exact aUl h1.1
        exact⟨aTs.2 ⟨h2,h1.2⟩,(bZ.1 h2).1⟩)
       simpa using this
      have ay:D2.length=n:=f.len;have bw:Q2.length≤n:=qJ f.nodup f.bd;have ar:D2.getD u 0=D.getD u 0:=f.same u a7;obtain⟨r,hr⟩:=f.pre;dsimp only at hr;have bi:k<Q2.length:=by rw[hr,aTc];have:=y.out;omega
      have a1:Q2[k]? =some u:=by have:=y.out;rw[hr,aTr (by omega)];exact HU.out
      have g:=dR (D:=D2) (v:=u) (by omega);have a4: -1≤D2.getD u 0:=(z _ g.2).1;have a5:D2.getD u 0≤(k:Int):=by rw[ar];exact(au _ (dR (D:=D) (v:=u) (by have:=HI.out.len;dsimp only at this;omega)).2).2
      have HM:=xQ hM;have ae:=xQ an;have o:=xQ z;have s:=xQ aj;have bf:=xQ a1;have bc:=xQ g.1;have bg:=xQ ar;have br:l2≤n:=by omega
      have bq:k<l2:=by omega
      have az:=xQ ay;clear hM an z aj a1 g ar hr f ay bi;by_cases hlt3:j<nb.length
      ·obtain⟨v,hv⟩: ∃v,nb[j]? =some v:=⟨_,aT6 hlt3⟩
       have bo:v<n:=(bZ.1 (by rw[←ak.out];exact aT7 hv:v∈aU aA n u)).1;have HV:=xQ hv;clear hv;obtain⟨gN,rfl,bu,bv⟩:=HM.out.so 0;obtain⟨gL,rfl,a0,al⟩:=HM.out.so 1;obtain⟨dv,am⟩: ∃d,d=D2.getD v 0:=⟨_,rfl⟩
       obtain⟨du,g⟩: ∃d,d=D2.getD u 0:=⟨_,rfl⟩
       have aa:=dR (D:=D2) (v:=v) (by rw[az.out];exact bo);rw[←am]at aa;have be:=xQ aa.1;have ai:=xQ am;have ah:=xQ g;rw[←g]at a4 a5;clear am g aa;have m1:=aVt j;have m2:(j:Int)<(nb.length:Int):=by omega
       have m3:=aVt v;have m4:=aVu v n;have m5:=aVt u;have m6:=aVu u n;have m7:=aVt k;have m8:=aVu k l2;have cn:wr.cell? ⟨gN,j,none⟩=some (I v):=by have:=(HM.out.ow 0).cellAt j (by omega);rw[this];simp[ivs,bK,HV.out]
       have cf:wr.cell? ⟨w.heap.size+1,v,none⟩=some (I dv):=by have:=(HM.out.ow 2).cellAt v (by omega);rw[this];simp only[ivs,aTo,be.out,aU4]
       by_cases hvb:(v:Int)=b
       ·have t1:((v:Int)!=b)=false:=by simp[hvb]
        have t:=xQ (aJy HV hvb);clear hvb;go_wp2;go_roundw
        case rel=>exact⟨j+1,some ⟨gL,0,none⟩,l2,lc,D2,Q2,by omega,by go_num,rfl,s.out,by rw[t.out];exact ae.out,o.out,HM.out⟩
        case measure=>simp[intOf];omega
       have t1:((v:Int)!=b)=true:=by simp[hvb]
       have t:=xQ (aGa HV hvb);clear hvb;by_cases hd0:dv<0
       ·have t2:decide (dv<0)=true:=by simp[hd0]
        have m:Hid ((D2.set v (du+1),Q2++ [v])=bS (D.getD u 0+1) (D,Q) ((nb.take (j+1)).filter (fun(v:Nat)=>decide ((v:Int)≠b)))):=by show _=_;rw[t.out,eG,←ae.out,mH (by rw[←ai.out];exact hd0),ah.out,bg.out]
        have cl:wr.cell? ⟨gL,k,none⟩=some (I u):=by have:=(HM.out.ow 1).cellAt k (by omega);rw[this];simp[ivs,bK,bf.out]
        have cd:wr.cell? ⟨w.heap.size+1,u,none⟩=some (I du):=by have:=(HM.out.ow 2).cellAt u (by omega);rw[this,ah.out];simp only[ivs,aTo,bc.out,aU4]
        have ff:wr.frozen? ⟨w.heap.size+1,v,none⟩=false:=(HM.out.ow 2).frozenAt v;have b0:=aVw (du+1);have M6:=xQ (show Mem w (wr.setCell ⟨w.heap.size+1,v,none⟩ (I (du+1))) [aJ w TI 1 (some ⟨gN,0,none⟩) (nb.length) (c5) (ivs (bK nb)),aJ w TI 1 (some ⟨gL,0,none⟩) (l2) (lc) (ivs (bK Q2)),aJ w TI 1 (some ⟨w.heap.size+1,0,none⟩) (n) (n) (ivs (D2.set v (du+1))),aI w w TH3 #[aA,aB,.slice p n a]]from by rw[←eL];exact HM.out.ostore (i:=2) rfl v (I (du+1)));have a3:Hid (∀x∈D2.set v (du+1),-1≤x∧x≤(k:Int)+1):=by
         show∀_,_;intro x hx;rcases aU9 hx with h|h
         ·exact o x h
         omega
        clear hd0;go_upto_region 17 with fail;clear cl cd ff cn cf HM;generalize a9:World.setCell _ _ _=w4;rw[a9]at M6;clear a9;go_wp2_with (at_builtin;go_loud (refine cJ fY rfl _ _ rfl (M6.out.adv ((Ext.refl _).alloc (.cells #[v] TI))) 1 rfl rfl (ivs [(v:Int)]) rfl (eD _ _ _ 1 1 _ (by first|rfl|simp) (by first|rfl|simp) (by simp[maxLen])) (fun u hu=>by obtain rfl:=aTp.1 hu;rfl) (by omega) ?_;intro q7 c7 w6 M7));have M8:=xQ (show Mem w w6 [aJ w TI 1 (some ⟨gN,0,none⟩) (nb.length) (c5) (ivs (bK nb)),aJ w TI 1 (q7) (l2+1) (c7) (ivs (bK (Q2++ [v]))),aJ w TI 1 (some ⟨w.heap.size+1,0,none⟩) (n) (n) (ivs (D2.set v (du+1))),aI w w TH3 #[aA,aB,.slice p n a]]from by rw[show ivs (bK (Q2++ [v]))=ivs (bK Q2)++ivs [(v:Int)] by simp[ivs,bK]];exact M7);clear M7 M6;go_wp2;go_roundw
        case rel=>exact⟨j+1,q7,l2+1,c7,D2.set v (du+1),Q2++ [v],by omega,by go_num,rfl,by simp[s.out],m.out,a3.out,M8.out⟩
        case measure=>simp[intOf];omega
       have t2:decide (dv<0)=false:=by simp;omega
       have m:Hid ((D2,Q2)=bS (D.getD u 0+1) (D,Q) ((nb.take (j+1)).filter (fun(v:Nat)=>decide ((v:Int)≠b)))):=by show _=_;rw[t.out,eG,←ae.out,oB (by rw[←ai.out];exact hd0)]
       clear hd0;go_wp2;go_roundw
       case rel=>exact⟨j+1,some ⟨gL,0,none⟩,l2,lc,D2,Q2,by omega,by go_num,rfl,s.out,m.out,o.out,HM.out⟩
       case measure=>simp[intOf];omega
      obtain rfl:nb.length=j:=by omega
      have ao:Hid (Inv (sD aA n b) [src] n (k+1) (D2,Q2)):=by show Inv _ _ _ _ _;have h1:=HI.out.step HU (fun v hv=>aKa hv);have h2:=ae.out;rw[aUv,ak.out]at h2;rw[h2];exact h1
      have M9:=xQ (show Mem w wr [aJ w TI 1 (q) (l2) (lc) (ivs (bK Q2)),aJ w TI 1 (some ⟨w.heap.size+1,0,none⟩) (n) (n) (ivs (D2)),aI w w TH3 #[aA,aB,.slice p n a]]from HM.out.pick [1,2,3] (by decide) rfl);clear HM;go_wp2;go_roundw
      case rel=>exact⟨k+1,q,l2,lc,D2,Q2,by omega,by go_num,rfl,s.out,fun x hx=>by have:=o x hx;omega,ao.out,M9.out⟩
      case measure=>simp[intOf];omega
   have ab:=xQ (HI.out.dist (by have:=y.out;dsimp only;omega));go_wp2;go_ret;exact⟨D,ab.out,some ⟨w.heap.size+1,0,none⟩,n,by rw[ab.out.len];rfl,by rw[ab.out.len];exact HM.out.ow 1,HM.out.ext⟩
theorem aS5 (aA aB:Int)(p:OA)(n a src:Nat)(b:Int)(xs:List Int)(w:World)(hS:Sl w p n a 1 (ivs xs))(c:aN aA aB xs=true)(hs:src<n):
  U 196 #[aH aA aB p n a,src,b] w fun e w'=> ∃D,uP (sD aA n b) [src] n D∧bC D w e w':=by
 have hl:=hS.ilen;obtain⟨g1,g2,g3,g4,g5,g6,g7,g8,g9⟩:=bN c
 exact aOq aA aB p n a src b w (by omega) (by omega) hs (fun k hk w' hx=>by
  have:=aIy aA aB k p n a xs w' (hS.ext hx) c (by omega) (by omega)
  rwa[mM]at this)
theorem aOn (aA aB:Int)(p:OA)(n a u:Nat)(w:World)(hg:Hid ((aA,n)∈jW))(bh:4≤n)(hn:n≤12)(hu:u<n)
  (HV:xB 42 #[aH aA aB p n a] w true)
  (HH:Hid (∀(k:Nat),k<n→ ∀w',U 138 #[aH aA aB p n a,k] w' (O (.bool true) w')))
  (HF:xC 196 #[aH aA aB p n a,(),(-1:Int)] w fun w' e w''=> ∃D,(D.length=n∧ ∀v,v<n→D.getD v 0=aZ aA v 0)∧bC D w' e w'')
  (HC:Hid (∀(k:Nat),k<n→ ∀w',Ext w w'→U 197 #[aH aA aB p n a,k] w' (bC (bK (aU aA n k)) w'))):
  U 169 #[aH aA aB p n a,u,(),(-1:Int)] w (bC (bK (dK aA n 12 u)) w):=by
 have a1:=aVt u;have a2:=aVu u n;have a3:((-1:Int)==(u:Int))=false:=by first|(simp;done)|(simp;omega)
 have a4:decide ((n:Int)≤ -1)=false:=by first|(simp;done)|(simp;omega)
 have a0:Hid (∀w',U 138 #[aH aA aB p n a,()] w' (O (.bool true) w')):=HH.out 0 (by omega);have aa:=xQ (cA hg.out hu);go_enter func169,ntmps169;go_wp2_with fail;have M0:=((Mem.start w).c0 TH3 #[aA,aB,.slice p n a])
 refine Z (HV _ M0.ext) fun w1 av=>?_
 have M1:=(M0.adv av)
 obtain⟨b0,b1,b2⟩:=(M1.bk 0).cells3;clear av M0;go_wp2_with fail;refine Z (HH u hu _) fun w2 aw=>?_
 have M2:=(M1.adv aw)
 clear b0 b1 b2 aw M1;obtain⟨b0,b1,b2⟩:=(M2.bk 0).cells3;go_wp2_with fail;refine Z (a0 _) fun w3 ax=>?_
 have M3:=(M2.adv ax)
 clear b0 b1 b2 ax M2;obtain⟨b0,b1,b2⟩:=(M3.bk 0).cells3;go_wp2_with fail;refine(HF _ M3.ext).mono ?_;rintro e w4 ⟨D,⟨ag,am⟩,q2,c2,rfl,o4,ay⟩;rw[ag]at o4⊢;have HD:=xQ ag;have ad:=xQ am;have M4:=(M3.call ay o4)
 clear b0 b1 b2 ay o4 M3 ag am;obtain⟨gF,rfl,a7,a8⟩:=M4.so 0;have cU:w4.cell? ⟨gF,u,none⟩=some (I (aZ aA u 0)):=by have h1:=(dR (D:=D) (v:=u) (by rw[HD.out];exact hu)).1;rw[ad u hu]at h1;have:=(M4.ow 0).cellAt u (by omega);rw[this];simp only[ivs,aTo,h1,aU4]
 have a5:decide (aZ aA (u:Int) 0<0)=false:=by have:=aa.out.1;first|(simp;done)|(simp;omega)
 have M5:=(M4.lit TI 1 1 w4 #[u] rfl rfl (by simp[maxLen]))
 go_wp2;clear cU M4 a7 a8;go_loopw [10,11] (fun o v wr=> ∃(x f:Nat) (pre:List Nat) (q:OA) (l lc:Nat),o= .slice q l lc∧v=I x∧x<n∧aZ aA x 0≤f∧pre++dK aA n f x=dK aA n 12 u∧l=pre.length+1∧Mem w wr [aJ w TI 1 (q) (l) (lc) (ivs (bK (pre++ [x]))),aJ w TI 1 (some ⟨gF,0,none⟩) (n) (c2) (ivs (D)),aI w w TH3 #[aA,aB,.slice p n a]]) (fun _ v _=>(aZ aA (intOf v) 0).toNat)
 case atStart=>exact⟨u,12,[],some ⟨w4,0,none⟩,1,1,rfl,rfl,hu,by have:=aa.out.2.1;omega,rfl,rfl,M5⟩
 case round=>
  clear M5;obtain⟨x,f,pre,q,l,lc,rfl,rfl,hx,hf,s,hl,hM⟩:=hrel;have HM:=hM;have HW:=xQ s;have ae:=xQ (cA hg.out hx);have ak:=xQ hf;have bf:l≤12:=by have h1:=congrArg List.length s;have h2:=nZ hg.out f x hx hf;have h3:=nZ hg.out 12 u hu (by have:=aa.out.2.1;omega);have h4:=aa.out.2.1;have h5:=ae.out.1;rw[aTc]at h1;omega
  have al:=xQ hl;clear hM s hf hl;by_cases h0:x=0
  ·have t0:((x:Int)!=0)=false:=by simp[h0]
   have ab:Hid (pre++ [x]=dK aA n 12 u):=by show _=_;rw[←HW.out];subst h0;cases f<;>simp[dK]
   clear h0;go_wp2;go_ret;exact dO (by rw[←ab.out];have:=al.out;simp[bK];omega) (by rw[←ab.out];exact HM.ow 0) HM.ext
  have t0:((x:Int)!=0)=true:=by simp[h0]
  obtain⟨J,a9,z,ah⟩:=aJh hg.out hx h0;obtain⟨e1,e2,e3⟩:=ae.out.2.2.2.1 h0;have be:=xQ h0;obtain⟨y,hy⟩: ∃y,y=mO aA n x:=⟨_,rfl⟩
  rw[←hy]at z e1 e2 e3;have HY:=xQ hy;clear hy h0;obtain⟨nb,m⟩: ∃nb,nb=aU aA n x:=⟨_,rfl⟩
  rw[←m]at a9 z ah;have aj:Hid (∀w',Ext w w'→U 197 #[aH aA aB p n a,x] w' (bC (bK nb) w')):=by rw[m];exact HC x hx
  have a6:=xQ m;have bc:nb.length≤12:=by rw[m];exact aTg (aUb _ _) (by simp;omega)
  have an:=xQ z;have ao:=xQ ah;have t:=xQ e3;clear m z ah e2 e3;have aq:(bK nb).length=nb.length:=by simp[bK]
  obtain⟨b0,b1,b2⟩:=(HM.bk 2).cells3;go_wp2_with fail;clear b0 b1 b2;refine(aj _ HM.ext).mono ?_;rintro e w5 ⟨q5,c5,rfl,o5,az⟩;rw[aq]at o5⊢;have M6:=(HM.call az o5)
  clear o5 az aj HM;obtain⟨gN,rfl,ba,bb⟩:=M6.so 0;clear ba bb;go_wp2;go_loopw [11,69] (fun cc i wz=> ∃j:Nat,j≤J∧cc=I x∧i=I j∧Mem w wz [aJ w TI 1 (some ⟨gN,0,none⟩) (nb.length) (c5) (ivs (bK nb)),aJ w TI 1 (q) (l) (lc) (ivs (bK (pre++ [x]))),aJ w TI 1 (some ⟨gF,0,none⟩) (n) (c2) (ivs (D)),aI w w TH3 #[aA,aB,.slice p n a]]) (fun _ i _=>J-(intOf i).toNat)
  case atStart=>exact⟨0,aTd _,rfl,rfl,M6⟩
  case round=>
   clear M6;obtain⟨j,hj,rfl,rfl,hM⟩:=hrel;have HM:=hM;clear hM;obtain⟨v,hv⟩: ∃v,nb[j]? =some v:=⟨_,aT6 (by omega)⟩
   have r:v<n:=(bZ.1 (by rw[←a6.out];exact aT7 hv:v∈aU aA n x)).1;have af:=xQ hv;have g:=(dR (D:=D) (v:=v) (by rw[HD.out];exact r)).1;have h:=(dR (D:=D) (v:=x) (by rw[HD.out];exact hx)).1;rw[ad v r]at g;rw[ad x hx]at h;obtain⟨dv,b⟩: ∃d,d=aZ aA v 0:=⟨_,rfl⟩
   obtain⟨dx,c⟩: ∃d,d=aZ aA x 0:=⟨_,rfl⟩
   have gv:=cA hg.out r;have gx:=ae.out;rw[←b]at g gv;rw[←c]at h gx;have m1:=aVt j;have m2:(j:Int)<(nb.length:Int):=by omega
   have m3:=aVt v;have m4:=aVu v n;have m5:=aVt x;have m6:=aVu x n;have w7:=aVw (dx-1);have cn:wr.cell? ⟨gN,j,none⟩=some (I v):=by have:=(HM.ow 0).cellAt j (by omega);rw[this];simp[ivs,bK,af.out]
   have cf:wr.cell? ⟨gF,v,none⟩=some (I dv):=by have:=(HM.ow 2).cellAt v (by omega);rw[this];simp only[ivs,aTo,g,aU4]
   have cx:wr.cell? ⟨gF,x,none⟩=some (I dx):=by have:=(HM.ow 2).cellAt x (by omega);rw[this];simp only[ivs,aTo,h,aU4]
   by_cases hjJ:j<J
   ·have ar:(dv==dx-1)=false:=by
     have:=ao.out j v hjJ af.out;rw[←b,←c]at this;exact beq_eq_false_iff_ne.2 this
    clear g h b c gv gx;go_wp2;go_quiet (fail);go_wp2;go_roundw
    case rel=>exact⟨j+1,by omega,rfl,by go_num,HM.adv xE⟩
    case measure=>simp[intOf];omega
   obtain rfl:j=J:=by omega
   have bd:v=y:=by have h1:=af.out;rw[an.out]at h1;injection h1 with h1;exact h1.symm
   subst bd;have ar:(dv==dx-1)=true:=by have:=t.out;rw[←b,←c]at this;simp[this]
   have ap:=xQ (show 1≤aZ aA (x:Int) 0 by have h1:=(cA hg.out r).1;have h2:=t.out;omega);clear g h b gv;go_wp2;go_quiet (fail);generalize au:World.drewN _ _=wq;have M7:=(show Mem w wq [aJ w TI 1 (q) (l) (lc) (ivs (bK (pre++ [x]))),aJ w TI 1 (some ⟨gF,0,none⟩) (n) (c2) (ivs (D)),aI w w TH3 #[aA,aB,.slice p n a]]from by rw[←au];exact(HM.adv xE).pick [1,2,3] (by decide) rfl)
   clear au cn cf cx HM;go_wp2_with (at_builtin;go_loud (refine cJ fY rfl _ _ rfl (M7.adv ((Ext.refl _).alloc (.cells #[v] TI))) 0 rfl rfl (ivs [(v:Int)]) rfl (eD _ _ _ 1 1 _ (by first|rfl|simp) (by first|rfl|simp) (by simp[maxLen])) (fun u hu=>by obtain rfl:=aTp.1 hu;rfl) (by omega) ?_;intro q7 c7 w6 M8));have M9:=(show Mem w w6 [aJ w TI 1 (q7) (l+1) (c7) (ivs (bK (pre++ [x]++ [v]))),aJ w TI 1 (some ⟨gF,0,none⟩) (n) (c2) (ivs (D)),aI w w TH3 #[aA,aB,.slice p n a]]from by rw[show ivs (bK (pre++ [x]++ [v]))=ivs (bK (pre++ [x]))++ivs [(v:Int)] by simp[ivs,bK]];exact M8)
   clear M8 M7;have bg:0<f:=by have:=ak.out;have:=ap.out;omega
   obtain⟨f',rfl⟩: ∃f',f=f'+1:=⟨f-1,by omega⟩
   have ai:Hid ((pre++ [x])++dK aA n f' v=dK aA n 12 u):=by
    show _=_;rw[←HW.out]
    conv=>rhs;rw[dK,if_neg be.out,←HY.out]
    simp
   go_wp2;go_roundw
   case rel=>exact⟨v,f',pre++ [x],q7,l+1,c7,rfl,by go_num,r,by have:=t.out;have:=ak.out;omega,ai.out,by have:=al.out;simp;omega,M9⟩
   case measure=>simp[intOf];have:=t.out;have:=ap.out;omega
theorem aS4 (aA aB:Int)(p:OA)(n a u:Nat)(xs:List Int)(w:World)(hS:Sl w p n a 1 (ivs xs))(b:aN aA aB xs=true)(hu:u<n):
  U 169 #[aH aA aB p n a,u,(),(-1:Int)] w (bC (bK (dK aA n 12 u)) w):=by
 have hl:=hS.ilen;obtain⟨g1,g2,g3,g4,g5,g6,g7,g8,g9⟩:=bN b;have hg:=sV (n:=n) g1 g2 g3 g4 (by omega);refine aOn aA aB p n a u w hg (by omega) (by omega) hu (fun w' hx=>by have:=gU aA aB p n a xs w' (hS.ext hx);rwa[b]at this) (fun k hk w'=> ?_) (fun w' hx=> ?_) (fun k hk w' hx=> ?_)
 ·have:=jV aA aB k p n a w' (by omega);rwa[decide_eq_true (⟨by omega,by omega⟩:0≤(k:Int)∧(k:Int)<n)]at this
 ·refine(aS5 aA aB p n a 0 (-1) xs w' (hS.ext hx) b (by omega)).mono ?_;rintro e w2 ⟨D,hD,hr⟩;exact⟨D,⟨hD.len,fun v hv=>aBz hg (aGq aA n) hD hv⟩,hr⟩
 have:=aIy aA aB k p n a xs w' (hS.ext hx) b (by omega) (by omega);rwa[mM]at this
theorem aP4 (aA aB c d A:Int)(p:OA)(n a:Nat)(w:World)(HV:xB 42 #[aH aA aB p n a] w true)(HF:Hid (∀w',U 138 #[aH aA aB p n a,c] w' (O (.bool true) w')))(HT:Hid (∀w',U 138 #[aH aA aB p n a,d] w' (O (.bool true) w')))
  (HA:Hid (∀w',U 139 #[aA,c,d] w' (O (I A) w'))):
  U 198 #[aH aA aB p n a,c,d] w (O (I A) w):=by
 go_enter func198,ntmps198;go_wp2_with fail;refine Z (HV _ ((Mem.start w).c0 TH3 #[aA,aB,.slice p n a]).ext) fun w1 b=>?_
 have M1:=(((Mem.start w).c0 TH3 #[aA,aB,.slice p n a]).adv b)
 clear b;have h_:=(M1.bk 0).tri;go_wp2_with fail;clear h_;refine Z (HF _) fun w2 f=>?_
 have M2:=(M1.adv f)
 clear M1 f;have h_:=(M2.bk 0).tri;go_wp2_with fail;clear h_;refine Z (HT _) fun w3 g=>?_
 have M3:=(M2.adv g)
 clear M2 g;have h_:=(M3.bk 0).tri;go_wp2_with fail;clear h_;refine Z (HA _) fun w4 h=>?_
 have M4:=(M3.adv h)
 clear M3 h;go_wp2;go_ret;exact⟨rfl,M4.ext⟩
theorem aM0 (aA aB f t:Int)(p:OA)(n a:Nat)(w:World)(HV:xB 42 #[aH aA aB p n a] w true)(HF:Hid (∀w',U 138 #[aH aA aB p n a,f] w' (O (.bool false) w'))):
  U 102 #[aH aA aB p n a,eK f t] w (O (.bool false) w):=by
 go_enter func102,ntmps102;go_wp2_with fail;refine Z (HV _ (((Mem.start w).c0 TH3 #[aA,aB,.slice p n a]).c1 TSL #[f,t]).ext) fun w1 b=>?_
 have M1:=((((Mem.start w).c0 TH3 #[aA,aB,.slice p n a]).c1 TSL #[f,t]).adv b)
 clear b;have h_:=(M1.bk 1).tri;have s0:=(M1.bk 0).cl 0;have s1:=(M1.bk 0).cl 1;go_wp2_with fail;clear h_ s0 s1;refine Z (HF _) fun w2 c=>?_
 have M2:=(M1.adv c)
 clear M1 c;have h_:=(M2.bk 1).tri;have s0:=(M2.bk 0).cl 0;have s1:=(M2.bk 0).cl 1;go_wp2;go_ret;exact⟨rfl,M2.ext⟩
theorem aLz (aA aB f t:Int)(p:OA)(n a:Nat)(w:World)(HV:xB 42 #[aH aA aB p n a] w true)(HF:Hid (∀w',U 138 #[aH aA aB p n a,f] w' (O (.bool true) w')))(HT:Hid (∀w',U 138 #[aH aA aB p n a,t] w' (O (.bool false) w'))):
  U 102 #[aH aA aB p n a,eK f t] w (O (.bool false) w):=by
 go_enter func102,ntmps102;go_wp2_with fail;refine Z (HV _ (((Mem.start w).c0 TH3 #[aA,aB,.slice p n a]).c1 TSL #[f,t]).ext) fun w1 b=>?_
 have M1:=((((Mem.start w).c0 TH3 #[aA,aB,.slice p n a]).c1 TSL #[f,t]).adv b)
 clear b;have h_:=(M1.bk 1).tri;have s0:=(M1.bk 0).cl 0;have s1:=(M1.bk 0).cl 1;go_wp2_with fail;clear h_ s0 s1;refine Z (HF _) fun w2 c=>?_
 have M2:=(M1.adv c)
 clear M1 c;have h_:=(M2.bk 1).tri;have s0:=(M2.bk 0).cl 0;have s1:=(M2.bk 0).cl 1;go_wp2_with fail;clear h_ s0 s1;refine Z (HT _) fun w3 d=>?_
 have M3:=(M2.adv d)
 clear M2 d;have h_:=(M3.bk 1).tri;have s0:=(M3.bk 0).cl 0;have s1:=(M3.bk 0).cl 1;go_wp2;go_ret;exact⟨rfl,M3.ext⟩
theorem aLy (aA aB:Int)(b a n c i j:Nat)(x y:Int)(w:World)(hi:i<n)(hj:j<n)(hb:b<w.heap.size)(h:Hid (w.cell? ⟨b,a+i,none⟩=some (I x)))(k:Hid (w.cell? ⟨b,a+j,none⟩=some (I y)))(d1:(x !=0)=false)(HV:xB 42 #[aH aA aB (some ⟨b,a,none⟩) n c] w true)(HF:Hid (∀w',U 138 #[aH aA aB (some ⟨b,a,none⟩) n c,i] w' (O (.bool true) w')))(HT:Hid (∀w',U 138 #[aH aA aB (some ⟨b,a,none⟩) n c,j] w' (O (.bool true) w'))):
  U 102 #[aH aA aB (some ⟨b,a,none⟩) n c,eK (i:Int) (j:Int)] w (O (.bool false) w):=by
 have a1:=aVt i;have a3:=aVu i n;go_enter func102,ntmps102;go_wp2_with fail;refine Z (HV _ (((Mem.start w).c0 TH3 #[aA,aB,.slice (some ⟨b,a,none⟩) n c]).c1 TSL #[i,j]).ext) fun w1 d=>?_
 have M1:=((((Mem.start w).c0 TH3 #[aA,aB,.slice (some ⟨b,a,none⟩) n c]).c1 TSL #[i,j]).adv d)
 clear d;have h_:=(M1.bk 1).tri;have s0:=(M1.bk 0).cl 0;have s1:=(M1.bk 0).cl 1;go_wp2_with fail;clear h_ s0 s1;refine Z (HF _) fun w2 f=>?_
 have M2:=(M1.adv f)
 clear M1 f;have h_:=(M2.bk 1).tri;have s0:=(M2.bk 0).cl 0;have s1:=(M2.bk 0).cl 1;go_wp2_with fail;clear h_ s0 s1;refine Z (HT _) fun w3 g=>?_
 have M3:=(M2.adv g)
 clear M2 g;have h_:=(M3.bk 1).tri;have s0:=(M3.bk 0).cl 0;have s1:=(M3.bk 0).cl 1;have g1:w3.cell? ⟨b,a+i,none⟩=some (I x):=(M3.ext.cells.1 _ _ hb).trans h.out;go_wp2;go_ret;exact⟨rfl,M3.ext⟩
theorem aLx (aA aB:Int)(b a n c i j:Nat)(x y:Int)(w:World)(hi:i<n)(hj:j<n)(hb:b<w.heap.size)(h:Hid (w.cell? ⟨b,a+i,none⟩=some (I x)))(k:Hid (w.cell? ⟨b,a+j,none⟩=some (I y)))(d1:(x !=0)=true)(d2:(y==0)=false)(HV:xB 42 #[aH aA aB (some ⟨b,a,none⟩) n c] w true)(HF:Hid (∀w',U 138 #[aH aA aB (some ⟨b,a,none⟩) n c,i] w' (O (.bool true) w')))(HT:Hid (∀w',U 138 #[aH aA aB (some ⟨b,a,none⟩) n c,j] w' (O (.bool true) w'))):
  U 102 #[aH aA aB (some ⟨b,a,none⟩) n c,eK (i:Int) (j:Int)] w (O (.bool false) w):=by
 have a1:=aVt i;have a2:=aVt j;have a3:=aVu i n;have a4:=aVu j n;go_enter func102,ntmps102;go_wp2_with fail;refine Z (HV _ (((Mem.start w).c0 TH3 #[aA,aB,.slice (some ⟨b,a,none⟩) n c]).c1 TSL #[i,j]).ext) fun w1 d=>?_
 have M1:=((((Mem.start w).c0 TH3 #[aA,aB,.slice (some ⟨b,a,none⟩) n c]).c1 TSL #[i,j]).adv d)
 clear d;have h_:=(M1.bk 1).tri;have s0:=(M1.bk 0).cl 0;have s1:=(M1.bk 0).cl 1;go_wp2_with fail;clear h_ s0 s1;refine Z (HF _) fun w2 f=>?_
 have M2:=(M1.adv f)
 clear M1 f;have h_:=(M2.bk 1).tri;have s0:=(M2.bk 0).cl 0;have s1:=(M2.bk 0).cl 1;go_wp2_with fail;clear h_ s0 s1;refine Z (HT _) fun w3 g=>?_
 have M3:=(M2.adv g)
 clear M2 g;have h_:=(M3.bk 1).tri;have s0:=(M3.bk 0).cl 0;have s1:=(M3.bk 0).cl 1;have g1:w3.cell? ⟨b,a+i,none⟩=some (I x):=(M3.ext.cells.1 _ _ hb).trans h.out;have g2:w3.cell? ⟨b,a+j,none⟩=some (I y):=(M3.ext.cells.1 _ _ hb).trans k.out;go_wp2;go_ret;exact⟨rfl,M3.ext⟩
theorem aOr (aA aB:Int)(b a n c i j:Nat)(x y A:Int)(w:World)(hi:i<n)(hj:j<n)(hb:b<w.heap.size)(k:Hid (w.cell? ⟨b,a+i,none⟩=some (I x)))(l:Hid (w.cell? ⟨b,a+j,none⟩=some (I y)))(d1:(x !=0)=true)(d2:(y==0)=true)(HV:xB 42 #[aH aA aB (some ⟨b,a,none⟩) n c] w true)(HF:Hid (∀w',U 138 #[aH aA aB (some ⟨b,a,none⟩) n c,i] w' (O (.bool true) w')))(HT:Hid (∀w',U 138 #[aH aA aB (some ⟨b,a,none⟩) n c,j] w' (O (.bool true) w')))(HA:Hid (∀w',U 139 #[aA,i,j] w' (O (I A) w'))):
  U 102 #[aH aA aB (some ⟨b,a,none⟩) n c,eK (i:Int) (j:Int)] w (O (.bool (A==1)) w):=by
 have a1:=aVt i;have a2:=aVt j;have a3:=aVu i n;have a4:=aVu j n;go_enter func102,ntmps102;go_wp2_with fail;refine Z (HV _ (((Mem.start w).c0 TH3 #[aA,aB,.slice (some ⟨b,a,none⟩) n c]).c1 TSL #[i,j]).ext) fun w1 d=>?_
 have M1:=((((Mem.start w).c0 TH3 #[aA,aB,.slice (some ⟨b,a,none⟩) n c]).c1 TSL #[i,j]).adv d)
 clear d;have h_:=(M1.bk 1).tri;have s0:=(M1.bk 0).cl 0;have s1:=(M1.bk 0).cl 1;go_wp2_with fail;clear h_ s0 s1;refine Z (HF _) fun w2 f=>?_
 have M2:=(M1.adv f)
 clear M1 f;have h_:=(M2.bk 1).tri;have s0:=(M2.bk 0).cl 0;have s1:=(M2.bk 0).cl 1;go_wp2_with fail;clear h_ s0 s1;refine Z (HT _) fun w3 g=>?_
 have M3:=(M2.adv g)
 clear M2 g;have h_:=(M3.bk 1).tri;have s0:=(M3.bk 0).cl 0;have s1:=(M3.bk 0).cl 1;have g1:w3.cell? ⟨b,a+i,none⟩=some (I x):=(M3.ext.cells.1 _ _ hb).trans k.out;have g2:w3.cell? ⟨b,a+j,none⟩=some (I y):=(M3.ext.cells.1 _ _ hb).trans l.out;go_wp2_with fail;clear h_ s0 s1 g1 g2;refine Z (HA _) fun w4 h=>?_
 have M4:=(M3.adv h)
 clear M3 h;go_wp2;go_ret;exact⟨rfl,M4.ext⟩
theorem aSd (aA aB:Int)(c d:Nat)(p:OA)(n a:Nat)(xs:List Int)(w:World)(hS:Sl w p n a 1 (ivs xs))(b:aN aA aB xs=true)(hc:c<n)(hd:d<n):
  U 198 #[aH aA aB p n a,c,d] w (O (I (aZ aA c d)) w):=by
 have hl:=hS.ilen;obtain⟨g1,g2,g3,g4,g5,g6,g7,g8,g9⟩:=bN b;have HH: ∀(k:Nat),k<n→ ∀w',U 138 #[aH aA aB p n a,k] w' (O (.bool true) w'):=fun k hk w'=>by have:=jV aA aB k p n a w' (by omega);rwa[decide_eq_true (⟨by omega,by omega⟩:0≤(k:Int)∧(k:Int)<n)]at this
 exact aP4 aA aB c d _ p n a w (fun w' hx=>by have:=gU aA aB p n a xs w' (hS.ext hx);rwa[b]at this) (HH c hc) (HH d hd) (fun w'=>nS aA c d w' (by omega) (by omega) (by omega) (by omega) (by omega) (by omega))
theorem aS6 (aA aB f t:Int)(p:OA)(n a:Nat)(xs:List Int)(w:World)(hS:Sl w p n a 1 (ivs xs))(g:aN aA aB xs=true):
  U 102 #[aH aA aB p n a,eK f t] w (O (.bool (bH aA aB xs f t)) w):=by
 have hl:=hS.ilen;obtain⟨g1,g2,g3,g4,g5,g6,g7,g8,g9⟩:=bN g;have HV: ∀w',Ext w w'→U 42 #[aH aA aB p n a] w' (O (.bool true) w'):=fun w' hx=>by have:=gU aA aB p n a xs w' (hS.ext hx);rwa[g]at this
 have HH: ∀(c:Int) w',U 138 #[aH aA aB p n a,c] w' (O (.bool (decide (0≤c∧c<n))) w'):=fun c w'=>jV aA aB c p n a w' (by omega)
 by_cases hf:0≤f∧f<n
 ·have HF:=HH f;rw[decide_eq_true hf]at HF;by_cases ht:0≤t∧t<n
  ·have HT:=HH t;rw[decide_eq_true ht]at HT;obtain⟨i,rfl⟩: ∃i:Nat,f=(i:Int):=⟨f.toNat,by omega⟩
   obtain⟨j,rfl⟩: ∃j:Nat,t=(j:Int):=⟨t.toNat,by omega⟩
   have hi:i<n:=by omega
   have hj:j<n:=by omega
   obtain⟨b,d,rfl,hb,m⟩:=hS.rd (by omega);have o:xs[i]? =some (xs.getD i 0):=by rw[aTb,aT6 (by omega)];rfl
   have q:xs[j]? =some (xs.getD j 0):=by rw[aTb,aT6 (by omega)];rfl
   have k:w.cell? ⟨b,d+i,none⟩=some (I (xs.getD i 0)):=by rw[m i (by omega)];simp only[ivs,aTo,o,aU4]
   have l:w.cell? ⟨b,d+j,none⟩=some (I (xs.getD j 0)):=by rw[m j (by omega)];simp only[ivs,aTo,q,aU4]
   have s:0≤xs.getD i 0:=qP g i;have r:dS aA aB xs (i:Int) (j:Int)=aZ aA i j:=by unfold dS;rw[if_pos ⟨g,⟨by omega,by omega⟩,by omega,by omega⟩]
   unfold bH;rw[r,aUz,aUz];clear o q;generalize xs.getD i 0=x at*;generalize xs.getD j 0=y at*;by_cases hx0:x=0
   ·subst hx0;rw[show(decide (aZ aA (i:Int) j=1)&&decide (0<(0:Int))&&decide (y=0))=false by simp];exact aLy aA aB b d n a i j _ _ w hi hj hb k l (by simp) HV HF HT
   have d1:(x !=0)=true:=by simp[hx0]
   by_cases hy0:y=0
   ·subst hy0;rw[show(decide (aZ aA (i:Int) j=1)&&decide (0<x)&&decide ((0:Int)=0))=(aZ aA (i:Int) j==1) by rw[decide_eq_true (show 0<x by omega)];by_cases ha:aZ aA (i:Int) j=1<;>simp[ha]];exact aOr aA aB b d n a i j _ _ _ w hi hj hb k l d1 (by simp) HV HF HT (fun w'=>nS aA i j w' (by omega) (by omega) (by omega) (by omega) (by omega) (by omega))
   rw[show(decide (aZ aA (i:Int) j=1)&&decide (0<x)&&decide (y=0))=false by simp[hy0]];exact aLx aA aB b d n a i j _ _ w hi hj hb k l d1 (by simp[hy0]) HV HF HT
  have HT:=HH t;rw[decide_eq_false ht]at HT
  rw[show bH aA aB xs f t=false by
   cases h:bH aA aB xs f t with
   |false=>rfl
   |true=>
    unfold bH at h;simp only[aTf,decide_eq_true_eq]at h
    have:=kM h.1.1;omega]
  exact aLz aA aB f t p n a w HV HF HT
 have HF:=HH f;rw[decide_eq_false hf]at HF
 rw[show bH aA aB xs f t=false by
  cases h:bH aA aB xs f t with
  |false=>rfl
  |true=>
   unfold bH at h;simp only[aTf,decide_eq_true_eq]at h
   have:=kM h.1.1;omega]
 exact aM0 aA aB f t p n a w HV HF
theorem aJa (q:OA)(m c2:Nat)(xs:List Int)(w:World)(hm:m≤1000)(hS:Sl w q m c2 1 (ivs xs)):
  U 85 #[.slice q m c2] w fun e w'=> ∃q' c',e= .returned (.slice q' m c')∧w'.ownsRow w TI 1 (.slice q' m c') m (ivs xs)∧Ext w w':=by
 cases q with
 |none=>
  have h0:m=0:=by
   by_cases h:0<m
   ·obtain⟨b,g,e,_⟩:=hS.rd h;cases e
   omega
  subst h0;have d:ivs xs= []:=aU7 (by have:=hS.len;simpa using this);have f: ∀(w:World) (a:OA) (n c n' c':Nat),(binOp .eql 23 (.slice a n c) (.slice none n' c')).run prog w= .ok (.bool a.isNone) w:=fun w a n c n' c'=>Lib.run_eql_slice_nil w _ _ a n c n' c' underlying23
  clear hS;go_enter func85,ntmps85;go_wp2;go_ret;exact⟨none,0,rfl,by rw[d];exact aTe _ _ _ _,Ext.refl _⟩
 |some a=>
  have HS:=xQ hS;have MS:=((Mem.start w).made0 TI 1 w (by simp))
  have f: ∀(w:World) (a:OA) (n c n' c':Nat),(binOp .eql 23 (.slice a n c) (.slice none n' c')).run prog w= .ok (.bool a.isNone) w:=fun w a n c n' c'=>Lib.run_eql_slice_nil w _ _ a n c n' c' underlying23
  clear hS;go_enter func85,ntmps85;go_wp2_with (at_builtin;go_loud (refine cJ fY rfl _ _ rfl MS 0 rfl rfl (ivs xs) rfl (HS.out.ext ((Ext.refl _).alloc _)) (rN xs) (by omega) ?_;intro q7 c7 w6 M6));have M7:=(show Mem w w6 [aJ w TI 1 q7 m c7 (ivs xs)]from by simpa using M6)
  clear M6;go_wp2;go_ret;exact⟨q7,c7,rfl,M7.ow 0,M7.ext⟩
theorem mT (aA aB:Int)(p:OA)(n a:Nat)(xs:List Int)(w:World)(hn:n≤1000)(hS:Sl w p n a 1 (ivs xs)):
  U 46 #[aH aA aB p n a] w (dN aA aB xs w):=by
 have hl:=xQ hS.ilen;have HS:=xQ hS;clear hS;have HK:xC 85 #[.slice p n a] w fun w' e w''=> ∃q' c',e= .returned (.slice q' n c')∧w''.ownsRow w' TI 1 (.slice q' n c') n (ivs xs)∧Ext w' w'':=fun w' hx=>aJa p n a xs w' hn (HS.out.ext hx)
 go_enter func46,ntmps46;go_wp2;have ME:=(((Mem.start w).c0 TH3 #[aA,aB,.slice p n a]).c1 TH3 #[(),(),((),())])
 refine rL (gl [gEq (.pointer (some ⟨w,0,none⟩)),gEq aA,gEq (.pointer (some ⟨w,1,none⟩)),gEq aB,gEq (.pointer (some ⟨w,2,none⟩)),gEq (.slice p n a),(fun v w'=> ∃q c,v= .slice q n c∧w'.ownsRow (w.heap.size+2) TI 1 (.slice q n c) n (ivs xs)),(fun v w'=> ∃q c,v=aH aA aB q n c∧w'.ownsRow (w.heap.size+2) TI 1 (.slice q n c) n (ivs xs))]) 8 9 [(0,some 3),(1,some 4),(2,some 5),(3,some 6),(4,some 7),(5,some 8),(6,some 9),(7,some 10)] ?steps ?fin (hG:=(kK (aX (bB _) (aX (bB _) (aX (bB _) (aX (bB _) (aX (bB _) (aX (bB _) (aX (fun v w w' ⟨q,c,he,ho⟩ hx=>⟨q,c,he,aW ho hx⟩) (aX (fun v w w' ⟨q,c,he,ho⟩ hx=>⟨q,c,he,aW ho hx⟩) (mU)))))))))))
 case steps=>
  refine sS0 [] ?_;refine sC [(0,some 3)] rfl (fun wi hx=> ?_) ?_
  ·intro v0 h0 K hK;obtain rfl:=h0;have hX:Ext ((w.alloc (.cells #[aA,aB,.slice p n a] TH3)).alloc (.cells #[(),(),((),())] TH3)) wi:=xE;have d:=((ME.bk 1).ext hX).cl 0;go_simp;exact hK _ _ ⟨I aA,rfl,rfl,Ext.refl _⟩
  refine sS0 [] ?_;refine sC [(2,some 5)] rfl (fun wi hx=> ?_) ?_
  ·intro v2 h2 K hK;obtain rfl:=h2;have hX:Ext ((w.alloc (.cells #[aA,aB,.slice p n a] TH3)).alloc (.cells #[(),(),((),())] TH3)) wi:=xE;have d:=((ME.bk 1).ext hX).cl 1;go_simp;exact hK _ _ ⟨I aB,rfl,rfl,Ext.refl _⟩
  refine sS0 [] ?_;refine sC [(4,some 7)] rfl (fun wi hx=> ?_) ?_
  ·intro v4 h4 K hK;obtain rfl:=h4;have hX:Ext ((w.alloc (.cells #[aA,aB,.slice p n a] TH3)).alloc (.cells #[(),(),((),())] TH3)) wi:=xE;have d:=((ME.bk 1).ext hX).cl 2;go_simp;exact hK _ _ ⟨.slice p n a,rfl,rfl,Ext.refl _⟩
  refine sC [(5,some 8)] rfl (fun wi hx=> ?_) ?_
  ·intro v5 h5 K hK;obtain rfl:=h5;go_wp2_with fail;refine(HK _ (ME.ext.trans hx.of_drew)).mono ?_;rintro e w5 ⟨q5,c5,rfl,o5,h⟩;go_simp;exact hK _ _ ⟨.slice q5 n c5,rfl,⟨q5,c5,rfl,bM o5 (by have:=hx.sz;simp at this;omega)⟩,h⟩
  refine sC [(1,some 4),(3,some 6),(6,some 9)] rfl (fun wi hx=> ?_) StepsL.nil
  ·intro v1 h1 v3 h3 v6 h6 K hK;subst h1 h3;obtain⟨q6,c6,rfl,b⟩:=h6;go_simp;exact hK _ _ ⟨aH aA aB q6 n c6,rfl,⟨q6,c6,rfl,b⟩,Ext.refl _⟩
 case fin=>
  intro wi hx v0 h0 v1 h1 v2 h2 v3 h3 v4 h4 v5 h5 v6 h6 v7 h7;subst h0 h1 h2 h3 h4 h5;obtain⟨q6,c6,rfl,b⟩:=h6;obtain⟨q7,c7,rfl,f⟩:=h7;have hX:Ext ((w.alloc (.cells #[aA,aB,.slice p n a] TH3)).alloc (.cells #[(),(),((),())] TH3)) wi:=hx.of_drew;have M2:=(show Mem w wi [aJ w TI 1 (q7) (n) (c7) (ivs xs),aI w (w.heap.size+1) TH3 #[(),(),((),())],aI w w TH3 #[aA,aB,.slice p n a]]from ME.ownNew hX f (by simp))
  clear ME hx hX b f HK HS;try go_frame
  have z_:=(M2.bk 1).trif;refine wpAny_ready (rs:= [8]) (by kernel_rfl) (by simp) ?_;refine AllReady.cons rfl (fun K hK=> ?_) AllReady.nil;go_simp;refine hK _ _ ?_;clear hK K;refine wpAny_done (by kernel_rfl) ?_ _;try go_frame
  have M3:=((M2.st 1 0 (I aA)).st 1 1 (I aB))
  have M4:=(M3.st 1 2 (.slice q7 n c7))
  go_wp2;have M5:=(show Mem w (((wi.setCell ⟨w.heap.size+1,0,none⟩ (I aA)).setCell ⟨w.heap.size+1,1,none⟩ (I aB)).setCell ⟨w.heap.size+1,2,none⟩ (.slice q7 n c7)) [aJ w TI 1 (q7) (n) (c7) (ivs xs),aI w (w.heap.size+1) TH3 #[aA,aB,.slice q7 n c7],aI w w TH3 #[aA,aB,.slice p n a]]from M4)
  generalize g:World.setCell _ _ _=wz;rw[g]at M5;clear g M2 M3 M4 z_;have y_:=(M5.bk 1).tri;exact bodyPost_ret (v:=aH aA aB q7 n c7) (by simp[results,results46,go_sem, *]) rfl (tM hl.out (M5.ow 0) M5.ext)
end Go.Proofs.YthfmmibomhhmpaaGreatDoor
