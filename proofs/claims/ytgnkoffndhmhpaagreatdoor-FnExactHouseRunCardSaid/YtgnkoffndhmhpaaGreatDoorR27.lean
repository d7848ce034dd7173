/-
  Texts of this proof, packed (@packed).
-/
import Derived.Test.YtgnkoffndhmhpaaGreatDoorR9
import Derived.Test.YtgnkoffndhmhpaaGreatDoorR14
import Derived.Test.YtgnkoffndhmhpaaGreatDoorR26
namespace Go.Proofs.YtgnkoffndhmhpaaGreatDoor
open Go.RowKit
set_option linter.unusedVariables false
set_option linter.unusedSimpArgs false
set_option maxHeartbeats 8000000
set_option maxRecDepth 100000
theorem aCg {k n:Nat}(h:k<n):(List.replicate k (-1:Int)++List.replicate (n-k) 0).set k (-1)=List.replicate (k+1) (-1)++List.replicate (n-(k+1)) 0:=by
 have e:n-k=(n-(k+1))+1:=by omega
 rw[e,List.replicate_succ,List.set_append_right _ _ (by simp),List.replicate_succ',List.append_assoc]
 simp
theorem aGc (aA aB:Int)(p:OA)(n cap src:Nat)(but:Int)(w:World)(hn0:4≤n)(hn:n≤12)(hs:src<n)
  (HC:Hid (∀(k:Nat),k<n→ ∀w',Ext w w'→Calls Tryz.prog 195 #[aI aA aB p n cap,(k:Int)] w' (aY (bD (aS aA n k)) w'))):
  Calls Tryz.prog 194 #[aI aA aB p n cap,(src:Int),but] w fun e w'=> ∃D,oU (mX aA n but) [src] n D∧aY D w e w':=by
 obtain⟨AR,hAR⟩: ∃AR:Array Value,AR=madeCells #[()] n:=⟨_,rfl⟩
 have hmk: ∀w:World,(Instr.makeSlice 22 (.int .i64 (n:Int)) (.int .i64 (n:Int))).run Tryz.prog w= .ok (.slice (some ⟨w.heap.size,0,none⟩) n n) (w.alloc (.cells AR TI)):=fun w=>by
  rw[hAR]
  exact run_make_row' _ _ (.int .i64 0) 8 Tryz.underlying22 (by kernel_rfl) rfl .i64 .i64 n (by omega) (by omega) w
 have hA1:Hid (AR.toList=ivs (List.replicate 0 (-1)++List.replicate (n-0) 0)):=by
  show _=_
  rw[hAR,(lA n).1];simp
 have hA2:Hid (AR.size=n):=by show _=_;rw[hAR];exact(lA n).2
 clear hAR
 go_enter Tryz.func194,Tryz.ntmps194
 go_wp2
 have ME:=xQ (show Mem w ((w.alloc (.cells #[aA,aB,.slice p n cap] TH3)).alloc (.cells AR TI)) [aJ w.heap.size TI 1 (some ⟨w.heap.size+1,0,none⟩) (n) (n) (ivs (List.replicate 0 (-1)++List.replicate (n-0) 0)),aL w.heap.size (w.heap.size) TH3 #[aA,aB,.slice p n cap]]from by rw[←hA1.out];exact((Mem.start w).blkNew TH3 #[aA,aB,.slice p n cap] w.heap.size rfl).lit TI 1 n _ AR (by simp) (by rw[hA2.out];omega) (by simp[maxLen];omega))
 clear hA1 hA2 hmk
 go_loopw [19] (fun i wr=> ∃(k:Nat),k≤n∧i= .int .i64 (k:Int)∧Mem w wr [aJ w.heap.size TI 1 (some ⟨w.heap.size+1,0,none⟩) (n) (n) (ivs (List.replicate k (-1)++List.replicate (n-k) 0)),aL w.heap.size (w.heap.size) TH3 #[aA,aB,.slice p n cap]]) (fun i _=>n-(intOf i).toNat)
 case atStart=>exact⟨0,Nat.zero_le _,rfl,ME.out⟩
 case round=>
  clear ME
  obtain⟨k,hk,rfl,hM⟩:=hrel
  have HM:=xQ hM
  clear hM
  have lt0:=(HM.out.lt (i:=1) rfl rfl).2
  by_cases hlt:k<n
  ·have i1:(0:Int)≤(k:Int):=by omega
   have i2:(k:Int)<(n:Int):=by omega
   have hl:(List.replicate k (-1:Int)++List.replicate (n-k) 0)[k]? =some 0:=by
    rw[List.getElem?_append_right (by simp)]
    simp[List.getElem?_replicate];omega
   have ow0:wr.cell? ⟨w.heap.size+1,k,none⟩=some (.int .i64 0):=by
    have:=(HM.out.own (i:=0) rfl).cellAt k (by omega);rw[this];simp only[ivs,List.getElem?_map,hl,Option.map_some]
   have ow1:wr.frozen? ⟨w.heap.size+1,k,none⟩=false:=(HM.out.own (i:=0) rfl).frozenAt k
   clear hl
   have M2:=xQ (HM.out.ostore (i:=0) rfl k (.int .i64 (-1)))
   go_wp2
   go_roundw
   case rel=>exact⟨k+1,by omega,by go_num,by have:=M2.out;rw[dI,aCg hlt]at this;exact this⟩
   case measure=>simp[intOf];omega
  ·obtain rfl:n=k:=by omega
   rw[Nat.sub_self,show List.replicate n (-1:Int)++List.replicate 0 0=List.replicate n (-1) by simp]at HM
   have i1:(0:Int)≤(src:Int):=by omega
   have i2:(src:Int)<(n:Int):=by omega
   have ow0:wr.cell? ⟨w.heap.size+1,src,none⟩=some (.int .i64 (-1)):=by
    have:=(HM.out.own (i:=0) rfl).cellAt src (by omega);rw[this];simp[ivs,hs]
   have ow1:wr.frozen? ⟨w.heap.size+1,src,none⟩=false:=(HM.out.own (i:=0) rfl).frozenAt src
   have M2:=xQ (HM.out.ostore (i:=0) rfl src (.int .i64 0))
   rw[show Hid (Mem w (wr.setCell ⟨w.heap.size+1,src,none⟩ (.int .i64 0)) (List.set [aJ w.heap.size TI 1 (some ⟨w.heap.size+1,0,none⟩) (n) (n) (ivs (List.replicate n (-1))),aL w.heap.size (w.heap.size) TH3 #[aA,aB,.slice p n cap]] 0 (aJ w.heap.size TI 1 (some ⟨w.heap.size+1,0,none⟩) n n (List.set (ivs (List.replicate n (-1))) src (.int .i64 0)))))=Hid (Mem w (wr.setCell ⟨w.heap.size+1,src,none⟩ (.int .i64 0)) [aJ w.heap.size TI 1 (some ⟨w.heap.size+1,0,none⟩) (n) (n) (ivs ((List.replicate n (-1)).set src 0)),aL w.heap.size (w.heap.size) TH3 #[aA,aB,.slice p n cap]]) by rw[dI];rfl]at M2
   go_upto_region 8 with fail
   clear ow0 ow1 HM lt0
   generalize hw1:World.setCell _ _ _=w1
   rw[hw1]at M2
   clear hw1
   have I1:=xQ (Inv.one (adj:=mX aA n but) hs)
   have M3:=xQ (M2.out.lit TI 1 1 w1.heap.size #[(src:Int)] rfl rfl (by simp[maxLen]))
   clear M2
   go_wp2
   go_loopw [9,10] (fun v i wr=> ∃(k:Nat) (q:OA) (l lc:Nat) (D:List Int) (Q:List Nat),k≤l∧i= .int .i64 (k:Int)∧v= .slice q l lc∧l=Q.length∧(∀x∈D,-1≤x∧x≤k)∧Inv (mX aA n but) [src] n k (D,Q)∧Mem w wr [aJ w.heap.size TI 1 (q) (l) (lc) (ivs (bD Q)),aJ w.heap.size TI 1 (some ⟨w.heap.size+1,0,none⟩) (n) (n) (ivs (D)),aL w.heap.size (w.heap.size) TH3 #[aA,aB,.slice p n cap]]) (fun _ i _=>n-(intOf i).toNat)
   case atStart=>exact⟨0,some ⟨w1.heap.size,0,none⟩,1,1,_,[src],Nat.zero_le _,rfl,rfl,rfl,aFy _ _,I1.out,M3.out⟩
   case round=>
    clear M3 I1
    obtain⟨k,q,l,lc,D,Q,hk,rfl,rfl,hlq,hbd,hinv,hM⟩:=hrel
    have HM:=xQ hM
    have HI:=xQ hinv
    have HLQ:=xQ hlq
    have hqn:l≤n:=by rw[hlq];exact hinv.qlen
    have HBD:=xQ hbd
    clear hM hinv hlq hbd
    by_cases hlt2:k<l
    ·obtain⟨u,hu⟩: ∃u,Q[k]? =some u:=⟨_,List.getElem?_eq_getElem (by rw[←HLQ.out];exact hlt2)⟩
     have hun:u<n:=HI.out.bd u (List.mem_of_getElem? hu)
     have HU:=xQ hu
     clear hu
     obtain⟨gL,rfl,hL1,hL2⟩:=HM.out.some (i:=0) rfl (by omega)
     have i3:(0:Int)≤(k:Int):=by omega
     have i4:(k:Int)<(l:Int):=by omega
     have i5:(0:Int)≤(u:Int):=by omega
     have i6:(u:Int)<(n:Int):=by omega
     have cu:wr.cell? ⟨gL,k,none⟩=some (.int .i64 (u:Int)):=by
      have:=(HM.out.own (i:=0) rfl).cellAt k (by omega);rw[this];simp[ivs,bD,HU.out]
     obtain⟨nb,hnb⟩: ∃nb,nb=aS aA n u:=⟨_,rfl⟩
     have HNB:=xQ hnb
     have HCU:Hid (∀w',Ext w w'→Calls Tryz.prog 195 #[aI aA aB p n cap,(u:Int)] w' (aY (bD nb) w')):=by rw[hnb];exact HC.out u hun
     have hnb12:nb.length≤n:=by rw[hnb];exact Nat.le_trans (List.length_filter_le _ _) (by simp)
     clear hnb
     have hnbl:(bD nb).length=nb.length:=by simp[bD]
     go_wp2
     refine cS (gl [gEq (.agg #[aA,aB,.slice p n cap]),gEq (.slice (some ⟨gL,0,none⟩) l lc),gEq (k:Int),gEq (.pointer (some ⟨gL,k,none⟩)),gEq (u:Int),(fun v w'=> ∃q c,v= .slice q nb.length c∧w'.ownsRow wr.heap.size TI 1 (.slice q nb.length c) nb.length (ivs (bD nb))),gEq (nb.length:Int),gEq (.int .i64 0)]) 8 (by kernel_rfl) rfl (by kernel_rfl) (by kernel_rfl) (by kernel_rfl) (eG (aK (aH _) (aK (aH _) (aK (aH _) (aK (aH _) (aK (aH _) (aK (fun v w w' ⟨q,c,he,ho⟩ hx=>⟨q,c,he,bB ho hx⟩) (aK (aH _) (aK (aH _) (fK)))))))))) (k:=8) (by kernel_rfl) (by decide) (ls:= [(0,some 37),(1,some 38),(2,some 39),(3,some 40),(4,some 41),(5,some 42),(6,some 43),(7,some 44)]) (by kernel_rfl) (ir:= [0,1,2,3,4,5,6,7]) (by kernel_rfl) ?steps (tl:=#[true,true,true,true,true,true,true,true]) (by kernel_rfl) ?fin
     case steps=>
      refine sC [] rfl (fun wi hx=> ?_) ?_
      ·intro K hK
       have hX:Ext wr wi:=xE
       obtain⟨cl0,cl1,cl2⟩:=(((HM.out.blk (i:=2) rfl).ext hX)).tri
       go_simp
       exact hK _ _ ⟨.agg #[aA,aB,.slice p n cap],rfl,rfl,Ext.refl _⟩
      refine sC [] rfl (fun wi hx=> ?_) ?_
      ·intro K hK
       go_simp
       exact hK _ _ ⟨.slice (some ⟨gL,0,none⟩) l lc,rfl,rfl,Ext.refl _⟩
      refine sC [] rfl (fun wi hx=> ?_) ?_
      ·intro K hK
       go_simp
       exact hK _ _ ⟨.int .i64 (k:Int),rfl,rfl,Ext.refl _⟩
      refine sC [(1,some 38),(2,some 39)] rfl (fun wi hx=> ?_) ?_
      ·intro v1 h1 v2 h2 K hK
       obtain rfl:=h1
       obtain rfl:=h2
       go_simp
       exact hK _ _ ⟨.pointer (some ⟨gL,k,none⟩),rfl,rfl,Ext.refl _⟩
      refine sC [(3,some 40)] rfl (fun wi hx=> ?_) ?_
      ·intro v3 h3 K hK
       obtain rfl:=h3
       have hX:Ext wr wi:=xE
       have cl0:wi.cell? ⟨gL,k,none⟩=some (.int .i64 (u:Int)):=(hX.cells.1 _ _ hL2).trans cu
       go_simp
       exact hK _ _ ⟨.int .i64 (u:Int),rfl,rfl,Ext.refl _⟩
      refine sC [(0,some 37),(4,some 41)] rfl (fun wi hx=> ?_) ?_
      ·intro v0 h0 v4 h4 K hK
       obtain rfl:=h0
       obtain rfl:=h4
       go_wp2_with fail
       refine(HCU.out _ (HM.out.ext.trans hx.of_drew)).mono ?_
       rintro e w5 ⟨q5,c5,rfl,o5,hx5⟩
       rw[hnbl]at o5⊢
       go_simp
       exact hK _ _ ⟨.slice q5 nb.length c5,rfl,⟨q5,c5,rfl,bG o5 (by have:=hx.sz;simpa using this)⟩,hx5⟩
      refine sC [(5,some 42)] rfl (fun wi hx=> ?_) ?_
      ·intro v5 h5 K hK
       obtain⟨q5,c5,rfl,ho5⟩:=h5
       go_simp
       exact hK _ _ ⟨.int .i64 (nb.length:Int),rfl,rfl,Ext.refl _⟩
      refine sC [] rfl (fun wi hx=> ?_) StepsL.nil
      ·intro K hK
       go_simp
       exact hK _ _ ⟨.int .i64 0,rfl,rfl,Ext.refl _⟩
     case fin=>
      intro wi hx v0 h0 v1 h1 v2 h2 v3 h3 v4 h4 v5 h5 v6 h6 v7 h7
      obtain rfl:=h0
      obtain rfl:=h1
      obtain rfl:=h2
      obtain rfl:=h3
      obtain rfl:=h4
      obtain⟨q5,c5,rfl,ho5⟩:=h5
      obtain rfl:=h6
      obtain rfl:=h7
      have M5:=xQ (show Mem w wi [aJ w.heap.size TI 1 (q5) (nb.length) (c5) (ivs (bD nb)),aJ w.heap.size TI 1 (some ⟨gL,0,none⟩) (l) (lc) (ivs (bD Q)),aJ w.heap.size TI 1 (some ⟨w.heap.size+1,0,none⟩) (n) (n) (ivs (D)),aL w.heap.size (w.heap.size) TH3 #[aA,aB,.slice p n cap]]from HM.out.ownNew hx.of_drew ho5 (Nat.le_refl _))
      clear ho5 hx cu HM HCU i3 i4 i5 i6 hL1 hL2
      refine wpAny_done (by kernel_rfl) ?_ _
      try simp only[Act.put,List.setIfInBounds_toArray,List.set_cons_zero,List.set_cons_succ]
      go_wp2
      go_loopw [9,44] (fun v i wr=> ∃(j:Nat) (q:OA) (l2 lc:Nat) (D2:List Int) (Q2:List Nat),j≤nb.length∧i= .int .i64 (j:Int)∧v= .slice q l2 lc∧l2=Q2.length∧(D2,Q2)=bJ (D.getD u 0+1) (D,Q) ((nb.take j).filter (fun(v:Nat)=>decide ((v:Int)≠but)))∧(∀x∈D2,-1≤x∧x≤(k:Int)+1)∧Mem w wr [aJ w.heap.size TI 1 (q5) (nb.length) (c5) (ivs (bD nb)),aJ w.heap.size TI 1 (q) (l2) (lc) (ivs (bD Q2)),aJ w.heap.size TI 1 (some ⟨w.heap.size+1,0,none⟩) (n) (n) (ivs (D2)),aL w.heap.size (w.heap.size) TH3 #[aA,aB,.slice p n cap]]) (fun _ i _=>nb.length-(intOf i).toNat)
      case atStart=>exact⟨0,some ⟨gL,0,none⟩,l,lc,D,Q,Nat.zero_le _,rfl,rfl,HLQ.out,by simp[bJ],fun x hx=>by have:=HBD.out x hx;omega,M5.out⟩
      case round=>
       clear M5
       obtain⟨j,q,l2,lc,D2,Q2,hj,rfl,rfl,hlq2,heq,hbd2,hM⟩:=hrel
       have hum:u∈Q:=List.mem_of_getElem? HU.out
       have hmid:Mid (mX aA n but) [src] n k u ((nb.take j).filter (fun(v:Nat)=>decide ((v:Int)≠but))) (D,Q) (D2,Q2):=by
        rw[heq]
        have:=Mid.many hum ((nb.take j).filter (fun(v:Nat)=>decide ((v:Int)≠but))) [] (D,Q) (HI.out.mid HU.out) (fun v hv=>by
         have h1:=List.mem_filter.1 hv
         have h2:v∈aS aA n u:=by rw[←HNB.out];exact List.mem_of_mem_take h1.1
         exact⟨List.mem_filter.2 ⟨h2,h1.2⟩,(bM.1 h2).1⟩)
        simpa using this
       have hD2:D2.length=n:=hmid.len
       have hQ2:Q2.length≤n:=lT hmid.nodup hmid.bd
       have hsu:D2.getD u 0=D.getD u 0:=hmid.same u hum
       obtain⟨r,hr⟩:=hmid.pre
       dsimp only at hr
       have hkl:k<Q2.length:=by rw[hr,List.length_append];have:=HLQ.out;omega
       have hQk:Q2[k]? =some u:=by
        have:=HLQ.out
        rw[hr,List.getElem?_append_left (by omega)];exact HU.out
       have hdu:=cW (D:=D2) (v:=u) (by omega)
       have hdu1: -1≤D2.getD u 0:=(hbd2 _ hdu.2).1
       have hdu2:D2.getD u 0≤(k:Int):=by
        rw[hsu];exact(HBD.out _ (cW (D:=D) (v:=u) (by have:=HI.out.len;dsimp only at this;omega)).2).2
       have HM:=xQ hM
       have HEQ:=xQ heq
       have HBD2:=xQ hbd2
       have HLQ2:=xQ hlq2
       have HQK:=xQ hQk
       have HDU:=xQ hdu.1
       have HSU:=xQ hsu
       have hl2n:l2≤n:=by omega
       have hkl2:k<l2:=by omega
       have hD2':=xQ hD2
       have lt9:=(HM.out.lt (i:=3) rfl rfl).2
       clear hM heq hbd2 hlq2 hQk hdu hsu hr hmid hD2 hkl
       by_cases hlt3:j<nb.length
       ·obtain⟨v,hv⟩: ∃v,nb[j]? =some v:=⟨_,List.getElem?_eq_getElem hlt3⟩
        have hvn:v<n:=(bM.1 (by rw[←HNB.out];exact List.mem_of_getElem? hv:v∈aS aA n u)).1
        have HV:=xQ hv
        clear hv
        obtain⟨gN,rfl,hN1,hN2⟩:=HM.out.some (i:=0) rfl (by omega)
        obtain⟨gL,rfl,hL1,hL2⟩:=HM.out.some (i:=1) rfl (by omega)
        obtain⟨dv,hdv⟩: ∃d,d=D2.getD v 0:=⟨_,rfl⟩
        obtain⟨du,hdu⟩: ∃d,d=D2.getD u 0:=⟨_,rfl⟩
        have hdvm:=cW (D:=D2) (v:=v) (by rw[hD2'.out];exact hvn)
        rw[←hdv]at hdvm
        have HDV:=xQ hdvm.1
        have hdvb:=HBD2.out _ hdvm.2
        have HDV2:=xQ hdv
        have HDU2:=xQ hdu
        rw[←hdu]at hdu1 hdu2
        clear hdv hdu hdvm
        have m1:(0:Int)≤(j:Int):=by omega
        have m2:(j:Int)<(nb.length:Int):=by omega
        have m3:(0:Int)≤(v:Int):=by omega
        have m4:(v:Int)<(n:Int):=by omega
        have m5:(0:Int)≤(u:Int):=by omega
        have m6:(u:Int)<(n:Int):=by omega
        have m7:(0:Int)≤(k:Int):=by omega
        have m8:(k:Int)<(l2:Int):=by omega
        have ne1: ¬(gN=gL):=HM.out.ne (i:=0) (j:=1) (by omega) rfl rfl rfl rfl
        have ne2: ¬(gN=w.heap.size+1):=HM.out.ne (i:=0) (j:=2) (by omega) rfl rfl rfl rfl
        have ne3: ¬(gL=w.heap.size+1):=HM.out.ne (i:=1) (j:=2) (by omega) rfl rfl rfl rfl
        have ne4: ¬(w.heap.size+1=gN):=fun h=>ne2 h.symm
        have ne5: ¬(w.heap.size+1=gL):=fun h=>ne3 h.symm
        have cn:wr.cell? ⟨gN,j,none⟩=some (.int .i64 (v:Int)):=by have:=(HM.out.own (i:=0) rfl).cellAt j (by omega);rw[this];simp[ivs,bD,HV.out]
        have cf:wr.cell? ⟨w.heap.size+1,v,none⟩=some (.int .i64 dv):=by have:=(HM.out.own (i:=2) rfl).cellAt v (by omega);rw[this];simp only[ivs,List.getElem?_map,HDV.out,Option.map_some]
        by_cases hvb:(v:Int)=but
        ·have t1:((v:Int)!=but)=false:=by simp[hvb]
         have hfil:=xQ (aCo HV.out hvb)
         clear hvb
         go_wp2
         go_roundw
         case rel=>exact⟨j+1,some ⟨gL,0,none⟩,l2,lc,D2,Q2,by omega,by go_num,rfl,HLQ2.out,by rw[hfil.out];exact HEQ.out,HBD2.out,HM.out⟩
         case measure=>simp[intOf];omega
        ·have t1:((v:Int)!=but)=true:=by simp[hvb]
         have hfil:=xQ (zN HV.out hvb)
         clear hvb
         by_cases hd0:dv<0
         ·have t2:decide (dv<0)=true:=by simp[hd0]
          have hrel2:Hid ((D2.set v (du+1),Q2++ [v])=bJ (D.getD u 0+1) (D,Q) ((nb.take (j+1)).filter (fun(v:Nat)=>decide ((v:Int)≠but)))):=by
           show _=_
           rw[hfil.out,dG,←HEQ.out,jC (by rw[←HDV2.out];exact hd0),HDU2.out,HSU.out]
          have cl:wr.cell? ⟨gL,k,none⟩=some (.int .i64 (u:Int)):=by have:=(HM.out.own (i:=1) rfl).cellAt k (by omega);rw[this];simp[ivs,bD,HQK.out]
          have cd:wr.cell? ⟨w.heap.size+1,u,none⟩=some (.int .i64 du):=by have:=(HM.out.own (i:=2) rfl).cellAt u (by omega);rw[this,HDU2.out];simp only[ivs,List.getElem?_map,HDU.out,Option.map_some]
          have ff:wr.frozen? ⟨w.heap.size+1,v,none⟩=false:=(HM.out.own (i:=2) rfl).frozenAt v
          have hwr:IntKind.i64.wrap (du+1)=du+1:=IntWalk.i64_in _ (by omega)
          have M6:=xQ (show Mem w (wr.setCell ⟨w.heap.size+1,v,none⟩ (.int .i64 (du+1))) [aJ w.heap.size TI 1 (some ⟨gN,0,none⟩) (nb.length) (c5) (ivs (bD nb)),aJ w.heap.size TI 1 (some ⟨gL,0,none⟩) (l2) (lc) (ivs (bD Q2)),aJ w.heap.size TI 1 (some ⟨w.heap.size+1,0,none⟩) (n) (n) (ivs (D2.set v (du+1))),aL w.heap.size (w.heap.size) TH3 #[aA,aB,.slice p n cap]]from by rw[←dI];exact HM.out.ostore (i:=2) rfl v (.int .i64 (du+1)))
          have hbd3:Hid (∀x∈D2.set v (du+1),-1≤x∧x≤(k:Int)+1):=by
           show∀_,_
           intro x hx
           rcases List.mem_or_eq_of_mem_set hx with h|h
           ·exact HBD2.out x h
           ·omega
          clear hd0
          go_upto_region 17 with fail
          clear cl cd ff cn cf HM
          generalize hw4:World.setCell _ _ _=w4
          rw[hw4]at M6
          clear hw4 ne1 ne2 ne3 ne4 ne5
          go_wp2_with (at_builtin;go_loud (refine bX eP rfl _ _ rfl (M6.out.adv ((Ext.refl _).alloc (.cells #[(v:Int)] TI))) 1 rfl rfl (ivs [(v:Int)]) rfl (dM _ _ _ 1 1 _ (by first|rfl|simp) (by first|rfl|simp) (by simp[maxLen])) (fun u hu=>by obtain rfl:=List.mem_singleton.1 hu;rfl) (by omega) ?_;intro q7 c7 w6 M7))
          have M8:=xQ (show Mem w w6 [aJ w.heap.size TI 1 (some ⟨gN,0,none⟩) (nb.length) (c5) (ivs (bD nb)),aJ w.heap.size TI 1 (q7) (l2+1) (c7) (ivs (bD (Q2++ [v]))),aJ w.heap.size TI 1 (some ⟨w.heap.size+1,0,none⟩) (n) (n) (ivs (D2.set v (du+1))),aL w.heap.size (w.heap.size) TH3 #[aA,aB,.slice p n cap]]from by rw[show ivs (bD (Q2++ [v]))=ivs (bD Q2)++ivs [(v:Int)] by simp[ivs,bD]];exact M7)
          clear M7 M6
          go_wp2
          go_roundw
          case rel=>exact⟨j+1,q7,l2+1,c7,D2.set v (du+1),Q2++ [v],by omega,by go_num,rfl,by simp[HLQ2.out],hrel2.out,hbd3.out,M8.out⟩
          case measure=>simp[intOf];omega
         ·have t2:decide (dv<0)=false:=by simp;omega
          have hrel2:Hid ((D2,Q2)=bJ (D.getD u 0+1) (D,Q) ((nb.take (j+1)).filter (fun(v:Nat)=>decide ((v:Int)≠but)))):=by
           show _=_
           rw[hfil.out,dG,←HEQ.out,kM (by rw[←HDV2.out];exact hd0)]
          clear hd0
          go_wp2
          go_roundw
          case rel=>exact⟨j+1,some ⟨gL,0,none⟩,l2,lc,D2,Q2,by omega,by go_num,rfl,HLQ2.out,hrel2.out,HBD2.out,HM.out⟩
          case measure=>simp[intOf];omega
       ·obtain rfl:nb.length=j:=by omega
        have hinv2:Hid (Inv (mX aA n but) [src] n (k+1) (D2,Q2)):=by
         show Inv _ _ _ _ _
         have h1:=HI.out.step HU.out (fun v hv=>aCy hv)
         have h2:=HEQ.out
         rw[List.take_length,HNB.out]at h2
         rw[h2];exact h1
        have M9:=xQ (show Mem w wr [aJ w.heap.size TI 1 (q) (l2) (lc) (ivs (bD Q2)),aJ w.heap.size TI 1 (some ⟨w.heap.size+1,0,none⟩) (n) (n) (ivs (D2)),aL w.heap.size (w.heap.size) TH3 #[aA,aB,.slice p n cap]]from HM.out.pick [1,2,3] (by decide) rfl)
        clear HM
        go_wp2
        go_roundw
        case rel=>exact⟨k+1,q,l2,lc,D2,Q2,by omega,by go_num,rfl,HLQ2.out,fun x hx=>by have:=HBD2.out x hx;omega,hinv2.out,M9.out⟩
        case measure=>simp[intOf];omega
    ·have hfin:=xQ (HI.out.dist (by have:=HLQ.out;dsimp only;omega))
     go_wp2
     go_ret
     exact⟨D,hfin.out,some ⟨w.heap.size+1,0,none⟩,n,by rw[hfin.out.len];rfl,by rw[hfin.out.len];exact HM.out.own (i:=1) rfl,HM.out.ext⟩
theorem aIu (aA aB:Int)(p:OA)(n cap src:Nat)(but:Int)(xs:List Int)(w:World)(hS:Sl w p n cap 1 (ivs xs))(hok:aP aA aB xs=true)(hs:src<n):
  Calls Tryz.prog 194 #[aI aA aB p n cap,(src:Int),but] w fun e w'=> ∃D,oU (mX aA n but) [src] n D∧aY D w e w':=by
 have hl:=hS.ilen
 obtain⟨g1,g2,g3,g4,g5,g6,g7,g8,g9⟩:=bN hok
 exact aGc aA aB p n cap src but w (by omega) (by omega) hs (fun k hk w' hx=>by
  have:=aBs aA aB k p n cap xs w' (hS.ext hx) hok (by omega) (by omega)
  rwa[jF]at this)
theorem aG9 (aA aB:Int)(p:OA)(n cap u:Nat)(w:World)(hg:Hid ((aA,n)∈fY))(hn0:4≤n)(hn:n≤12)(hu:u<n)
  (HV:xB 80 #[aI aA aB p n cap] w true)
  (HH:Hid (∀(k:Nat),k<n→ ∀w',Calls Tryz.prog 152 #[aI aA aB p n cap,(k:Int)] w' fun e w''=>e= .returned (.bool true)∧Ext w' w''))
  (HF:xC 194 #[aI aA aB p n cap,(),(-1:Int)] w fun w' e w''=> ∃D,(D.length=n∧ ∀v,v<n→D.getD v 0=aZ aA v 0)∧aY D w' e w'')
  (HC:Hid (∀(k:Nat),k<n→ ∀w',Ext w w'→Calls Tryz.prog 195 #[aI aA aB p n cap,(k:Int)] w' (aY (bD (aS aA n k)) w'))):
  Calls Tryz.prog 175 #[aI aA aB p n cap,(u:Int),(),(-1:Int)] w (aY (bD (cR aA n 12 u)) w):=by
 have a1:(0:Int)≤(u:Int):=by omega
 have a2:(u:Int)<(n:Int):=by omega
 have a3:((-1:Int)==(u:Int))=false:=by first|(simp;done)|(simp;omega)
 have a4:decide (((n:Int))≤ -1)=false:=by first|(simp;done)|(simp;omega)
 have HH0:Hid (∀w',Calls Tryz.prog 152 #[aI aA aB p n cap,()] w' fun e w''=>e= .returned (.bool true)∧Ext w' w''):=HH.out 0 (by omega)
 have hap:=xQ (bO hg.out hu)
 go_enter Tryz.func175,Tryz.ntmps175
 go_wp2_with fail
 have M0:=xQ ((Mem.start w).blkNew TH3 #[aA,aB,.slice p n cap] w.heap.size rfl)
 refine(HV.out _ M0.out.ext).mono ?_
 rintro e w1 ⟨rfl,hx1⟩
 have M1:=xQ (M0.out.adv hx1)
 have lt1:=(M1.out.lt (i:=0) rfl rfl).2
 obtain⟨b0,b1,b2⟩:=(M1.out.blk (i:=0) rfl).cells3
 clear hx1 M0
 go_wp2_with fail
 refine(HH.out u hu _).mono ?_
 rintro e w2 ⟨rfl,hx2⟩
 have M2:=xQ (M1.out.adv hx2)
 clear b0 b1 b2 hx2 M1 lt1
 have lt1:=(M2.out.lt (i:=0) rfl rfl).2
 obtain⟨b0,b1,b2⟩:=(M2.out.blk (i:=0) rfl).cells3
 go_wp2_with fail
 refine(HH0.out _).mono ?_
 rintro e w3 ⟨rfl,hx3⟩
 have M3:=xQ (M2.out.adv hx3)
 clear b0 b1 b2 hx3 M2 lt1
 have lt1:=(M3.out.lt (i:=0) rfl rfl).2
 obtain⟨b0,b1,b2⟩:=(M3.out.blk (i:=0) rfl).cells3
 go_wp2_with fail
 refine(HF.out _ M3.out.ext).mono ?_
 rintro e w4 ⟨D,⟨hDl,hDv⟩,q2,c2,rfl,o4,hx4⟩
 rw[hDl]at o4⊢
 have HD:=xQ hDl
 have HDV:=xQ hDv
 have M4:=xQ (M3.out.call hx4 o4)
 clear b0 b1 b2 hx4 o4 M3 lt1 hDl hDv
 obtain⟨gF,rfl,hF1,hF2⟩:=M4.out.some (i:=0) rfl (by omega)
 have cU:w4.cell? ⟨gF,u,none⟩=some (.int .i64 (aZ aA u 0)):=by
  have h1:=(cW (D:=D) (v:=u) (by rw[HD.out];exact hu)).1
  rw[HDV.out u hu]at h1
  have:=(M4.out.own (i:=0) rfl).cellAt u (by omega);rw[this];simp only[ivs,List.getElem?_map,h1,Option.map_some]
 have a5:decide (aZ aA (u:Int) 0<0)=false:=by have:=hap.out.1;first|(simp;done)|(simp;omega)
 have M5:=xQ (M4.out.lit TI 1 1 w4.heap.size #[(u:Int)] rfl rfl (by simp[maxLen]))
 go_wp2
 clear cU M4 hF1 hF2
 go_loopw [10,11] (fun o v wr=> ∃(x f:Nat) (pre:List Nat) (q:OA) (l lc:Nat),o= .slice q l lc∧v= .int .i64 (x:Int)∧x<n∧aZ aA x 0≤f∧pre++cR aA n f x=cR aA n 12 u∧l=pre.length+1∧Mem w wr [aJ w.heap.size TI 1 (q) (l) (lc) (ivs (bD (pre++ [x]))),aJ w.heap.size TI 1 (some ⟨gF,0,none⟩) (n) (c2) (ivs (D)),aL w.heap.size (w.heap.size) TH3 #[aA,aB,.slice p n cap]]) (fun _ v _=>(aZ aA (intOf v) 0).toNat)
 case atStart=>exact⟨u,12,[],some ⟨w4.heap.size,0,none⟩,1,1,rfl,rfl,hu,by have:=hap.out.2.1;omega,rfl,rfl,M5.out⟩
 case round=>
  clear M5
  obtain⟨x,f,pre,q,l,lc,rfl,rfl,hx,hf,hway,hl,hM⟩:=hrel
  have HM:=xQ hM
  have HW:=xQ hway
  have HGX:=xQ (bO hg.out hx)
  have HFL:=xQ hf
  have hlen:l≤12:=by
   have h1:=congrArg List.length hway
   have h2:=kK hg.out f x hx hf
   have h3:=kK hg.out 12 u hu (by have:=hap.out.2.1;omega)
   have h4:=hap.out.2.1
   have h5:=HGX.out.1
   rw[List.length_append]at h1
   omega
  have HLl:=xQ hl
  clear hM hway hf hl
  by_cases h0:x=0
  ·have t0:((x:Int)!=0)=false:=by simp[h0]
   have hfin:Hid (pre++ [x]=cR aA n 12 u):=by
    show _=_
    rw[←HW.out]
    subst h0
    cases f<;>simp[cR]
   clear h0
   go_wp2
   go_ret
   exact cQ (by rw[←hfin.out];have:=HLl.out;simp[bD];omega) (by rw[←hfin.out];exact HM.out.own (i:=0) rfl) HM.out.ext
  ·have t0:((x:Int)!=0)=true:=by simp[h0]
   obtain⟨J,hJ1,hJ2,hJ3⟩:=aCb hg.out hx h0
   obtain⟨e1,e2,e3⟩:=HGX.out.2.2.2.1 h0
   have hx0:=xQ h0
   obtain⟨y,hy⟩: ∃y,y=jG aA n x:=⟨_,rfl⟩
   rw[←hy]at hJ2 e1 e2 e3
   have HY:=xQ hy
   clear hy h0
   obtain⟨nb,hnb⟩: ∃nb,nb=aS aA n x:=⟨_,rfl⟩
   rw[←hnb]at hJ1 hJ2 hJ3
   have HCX:Hid (∀w',Ext w w'→Calls Tryz.prog 195 #[aI aA aB p n cap,(x:Int)] w' (aY (bD nb) w')):=by rw[hnb];exact HC.out x hx
   have HNB:=xQ hnb
   have hnb12:nb.length≤12:=by rw[hnb];exact Nat.le_trans (List.length_filter_le _ _) (by simp;omega)
   have hJ2':=xQ hJ2
   have hJ3':=xQ hJ3
   have hE3:=xQ e3
   clear hnb hJ2 hJ3 e2 e3
   have hnbl:(bD nb).length=nb.length:=by simp[bD]
   have lt1:=(HM.out.lt (i:=2) rfl rfl).2
   obtain⟨b0,b1,b2⟩:=(HM.out.blk (i:=2) rfl).cells3
   go_wp2_with fail
   clear b0 b1 b2
   refine(HCX.out _ HM.out.ext).mono ?_
   rintro e w5 ⟨q5,c5,rfl,o5,hx5⟩
   rw[hnbl]at o5⊢
   have M6:=xQ (HM.out.call hx5 o5)
   clear o5 hx5 HCX HM lt1
   obtain⟨gN,rfl,hN1,hN2⟩:=M6.out.some (i:=0) rfl (by omega)
   clear hN1 hN2
   go_wp2
   go_loopw [11,69] (fun cc i wz=> ∃j:Nat,j≤J∧cc= .int .i64 (x:Int)∧i= .int .i64 (j:Int)∧Mem w wz [aJ w.heap.size TI 1 (some ⟨gN,0,none⟩) (nb.length) (c5) (ivs (bD nb)),aJ w.heap.size TI 1 (q) (l) (lc) (ivs (bD (pre++ [x]))),aJ w.heap.size TI 1 (some ⟨gF,0,none⟩) (n) (c2) (ivs (D)),aL w.heap.size (w.heap.size) TH3 #[aA,aB,.slice p n cap]]) (fun _ i _=>J-(intOf i).toNat)
   case atStart=>exact⟨0,Nat.zero_le _,rfl,rfl,M6.out⟩
   case round=>
    clear M6
    obtain⟨j,hj,rfl,rfl,hM⟩:=hrel
    have HM:=xQ hM
    clear hM
    obtain⟨v,hv⟩: ∃v,nb[j]? =some v:=⟨_,List.getElem?_eq_getElem (by omega)⟩
    have hvn:v<n:=(bM.1 (by rw[←HNB.out];exact List.mem_of_getElem? hv:v∈aS aA n x)).1
    have HVV:=xQ hv
    have hdv:=(cW (D:=D) (v:=v) (by rw[HD.out];exact hvn)).1
    have hdx:=(cW (D:=D) (v:=x) (by rw[HD.out];exact hx)).1
    rw[HDV.out v hvn]at hdv
    rw[HDV.out x hx]at hdx
    obtain⟨dv,hdv2⟩: ∃d,d=aZ aA v 0:=⟨_,rfl⟩
    obtain⟨dx,hdx2⟩: ∃d,d=aZ aA x 0:=⟨_,rfl⟩
    have gv:=bO hg.out hvn
    have gx:=HGX.out
    rw[←hdv2]at hdv gv
    rw[←hdx2]at hdx gx
    have m1:(0:Int)≤(j:Int):=by omega
    have m2:(j:Int)<(nb.length:Int):=by omega
    have m3:(0:Int)≤(v:Int):=by omega
    have m4:(v:Int)<(n:Int):=by omega
    have m5:(0:Int)≤(x:Int):=by omega
    have m6:(x:Int)<(n:Int):=by omega
    have w7:IntKind.i64.wrap (dx-1)=dx-1:=IntWalk.i64_in _ (by omega)
    have cn:wr.cell? ⟨gN,j,none⟩=some (.int .i64 (v:Int)):=by have:=(HM.out.own (i:=0) rfl).cellAt j (by omega);rw[this];simp[ivs,bD,HVV.out]
    have cf:wr.cell? ⟨gF,v,none⟩=some (.int .i64 dv):=by have:=(HM.out.own (i:=2) rfl).cellAt v (by omega);rw[this];simp only[ivs,List.getElem?_map,hdv,Option.map_some]
    have cx:wr.cell? ⟨gF,x,none⟩=some (.int .i64 dx):=by have:=(HM.out.own (i:=2) rfl).cellAt x (by omega);rw[this];simp only[ivs,List.getElem?_map,hdx,Option.map_some]
    by_cases hjJ:j<J
    ·have hne2:(dv==dx-1)=false:=by
      have:=hJ3'.out j v hjJ HVV.out
      rw[←hdv2,←hdx2]at this
      exact beq_eq_false_iff_ne.2 this
     clear hdv hdx hdv2 hdx2 gv gx
     go_wp2
     go_quiet (fail)
     go_wp2
     go_roundw
     case rel=>exact⟨j+1,by omega,rfl,by go_num,HM.out.adv xE⟩
     case measure=>simp[intOf];omega
    ·obtain rfl:j=J:=by omega
     have hvy:v=y:=by
      have h1:=HVV.out
      rw[hJ2'.out]at h1
      injection h1 with h1;exact h1.symm
     subst hvy
     have hne2:(dv==dx-1)=true:=by
      have:=hE3.out
      rw[←hdv2,←hdx2]at this
      simp[this]
     have hax:=xQ (show 1≤aZ aA (x:Int) 0 by have h1:=(bO hg.out hvn).1;have h2:=hE3.out;omega)
     clear hdv hdx hdv2 gv
     go_wp2
     go_quiet (fail)
     generalize hwq:World.drewN _ _=wq
     have M7:=xQ (show Mem w wq [aJ w.heap.size TI 1 (q) (l) (lc) (ivs (bD (pre++ [x]))),aJ w.heap.size TI 1 (some ⟨gF,0,none⟩) (n) (c2) (ivs (D)),aL w.heap.size (w.heap.size) TH3 #[aA,aB,.slice p n cap]]from by rw[←hwq];exact(HM.out.adv xE).pick [1,2,3] (by decide) rfl)
     clear hwq cn cf cx HM
     go_wp2_with (at_builtin;go_loud (refine bX eP rfl _ _ rfl (M7.out.adv ((Ext.refl _).alloc (.cells #[(v:Int)] TI))) 0 rfl rfl (ivs [(v:Int)]) rfl (dM _ _ _ 1 1 _ (by first|rfl|simp) (by first|rfl|simp) (by simp[maxLen])) (fun u hu=>by obtain rfl:=List.mem_singleton.1 hu;rfl) (by omega) ?_;intro q7 c7 w6 M8))
     have M9:=xQ (show Mem w w6 [aJ w.heap.size TI 1 (q7) (l+1) (c7) (ivs (bD (pre++ [x]++ [v]))),aJ w.heap.size TI 1 (some ⟨gF,0,none⟩) (n) (c2) (ivs (D)),aL w.heap.size (w.heap.size) TH3 #[aA,aB,.slice p n cap]]from by rw[show ivs (bD (pre++ [x]++ [v]))=ivs (bD (pre++ [x]))++ivs [(v:Int)] by simp[ivs,bD]];exact M8)
     clear M8 M7
     have hf9:0<f:=by have:=HFL.out;have:=hax.out;omega
     obtain⟨f',rfl⟩: ∃f',f=f'+1:=⟨f-1,by omega⟩
     have hway9:Hid ((pre++ [x])++cR aA n f' v=cR aA n 12 u):=by
      show _=_
      rw[←HW.out]
      conv=>rhs;rw[cR,if_neg hx0.out,←HY.out]
      simp
     go_wp2
     go_roundw
     case rel=>exact⟨v,f',pre++ [x],q7,l+1,c7,rfl,by go_num,hvn,by have:=hE3.out;have:=HFL.out;omega,hway9.out,by have:=HLl.out;simp;omega,M9.out⟩
     case measure=>simp[intOf];have:=hE3.out;have:=hax.out;omega
theorem aIt (aA aB:Int)(p:OA)(n cap u:Nat)(xs:List Int)(w:World)(hS:Sl w p n cap 1 (ivs xs))(hok:aP aA aB xs=true)(hu:u<n):
  Calls Tryz.prog 175 #[aI aA aB p n cap,(u:Int),(),(-1:Int)] w (aY (bD (cR aA n 12 u)) w):=by
 have hl:=hS.ilen
 obtain⟨g1,g2,g3,g4,g5,g6,g7,g8,g9⟩:=bN hok
 have hg:=nP (n:=n) g1 g2 g3 g4 (by omega)
 refine aG9 aA aB p n cap u w hg (by omega) (by omega) hu (fun w' hx=>by have:=fJ aA aB p n cap xs w' (hS.ext hx);rwa[hok]at this) (fun k hk w'=> ?_) (fun w' hx=> ?_) (fun k hk w' hx=> ?_)
 ·have:=gM aA aB k p n cap w' (by omega)
  rwa[decide_eq_true (⟨by omega,by omega⟩:0≤(k:Int)∧(k:Int)<n)]at this
 ·refine(aIu aA aB p n cap 0 (-1) xs w' (hS.ext hx) hok (by omega)).mono ?_
  rintro e w2 ⟨D,hD,hr⟩
  exact⟨D,⟨hD.len,fun v hv=>uK hg (aA0 aA n) hD hv⟩,hr⟩
 ·have:=aBs aA aB k p n cap xs w' (hS.ext hx) hok (by omega) (by omega)
  rwa[jF]at this
end Go.Proofs.YtgnkoffndhmhpaaGreatDoor
