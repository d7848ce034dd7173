/-
  Texts of this proof, packed (@packed).
-/
import Derived.Test.YtgnkoffndhmhpaaGreatDoorP12
import Derived.Test.YtgnkoffndhmhpaaGreatDoorP16
import Derived.Test.YtgnkoffndhmhpaaGreatDoorP28
namespace Go.Proofs.YtgnkoffndhmhpaaGreatDoor
open Go.RowKit
set_option linter.unusedVariables false
set_option linter.unusedSimpArgs false
set_option maxHeartbeats 8000000
set_option maxRecDepth 100000
theorem aIw (aA aB cell:Int)(p:OA)(n cap:Nat)(w:World)(hn:n≤12)(h0:0≤cell)(h1:cell<n)
  (HV:xB 80 #[aH aA aB p n cap] w true)
  (HH:Hid (∀w',Calls Tryz.prog 152 #[aH aA aB p n cap,cell] w' fun e w''=>e= .returned (.bool true)∧Ext w' w''))
  (HA:Hid (∀(k:Nat),k<n→ ∀w',Calls Tryz.prog 153 #[aA,cell,(k:Int)] w' fun e w''=>e= .returned (.int .i64 (aW aA cell k))∧Ext w' w'')):
  Calls Tryz.prog 195 #[aH aA aB p n cap,cell] w (aX (iY aA n cell) w):=by
 go_enter Tryz.func195,Tryz.ntmps195
 go_wp2_with fail
 refine(HV _ xE).mono ?_
 rintro e w1 ⟨rfl,t⟩
 have B1:=xQ ((Blk.new w TH3 #[aA,aB,.slice p n cap]).ext t)
 have X1:=xQ (show Ext w w1 from xE)
 have u:=B1.out.lt
 obtain⟨b0,b1,b2⟩:=B1.out.cells3
 clear t
 go_wp2_with fail
 refine(HH _).mono ?_
 rintro e w2 ⟨rfl,j⟩
 clear b0 b1 b2
 have B2:=xQ (B1.out.ext j)
 have X2:=xQ (X1.out.trans j)
 have aa:=B2.out.lt
 obtain⟨b0,b1,b2⟩:=B2.out.cells3
 clear j B1 X1 u
 go_wp2
 go_loopw [5,19] (fun v i wr=> ∃(k:Nat) (q:OA) (m c:Nat),k≤n∧i= .int .i64 k∧v= .slice q m c∧m≤k∧wr.ownsRow (w.heap.size+1) TI 1 (.slice q m c) m (ivs (eT (fun b=>decide (aW aA cell b=1)) k))∧Ext w wr∧Blk wr w.heap.size TH3 #[aA,aB,.slice p n cap]) (fun _ i _=>n-(intOf i).toNat)
 case atStart=>exact⟨0,_,0,0,Nat.zero_le _,rfl,rfl,Nat.le_refl _,World.ownsRow_nil _ _ _ _,X2.out,B2.out⟩
 case round=>
  clear b0 b1 b2 B2 X2
  obtain⟨k,q,m,c,hk,rfl,rfl,ad,h,r,hB⟩:=hrel
  have HO:=xQ h
  have HB:=xQ hB
  have u:w.heap.size<wr.heap.size:=hB.lt
  clear h hB
  obtain⟨b0,b1,b2⟩:=HB.out.cells3
  by_cases hlt:k<n
  ·go_wp2_with fail
   refine(HA k hlt _).mono ?_
   rintro e w1 ⟨rfl,h1⟩
   have f:=xQ (bC HO h1)
   have l:=xQ (HB.out.ext h1)
   have g:=xQ (r.trans h1)
   have ab:w.heap.size<w1.heap.size:=l.out.lt
   clear h1 b0 b1 b2 HO HB r
   by_cases hx0:aW aA cell k=1
   ·have t0:(aW aA cell k==1)=true:=by simp[hx0]
    have a:Hid (eT (fun b=>decide (aW aA cell b=1)) (k+1)=eT (fun b=>decide (aW aA cell b=1)) k++ [(k:Int)]):=by
     show _=_;rw[eT,if_pos (by simpa using hx0)]
    clear hx0
    go_wp2_with (at_builtin;refine cI eS rfl _ _ rfl (w.heap.size+1) _ _ _ rfl (f.out.alloc _) _ _ (k:Int) _ rfl (by simp) (by omega) (by first|(simp;done)|(simp;omega)) ?_;intro p' s w2 d o;have z:=xQ d;have x:Ext w w2:=Ext.own (g.out.alloc _) (f.out.alloc _) o (by omega);have y:=xQ (oR f o l.out);clear d o)
    go_roundw
    case rel=>exact⟨k+1,p',m+1,s,by omega,by go_num,rfl,by omega,by rw[a.out];exact z.out,x,y.out⟩
    case measure=>simp[intOf];omega
   ·have t0:(aW aA cell k==1)=false:=by simp[hx0]
    have a:Hid (eT (fun b=>decide (aW aA cell b=1)) (k+1)=eT (fun b=>decide (aW aA cell b=1)) k):=by
     show _=_;rw[eT,if_neg (by simpa using hx0),List.append_nil]
    clear hx0
    go_wp2
    go_roundw
    case rel=>exact⟨k+1,q,m,c,by omega,by go_num,rfl,by omega,by rw[a.out];exact f.out,g.out,l.out⟩
    case measure=>simp[intOf];omega
  ·have a:Hid (eT (fun b=>decide (aW aA cell b=1)) k=iY aA n cell):=by
    show _=_;unfold iY;rw[show k=n by omega]
   go_wp2
   go_ret
   exact dA (by rw[←a.out];have:=HO.out.1;simpa using this) (by rw[←a.out];exact bH HO (Nat.le_succ _)) r
theorem aDw (aA aB cell:Int)(p:OA)(n cap:Nat)(xs:List Int)(w:World)(hS:Sl w p n cap 1 (ivs xs))(hok:aN aA aB xs=true)(h0:0≤cell)(h1:cell<n):
  Calls Tryz.prog 195 #[aH aA aB p n cap,cell] w (aX (iY aA n cell) w):=by
 have hl:=hS.ilen
 obtain⟨g1,g2,g3,g4,g5,g6,g7,g8,g9⟩:=bM hok
 refine aIw aA aB cell p n cap w (by omega) h0 h1 (fun w' hx=>by have:=fI aA aB p n cap xs w' (hS.ext hx);rwa[hok]at this) (fun w'=> ?_) (fun k hk w'=>lM aA cell k w' h0 (by omega) (by omega) (by omega) (by omega) (by omega))
 have:=iL aA aB cell p n cap w' (by omega)
 rwa[decide_eq_true (⟨h0,h1⟩:0≤cell∧cell<n)]at this
theorem aEh {k n:Nat}(h:k<n):(List.replicate k (-1:Int)++List.replicate (n-k) 0).set k (-1)=List.replicate (k+1) (-1)++List.replicate (n-(k+1)) 0:=by
 have e:n-k=(n-(k+1))+1:=by omega
 rw[e,List.replicate_succ,List.set_append_right _ _ (by simp),List.replicate_succ',List.append_assoc]
 simp
theorem aIk (aA aB:Int)(p:OA)(n cap src:Nat)(but:Int)(w:World)(hn0:4≤n)(hn:n≤12)(hs:src<n)
  (HC:Hid (∀(k:Nat),k<n→ ∀w',Ext w w'→Calls Tryz.prog 195 #[aH aA aB p n cap,(k:Int)] w' (aX (bE (aT aA n k)) w'))):
  Calls Tryz.prog 194 #[aH aA aB p n cap,(src:Int),but] w fun e w'=> ∃D,qR (oW aA n but) [src] n D∧aX D w e w':=by
 obtain⟨AR,ae⟩: ∃AR:Array Value,AR=madeCells #[()] n:=⟨_,rfl⟩
 have bi: ∀w:World,(Instr.makeSlice 22 (.int .i64 (n:Int)) (.int .i64 (n:Int))).run Tryz.prog w= .ok (.slice (some ⟨w.heap.size,0,none⟩) n n) (w.alloc (.cells AR TI)):=fun w=>by
  rw[ae]
  exact run_make_row' _ _ (.int .i64 0) 8 Tryz.underlying22 (by kernel_rfl) rfl .i64 .i64 n (by omega) (by omega) w
 have a7:Hid (AR.toList=ivs (List.replicate 0 (-1)++List.replicate (n-0) 0)):=by
  show _=_
  rw[ae,(mP n).1];simp
 have a2:Hid (AR.size=n):=by show _=_;rw[ae];exact(mP n).2
 clear ae
 go_enter Tryz.func194,Tryz.ntmps194
 go_wp2
 have ME:=xQ (show Mem w ((w.alloc (.cells #[aA,aB,.slice p n cap] TH3)).alloc (.cells AR TI)) [aJ w.heap.size TI 1 (some ⟨w.heap.size+1,0,none⟩) (n) (n) (ivs (List.replicate 0 (-1)++List.replicate (n-0) 0)),aI w.heap.size (w.heap.size) TH3 #[aA,aB,.slice p n cap]]from by rw[←a7.out];exact((Mem.start w).bn TH3 #[aA,aB,.slice p n cap] w.heap.size).lit TI 1 n _ AR (by simp) (by rw[a2.out];omega) (by simp[maxLen];omega))
 clear a7 a2 bi
 go_loopw [19] (fun i wr=> ∃(k:Nat),k≤n∧i= .int .i64 (k:Int)∧Mem w wr [aJ w.heap.size TI 1 (some ⟨w.heap.size+1,0,none⟩) (n) (n) (ivs (List.replicate k (-1)++List.replicate (n-k) 0)),aI w.heap.size (w.heap.size) TH3 #[aA,aB,.slice p n cap]]) (fun i _=>n-(intOf i).toNat)
 case atStart=>exact⟨0,Nat.zero_le _,rfl,ME.out⟩
 case round=>
  clear ME
  obtain⟨k,hk,rfl,hM⟩:=hrel
  have HM:=xQ hM
  clear hM
  have bo:=(HM.out.hi 1)
  by_cases hlt:k<n
  ·have i1:(0:Int)≤(k:Int):=by omega
   have i2:(k:Int)<(n:Int):=by omega
   have hl:(List.replicate k (-1:Int)++List.replicate (n-k) 0)[k]? =some 0:=by
    rw[List.getElem?_append_right (by simp)]
    simp[List.getElem?_replicate];omega
   have a9:wr.cell? ⟨w.heap.size+1,k,none⟩=some (.int .i64 0):=by
    have:=(HM.out.ow 0).cellAt k (by omega);rw[this];simp only[ivs,List.getElem?_map,hl,Option.map_some]
   have a3:wr.frozen? ⟨w.heap.size+1,k,none⟩=false:=(HM.out.ow 0).frozenAt k
   clear hl
   have M2:=xQ (HM.out.ostore (i:=0) rfl k (.int .i64 (-1)))
   go_wp2
   go_roundw
   case rel=>exact⟨k+1,by omega,by go_num,by have:=M2.out;rw[dV,aEh hlt]at this;exact this⟩
   case measure=>simp[intOf];omega
  ·obtain rfl:n=k:=by omega
   rw[Nat.sub_self,show List.replicate n (-1:Int)++List.replicate 0 0=List.replicate n (-1) by simp]at HM
   have i1:(0:Int)≤(src:Int):=by omega
   have i2:(src:Int)<(n:Int):=by omega
   have a9:wr.cell? ⟨w.heap.size+1,src,none⟩=some (.int .i64 (-1)):=by
    have:=(HM.out.ow 0).cellAt src (by omega);rw[this];simp[ivs,hs]
   have a3:wr.frozen? ⟨w.heap.size+1,src,none⟩=false:=(HM.out.ow 0).frozenAt src
   have M2:=xQ (HM.out.ostore (i:=0) rfl src (.int .i64 0))
   rw[show Hid (Mem w (wr.setCell ⟨w.heap.size+1,src,none⟩ (.int .i64 0)) (List.set [aJ w.heap.size TI 1 (some ⟨w.heap.size+1,0,none⟩) (n) (n) (ivs (List.replicate n (-1))),aI w.heap.size (w.heap.size) TH3 #[aA,aB,.slice p n cap]] 0 (aJ w.heap.size TI 1 (some ⟨w.heap.size+1,0,none⟩) n n (List.set (ivs (List.replicate n (-1))) src (.int .i64 0)))))=Hid (Mem w (wr.setCell ⟨w.heap.size+1,src,none⟩ (.int .i64 0)) [aJ w.heap.size TI 1 (some ⟨w.heap.size+1,0,none⟩) (n) (n) (ivs ((List.replicate n (-1)).set src 0)),aI w.heap.size (w.heap.size) TH3 #[aA,aB,.slice p n cap]]) by rw[dV];rfl]at M2
   go_upto_region 8 with fail
   clear a9 a3 HM bo
   generalize a0:World.setCell _ _ _=w1
   rw[a0]at M2
   clear a0
   have I1:=xQ (Inv.one (adj:=oW aA n but) hs)
   have M3:=xQ (M2.out.lit TI 1 1 w1.heap.size #[(src:Int)] rfl rfl (by simp[maxLen]))
   clear M2
   go_wp2
   go_loopw [9,10] (fun v i wr=> ∃(k:Nat) (q:OA) (l lc:Nat) (D:List Int) (Q:List Nat),k≤l∧i= .int .i64 (k:Int)∧v= .slice q l lc∧l=Q.length∧(∀x∈D,-1≤x∧x≤k)∧Inv (oW aA n but) [src] n k (D,Q)∧Mem w wr [aJ w.heap.size TI 1 (q) (l) (lc) (ivs (bE Q)),aJ w.heap.size TI 1 (some ⟨w.heap.size+1,0,none⟩) (n) (n) (ivs (D)),aI w.heap.size (w.heap.size) TH3 #[aA,aB,.slice p n cap]]) (fun _ i _=>n-(intOf i).toNat)
   case atStart=>exact⟨0,some ⟨w1.heap.size,0,none⟩,1,1,_,[src],Nat.zero_le _,rfl,rfl,rfl,aI4 _ _,I1.out,M3.out⟩
   case round=>
    clear M3 I1
    obtain⟨k,q,l,lc,D,Q,hk,rfl,rfl,aj,aq,t,hM⟩:=hrel
    have HM:=xQ hM
    have HI:=xQ t
    have z:=xQ aj
    have b1:l≤n:=by rw[aj];exact t.qlen
    have az:=xQ aq
    clear hM t aj aq
    by_cases hlt2:k<l
    ·obtain⟨u,hu⟩: ∃u,Q[k]? =some u:=⟨_,List.getElem?_eq_getElem (by rw[←z.out];exact hlt2)⟩
     have bl:u<n:=HI.out.bd u (List.mem_of_getElem? hu)
     have HU:=xQ hu
     clear hu
     obtain⟨gL,rfl,ar,ak⟩:=HM.out.so 0
     have i3:(0:Int)≤(k:Int):=by omega
     have i4:(k:Int)<(l:Int):=by omega
     have i5:(0:Int)≤(u:Int):=by omega
     have i6:(u:Int)<(n:Int):=by omega
     have cu:wr.cell? ⟨gL,k,none⟩=some (.int .i64 (u:Int)):=by
      have:=(HM.out.ow 0).cellAt k (by omega);rw[this];simp[ivs,bE,HU.out]
     obtain⟨nb,ad⟩: ∃nb,nb=aT aA n u:=⟨_,rfl⟩
     have ao:=xQ ad
     have a5:Hid (∀w',Ext w w'→Calls Tryz.prog 195 #[aH aA aB p n cap,(u:Int)] w' (aX (bE nb) w')):=by rw[ad];exact HC u bl
     have bh:nb.length≤n:=by rw[ad];exact Nat.le_trans (List.length_filter_le _ _) (by simp)
     clear ad
     have au:(bE nb).length=nb.length:=by simp[bE]
     go_wp2
     refine rL (gl [gEq (.agg #[aA,aB,.slice p n cap]),gEq (.slice (some ⟨gL,0,none⟩) l lc),gEq (k:Int),gEq (.pointer (some ⟨gL,k,none⟩)),gEq (u:Int),(fun v w'=> ∃q c,v= .slice q nb.length c∧w'.ownsRow wr.heap.size TI 1 (.slice q nb.length c) nb.length (ivs (bE nb))),gEq (nb.length:Int),gEq (.int .i64 0)]) 8 8 [(0,some 37),(1,some 38),(2,some 39),(3,some 40),(4,some 41),(5,some 42),(6,some 43),(7,some 44)] ?steps ?fin (hG:=(oM (bV (bZ _) (bV (bZ _) (bV (bZ _) (bV (bZ _) (bV (bZ _) (bV (fun v w w' ⟨q,c,he,ho⟩ hx=>⟨q,c,he,bC ho hx⟩) (bV (bZ _) (bV (bZ _) (rM)))))))))))
     case steps=>
      refine sC [] rfl (fun wi hx=> ?_) ?_
      ·intro K hK
       have hX:Ext wr wi:=xE
       obtain⟨bm,b5,b4⟩:=((HM.out.bk 2).ext hX).tri
       go_simp
       exact hK _ _ ⟨.agg #[aA,aB,.slice p n cap],rfl,rfl,Ext.refl _⟩
      refine sS0 [] (sS0 [] (sS2 [(1,some 38),(2,some 39)] ?_))
      refine sC [(3,some 40)] rfl (fun wi hx=> ?_) ?_
      ·intro v3 h3 K hK
       obtain rfl:=h3
       have hX:Ext wr wi:=xE
       have bm:wi.cell? ⟨gL,k,none⟩=some (.int .i64 (u:Int)):=(hX.cells.1 _ _ ak).trans cu
       go_simp
       exact hK _ _ ⟨.int .i64 (u:Int),rfl,rfl,Ext.refl _⟩
      refine sC [(0,some 37),(4,some 41)] rfl (fun wi hx=> ?_) ?_
      ·intro v0 h0 v4 h4 K hK
       obtain rfl:=h0
       obtain rfl:=h4
       go_wp2_with fail
       refine(a5 _ (HM.out.ext.trans hx.of_drew)).mono ?_
       rintro e w5 ⟨q5,c5,rfl,o5,bg⟩
       rw[au]at o5⊢
       go_simp
       exact hK _ _ ⟨.slice q5 nb.length c5,rfl,⟨q5,c5,rfl,bH o5 (by have:=hx.sz;simpa using this)⟩,bg⟩
      refine sC [(5,some 42)] rfl (fun wi hx=> ?_) ?_
      ·intro v5 h5 K hK
       obtain⟨q5,c5,rfl,an⟩:=h5
       go_simp
       exact hK _ _ ⟨.int .i64 (nb.length:Int),rfl,rfl,Ext.refl _⟩
      exact sS0 [] StepsL.nil
     case fin=>
      intro wi hx v0 h0 v1 h1 v2 h2 v3 h3 v4 h4 v5 h5 v6 h6 v7 h7
      obtain rfl:=h0
      obtain rfl:=h1
      obtain rfl:=h2
      obtain rfl:=h3
      obtain rfl:=h4
      obtain⟨q5,c5,rfl,an⟩:=h5
      obtain rfl:=h6
      obtain rfl:=h7
      have M5:=xQ (show Mem w wi [aJ w.heap.size TI 1 (q5) (nb.length) (c5) (ivs (bE nb)),aJ w.heap.size TI 1 (some ⟨gL,0,none⟩) (l) (lc) (ivs (bE Q)),aJ w.heap.size TI 1 (some ⟨w.heap.size+1,0,none⟩) (n) (n) (ivs (D)),aI w.heap.size (w.heap.size) TH3 #[aA,aB,.slice p n cap]]from HM.out.ownNew hx.of_drew an (Nat.le_refl _))
      clear an hx cu HM a5 i3 i4 i5 i6 ar ak
      refine wpAny_done (by kernel_rfl) ?_ _
      try simp only[Act.put,List.setIfInBounds_toArray,List.set_cons_zero,List.set_cons_succ]
      go_wp2
      go_loopw [9,44] (fun v i wr=> ∃(j:Nat) (q:OA) (l2 lc:Nat) (D2:List Int) (Q2:List Nat),j≤nb.length∧i= .int .i64 (j:Int)∧v= .slice q l2 lc∧l2=Q2.length∧(D2,Q2)=bJ (D.getD u 0+1) (D,Q) ((nb.take j).filter (fun(v:Nat)=>decide ((v:Int)≠but)))∧(∀x∈D2,-1≤x∧x≤(k:Int)+1)∧Mem w wr [aJ w.heap.size TI 1 (q5) (nb.length) (c5) (ivs (bE nb)),aJ w.heap.size TI 1 (q) (l2) (lc) (ivs (bE Q2)),aJ w.heap.size TI 1 (some ⟨w.heap.size+1,0,none⟩) (n) (n) (ivs (D2)),aI w.heap.size (w.heap.size) TH3 #[aA,aB,.slice p n cap]]) (fun _ i _=>nb.length-(intOf i).toNat)
      case atStart=>exact⟨0,some ⟨gL,0,none⟩,l,lc,D,Q,Nat.zero_le _,rfl,rfl,z.out,by simp[bJ],fun x hx=>by have:=az x hx;omega,M5.out⟩
      case round=>
       clear M5
       obtain⟨j,q,l2,lc,D2,Q2,hj,rfl,rfl,ag,ai,y,hM⟩:=hrel
       have a8:u∈Q:=List.mem_of_getElem? HU.out
       have a:Mid (oW aA n but) [src] n k u ((nb.take j).filter (fun(v:Nat)=>decide ((v:Int)≠but))) (D,Q) (D2,Q2):=by
        rw[ai]
        have:=Mid.many a8 ((nb.take j).filter (fun(v:Nat)=>decide ((v:Int)≠but))) [] (D,Q) (HI.out.mid HU.out) (fun v hv=>by
         have h1:=List.mem_filter.1 hv
         have h2:v∈aT aA n u:=by rw[←ao.out];exact List.mem_of_mem_take h1.1
         exact⟨List.mem_filter.2 ⟨h2,h1.2⟩,(bR.1 h2).1⟩)
        simpa using this
       have bb:D2.length=n:=a.len
       have bx:Q2.length≤n:=nL a.nodup a.bd
       have ap:D2.getD u 0=D.getD u 0:=a.same u a8
       obtain⟨r,hr⟩:=a.pre
       dsimp only at hr
       have bp:k<Q2.length:=by rw[hr,List.length_append];have:=z.out;omega
       have a1:Q2[k]? =some u:=by
        have:=z.out
        rw[hr,List.getElem?_append_left (by omega)];exact HU.out
       have f:=dE (D:=D2) (v:=u) (by omega)
       have aw: -1≤D2.getD u 0:=(y _ f.2).1
       have ay:D2.getD u 0≤(k:Int):=by
        rw[ap];exact(az _ (dE (D:=D) (v:=u) (by have:=HI.out.len;dsimp only at this;omega)).2).2
       have HM:=xQ hM
       have ab:=xQ ai
       have b:=xQ y
       have o:=xQ ag
       have be:=xQ a1
       have bs:=xQ f.1
       have bq:=xQ ap
       have bu:l2≤n:=by omega
       have bw:k<l2:=by omega
       have ax:=xQ bb
       have b3:=(HM.out.hi 3)
       clear hM ai y ag a1 f ap hr a bb bp
       by_cases hlt3:j<nb.length
       ·obtain⟨v,hv⟩: ∃v,nb[j]? =some v:=⟨_,List.getElem?_eq_getElem hlt3⟩
        have bf:v<n:=(bR.1 (by rw[←ao.out];exact List.mem_of_getElem? hv:v∈aT aA n u)).1
        have HV:=xQ hv
        clear hv
        obtain⟨gN,rfl,b2,bz⟩:=HM.out.so 0
        obtain⟨gL,rfl,ar,ak⟩:=HM.out.so 1
        obtain⟨dv,al⟩: ∃d,d=D2.getD v 0:=⟨_,rfl⟩
        obtain⟨du,f⟩: ∃d,d=D2.getD u 0:=⟨_,rfl⟩
        have s:=dE (D:=D2) (v:=v) (by rw[ax.out];exact bf)
        rw[←al]at s
        have br:=xQ s.1
        have bv:=b _ s.2
        have af:=xQ al
        have ah:=xQ f
        rw[←f]at aw ay
        clear al f s
        have m1:(0:Int)≤(j:Int):=by omega
        have m2:(j:Int)<(nb.length:Int):=by omega
        have m3:(0:Int)≤(v:Int):=by omega
        have m4:(v:Int)<(n:Int):=by omega
        have m5:(0:Int)≤(u:Int):=by omega
        have m6:(u:Int)<(n:Int):=by omega
        have m7:(0:Int)≤(k:Int):=by omega
        have m8:(k:Int)<(l2:Int):=by omega
        have bc: ¬(gN=gL):=HM.out.ne (i:=0) (j:=1) (by omega) rfl rfl rfl rfl
        have ba: ¬(gN=w.heap.size+1):=HM.out.ne (i:=0) (j:=2) (by omega) rfl rfl rfl rfl
        have a4: ¬(gL=w.heap.size+1):=HM.out.ne (i:=1) (j:=2) (by omega) rfl rfl rfl rfl
        have bt: ¬(w.heap.size+1=gN):=fun h=>ba h.symm
        have bj: ¬(w.heap.size+1=gL):=fun h=>a4 h.symm
        have cn:wr.cell? ⟨gN,j,none⟩=some (.int .i64 (v:Int)):=by have:=(HM.out.ow 0).cellAt j (by omega);rw[this];simp[ivs,bE,HV.out]
        have cf:wr.cell? ⟨w.heap.size+1,v,none⟩=some (.int .i64 dv):=by have:=(HM.out.ow 2).cellAt v (by omega);rw[this];simp only[ivs,List.getElem?_map,br.out,Option.map_some]
        by_cases hvb:(v:Int)=but
        ·have t1:((v:Int)!=but)=false:=by simp[hvb]
         have m:=xQ (aEu HV hvb)
         clear hvb
         go_wp2
         go_roundw
         case rel=>exact⟨j+1,some ⟨gL,0,none⟩,l2,lc,D2,Q2,by omega,by go_num,rfl,o.out,by rw[m.out];exact ab.out,b.out,HM.out⟩
         case measure=>simp[intOf];omega
        ·have t1:((v:Int)!=but)=true:=by simp[hvb]
         have m:=xQ (aBk HV hvb)
         clear hvb
         by_cases hd0:dv<0
         ·have t2:decide (dv<0)=true:=by simp[hd0]
          have g:Hid ((D2.set v (du+1),Q2++ [v])=bJ (D.getD u 0+1) (D,Q) ((nb.take (j+1)).filter (fun(v:Nat)=>decide ((v:Int)≠but)))):=by
           show _=_
           rw[m.out,dP,←ab.out,kI (by rw[←af.out];exact hd0),ah.out,bq.out]
          have cl:wr.cell? ⟨gL,k,none⟩=some (.int .i64 (u:Int)):=by have:=(HM.out.ow 1).cellAt k (by omega);rw[this];simp[ivs,bE,be.out]
          have cd:wr.cell? ⟨w.heap.size+1,u,none⟩=some (.int .i64 du):=by have:=(HM.out.ow 2).cellAt u (by omega);rw[this,ah.out];simp only[ivs,List.getElem?_map,bs.out,Option.map_some]
          have ff:wr.frozen? ⟨w.heap.size+1,v,none⟩=false:=(HM.out.ow 2).frozenAt v
          have b0:IntKind.i64.wrap (du+1)=du+1:=IntWalk.i64_in _ (by omega)
          have M6:=xQ (show Mem w (wr.setCell ⟨w.heap.size+1,v,none⟩ (.int .i64 (du+1))) [aJ w.heap.size TI 1 (some ⟨gN,0,none⟩) (nb.length) (c5) (ivs (bE nb)),aJ w.heap.size TI 1 (some ⟨gL,0,none⟩) (l2) (lc) (ivs (bE Q2)),aJ w.heap.size TI 1 (some ⟨w.heap.size+1,0,none⟩) (n) (n) (ivs (D2.set v (du+1))),aI w.heap.size (w.heap.size) TH3 #[aA,aB,.slice p n cap]]from by rw[←dV];exact HM.out.ostore (i:=2) rfl v (.int .i64 (du+1)))
          have av:Hid (∀x∈D2.set v (du+1),-1≤x∧x≤(k:Int)+1):=by
           show∀_,_
           intro x hx
           rcases List.mem_or_eq_of_mem_set hx with h|h
           ·exact b x h
           ·omega
          clear hd0
          go_upto_region 17 with fail
          clear cl cd ff cn cf HM
          generalize a6:World.setCell _ _ _=w4
          rw[a6]at M6
          clear a6 bc ba a4 bt bj
          go_wp2_with (at_builtin;go_loud (refine cJ eS rfl _ _ rfl (M6.out.adv ((Ext.refl _).alloc (.cells #[(v:Int)] TI))) 1 rfl rfl (ivs [(v:Int)]) rfl (dY _ _ _ 1 1 _ (by first|rfl|simp) (by first|rfl|simp) (by simp[maxLen])) (fun u hu=>by obtain rfl:=List.mem_singleton.1 hu;rfl) (by omega) ?_;intro q7 c7 w6 M7))
          have M8:=xQ (show Mem w w6 [aJ w.heap.size TI 1 (some ⟨gN,0,none⟩) (nb.length) (c5) (ivs (bE nb)),aJ w.heap.size TI 1 (q7) (l2+1) (c7) (ivs (bE (Q2++ [v]))),aJ w.heap.size TI 1 (some ⟨w.heap.size+1,0,none⟩) (n) (n) (ivs (D2.set v (du+1))),aI w.heap.size (w.heap.size) TH3 #[aA,aB,.slice p n cap]]from by rw[show ivs (bE (Q2++ [v]))=ivs (bE Q2)++ivs [(v:Int)] by simp[ivs,bE]];exact M7)
          clear M7 M6
          go_wp2
          go_roundw
          case rel=>exact⟨j+1,q7,l2+1,c7,D2.set v (du+1),Q2++ [v],by omega,by go_num,rfl,by simp[o.out],g.out,av.out,M8.out⟩
          case measure=>simp[intOf];omega
         ·have t2:decide (dv<0)=false:=by simp;omega
          have g:Hid ((D2,Q2)=bJ (D.getD u 0+1) (D,Q) ((nb.take (j+1)).filter (fun(v:Nat)=>decide ((v:Int)≠but)))):=by
           show _=_
           rw[m.out,dP,←ab.out,lU (by rw[←af.out];exact hd0)]
          clear hd0
          go_wp2
          go_roundw
          case rel=>exact⟨j+1,some ⟨gL,0,none⟩,l2,lc,D2,Q2,by omega,by go_num,rfl,o.out,g.out,b.out,HM.out⟩
          case measure=>simp[intOf];omega
       ·obtain rfl:nb.length=j:=by omega
        have am:Hid (Inv (oW aA n but) [src] n (k+1) (D2,Q2)):=by
         show Inv _ _ _ _ _
         have h1:=HI.out.step HU (fun v hv=>aF4 hv)
         have h2:=ab.out
         rw[List.take_length,ao.out]at h2
         rw[h2];exact h1
        have M9:=xQ (show Mem w wr [aJ w.heap.size TI 1 (q) (l2) (lc) (ivs (bE Q2)),aJ w.heap.size TI 1 (some ⟨w.heap.size+1,0,none⟩) (n) (n) (ivs (D2)),aI w.heap.size (w.heap.size) TH3 #[aA,aB,.slice p n cap]]from HM.out.pick [1,2,3] (by decide) rfl)
        clear HM
        go_wp2
        go_roundw
        case rel=>exact⟨k+1,q,l2,lc,D2,Q2,by omega,by go_num,rfl,o.out,fun x hx=>by have:=b x hx;omega,am.out,M9.out⟩
        case measure=>simp[intOf];omega
    ·have aa:=xQ (HI.out.dist (by have:=z.out;dsimp only;omega))
     go_wp2
     go_ret
     exact⟨D,aa.out,some ⟨w.heap.size+1,0,none⟩,n,by rw[aa.out.len];rfl,by rw[aa.out.len];exact HM.out.ow 1,HM.out.ext⟩
theorem aLo (aA aB:Int)(p:OA)(n cap src:Nat)(but:Int)(xs:List Int)(w:World)(hS:Sl w p n cap 1 (ivs xs))(hok:aN aA aB xs=true)(hs:src<n):
  Calls Tryz.prog 194 #[aH aA aB p n cap,(src:Int),but] w fun e w'=> ∃D,qR (oW aA n but) [src] n D∧aX D w e w':=by
 have hl:=hS.ilen
 obtain⟨g1,g2,g3,g4,g5,g6,g7,g8,g9⟩:=bM hok
 exact aIk aA aB p n cap src but w (by omega) (by omega) hs (fun k hk w' hx=>by
  have:=aDw aA aB k p n cap xs w' (hS.ext hx) hok (by omega) (by omega)
  rwa[kL]at this)
theorem aIh (aA aB:Int)(p:OA)(n cap u:Nat)(w:World)(hg:Hid ((aA,n)∈gZ))(hn0:4≤n)(hn:n≤12)(hu:u<n)
  (HV:xB 80 #[aH aA aB p n cap] w true)
  (HH:Hid (∀(k:Nat),k<n→ ∀w',Calls Tryz.prog 152 #[aH aA aB p n cap,(k:Int)] w' fun e w''=>e= .returned (.bool true)∧Ext w' w''))
  (HF:xC 194 #[aH aA aB p n cap,(),(-1:Int)] w fun w' e w''=> ∃D,(D.length=n∧ ∀v,v<n→D.getD v 0=aW aA v 0)∧aX D w' e w'')
  (HC:Hid (∀(k:Nat),k<n→ ∀w',Ext w w'→Calls Tryz.prog 195 #[aH aA aB p n cap,(k:Int)] w' (aX (bE (aT aA n k)) w'))):
  Calls Tryz.prog 175 #[aH aA aB p n cap,(u:Int),(),(-1:Int)] w (aX (bE (cY aA n 12 u)) w):=by
 have a1:(0:Int)≤(u:Int):=by omega
 have a2:(u:Int)<(n:Int):=by omega
 have a3:((-1:Int)==(u:Int))=false:=by first|(simp;done)|(simp;omega)
 have a4:decide ((n:Int)≤ -1)=false:=by first|(simp;done)|(simp;omega)
 have bb:Hid (∀w',Calls Tryz.prog 152 #[aH aA aB p n cap,()] w' fun e w''=>e= .returned (.bool true)∧Ext w' w''):=HH.out 0 (by omega)
 have t:=xQ (bT hg.out hu)
 go_enter Tryz.func175,Tryz.ntmps175
 go_wp2_with fail
 have M0:=((Mem.start w).bn TH3 #[aA,aB,.slice p n cap] w.heap.size)
 refine(HV _ M0.ext).mono ?_
 rintro e w1 ⟨rfl,av⟩
 have M1:=(M0.adv av)
 have b:=(M1.hi 0)
 obtain⟨b0,b1,b2⟩:=(M1.bk 0).cells3
 clear av M0
 go_wp2_with fail
 refine(HH u hu _).mono ?_
 rintro e w2 ⟨rfl,aj⟩
 have M2:=(M1.adv aj)
 clear b0 b1 b2 aj M1 b
 have b:=(M2.hi 0)
 obtain⟨b0,b1,b2⟩:=(M2.bk 0).cells3
 go_wp2_with fail
 refine(bb _).mono ?_
 rintro e w3 ⟨rfl,aq⟩
 have M3:=(M2.adv aq)
 clear b0 b1 b2 aq M2 b
 have b:=(M3.hi 0)
 obtain⟨b0,b1,b2⟩:=(M3.bk 0).cells3
 go_wp2_with fail
 refine(HF _ M3.ext).mono ?_
 rintro e w4 ⟨D,⟨ae,ap⟩,q2,c2,rfl,o4,au⟩
 rw[ae]at o4⊢
 have HD:=xQ ae
 have ai:=xQ ap
 have M4:=(M3.call au o4)
 clear b0 b1 b2 au o4 M3 b ae ap
 obtain⟨gF,rfl,a6,ba⟩:=M4.so 0
 have cU:w4.cell? ⟨gF,u,none⟩=some (.int .i64 (aW aA u 0)):=by
  have h1:=(dE (D:=D) (v:=u) (by rw[HD.out];exact hu)).1
  rw[ai u hu]at h1
  have:=(M4.ow 0).cellAt u (by omega);rw[this];simp only[ivs,List.getElem?_map,h1,Option.map_some]
 have a5:decide (aW aA (u:Int) 0<0)=false:=by have:=t.out.1;first|(simp;done)|(simp;omega)
 have M5:=(M4.lit TI 1 1 w4.heap.size #[(u:Int)] rfl rfl (by simp[maxLen]))
 go_wp2
 clear cU M4 a6 ba
 go_loopw [10,11] (fun o v wr=> ∃(x f:Nat) (pre:List Nat) (q:OA) (l lc:Nat),o= .slice q l lc∧v= .int .i64 (x:Int)∧x<n∧aW aA x 0≤f∧pre++cY aA n f x=cY aA n 12 u∧l=pre.length+1∧Mem w wr [aJ w.heap.size TI 1 (q) (l) (lc) (ivs (bE (pre++ [x]))),aJ w.heap.size TI 1 (some ⟨gF,0,none⟩) (n) (c2) (ivs (D)),aI w.heap.size (w.heap.size) TH3 #[aA,aB,.slice p n cap]]) (fun _ v _=>(aW aA (intOf v) 0).toNat)
 case atStart=>exact⟨u,12,[],some ⟨w4.heap.size,0,none⟩,1,1,rfl,rfl,hu,by have:=t.out.2.1;omega,rfl,rfl,M5⟩
 case round=>
  clear M5
  obtain⟨x,f,pre,q,l,lc,rfl,rfl,hx,hf,h,hl,hM⟩:=hrel
  have HM:=hM
  have HW:=xQ h
  have ad:=xQ (bT hg.out hx)
  have ay:=xQ hf
  have bf:l≤12:=by
   have h1:=congrArg List.length h
   have h2:=lS hg.out f x hx hf
   have h3:=lS hg.out 12 u hu (by have:=t.out.2.1;omega)
   have h4:=t.out.2.1
   have h5:=ad.out.1
   rw[List.length_append]at h1
   omega
  have ax:=xQ hl
  clear hM h hf hl
  by_cases h0:x=0
  ·have t0:((x:Int)!=0)=false:=by simp[h0]
   have ab:Hid (pre++ [x]=cY aA n 12 u):=by
    show _=_
    rw[←HW.out]
    subst h0
    cases f<;>simp[cY]
   clear h0
   go_wp2
   go_ret
   exact dA (by rw[←ab.out];have:=ax.out;simp[bE];omega) (by rw[←ab.out];exact HM.ow 0) HM.ext
  ·have t0:((x:Int)!=0)=true:=by simp[h0]
   obtain⟨J,a7,z,ah⟩:=aEe hg.out hx h0
   obtain⟨e1,e2,e3⟩:=ad.out.2.2.2.1 h0
   have be:=xQ h0
   obtain⟨y,hy⟩: ∃y,y=kN aA n x:=⟨_,rfl⟩
   rw[←hy]at z e1 e2 e3
   have HY:=xQ hy
   clear hy h0
   obtain⟨nb,s⟩: ∃nb,nb=aT aA n x:=⟨_,rfl⟩
   rw[←s]at a7 z ah
   have az:Hid (∀w',Ext w w'→Calls Tryz.prog 195 #[aH aA aB p n cap,(x:Int)] w' (aX (bE nb) w')):=by rw[s];exact HC x hx
   have bc:=xQ s
   have a9:nb.length≤12:=by rw[s];exact Nat.le_trans (List.length_filter_le _ _) (by simp;omega)
   have ao:=xQ z
   have ar:=xQ ah
   have aa:=xQ e3
   clear s z ah e2 e3
   have ak:(bE nb).length=nb.length:=by simp[bE]
   have b:=(HM.hi 2)
   obtain⟨b0,b1,b2⟩:=(HM.bk 2).cells3
   go_wp2_with fail
   clear b0 b1 b2
   refine(az _ HM.ext).mono ?_
   rintro e w5 ⟨q5,c5,rfl,o5,an⟩
   rw[ak]at o5⊢
   have M6:=(HM.call an o5)
   clear o5 an az HM b
   obtain⟨gN,rfl,a8,a0⟩:=M6.so 0
   clear a8 a0
   go_wp2
   go_loopw [11,69] (fun cc i wz=> ∃j:Nat,j≤J∧cc= .int .i64 (x:Int)∧i= .int .i64 (j:Int)∧Mem w wz [aJ w.heap.size TI 1 (some ⟨gN,0,none⟩) (nb.length) (c5) (ivs (bE nb)),aJ w.heap.size TI 1 (q) (l) (lc) (ivs (bE (pre++ [x]))),aJ w.heap.size TI 1 (some ⟨gF,0,none⟩) (n) (c2) (ivs (D)),aI w.heap.size (w.heap.size) TH3 #[aA,aB,.slice p n cap]]) (fun _ i _=>J-(intOf i).toNat)
   case atStart=>exact⟨0,Nat.zero_le _,rfl,rfl,M6⟩
   case round=>
    clear M6
    obtain⟨j,hj,rfl,rfl,hM⟩:=hrel
    have HM:=hM
    clear hM
    obtain⟨v,hv⟩: ∃v,nb[j]? =some v:=⟨_,List.getElem?_eq_getElem (by omega)⟩
    have g:v<n:=(bR.1 (by rw[←bc.out];exact List.mem_of_getElem? hv:v∈aT aA n x)).1
    have ag:=xQ hv
    have r:=(dE (D:=D) (v:=v) (by rw[HD.out];exact g)).1
    have m:=(dE (D:=D) (v:=x) (by rw[HD.out];exact hx)).1
    rw[ai v g]at r
    rw[ai x hx]at m
    obtain⟨dv,a⟩: ∃d,d=aW aA v 0:=⟨_,rfl⟩
    obtain⟨dx,c⟩: ∃d,d=aW aA x 0:=⟨_,rfl⟩
    have gv:=bT hg.out g
    have gx:=ad.out
    rw[←a]at r gv
    rw[←c]at m gx
    have m1:(0:Int)≤(j:Int):=by omega
    have m2:(j:Int)<(nb.length:Int):=by omega
    have m3:(0:Int)≤(v:Int):=by omega
    have m4:(v:Int)<(n:Int):=by omega
    have m5:(0:Int)≤(x:Int):=by omega
    have m6:(x:Int)<(n:Int):=by omega
    have w7:IntKind.i64.wrap (dx-1)=dx-1:=IntWalk.i64_in _ (by omega)
    have cn:wr.cell? ⟨gN,j,none⟩=some (.int .i64 (v:Int)):=by have:=(HM.ow 0).cellAt j (by omega);rw[this];simp[ivs,bE,ag.out]
    have cf:wr.cell? ⟨gF,v,none⟩=some (.int .i64 dv):=by have:=(HM.ow 2).cellAt v (by omega);rw[this];simp only[ivs,List.getElem?_map,r,Option.map_some]
    have cx:wr.cell? ⟨gF,x,none⟩=some (.int .i64 dx):=by have:=(HM.ow 2).cellAt x (by omega);rw[this];simp only[ivs,List.getElem?_map,m,Option.map_some]
    by_cases hjJ:j<J
    ·have aw:(dv==dx-1)=false:=by
      have:=ar.out j v hjJ ag.out
      rw[←a,←c]at this
      exact beq_eq_false_iff_ne.2 this
     clear r m a c gv gx
     go_wp2
     go_quiet (fail)
     go_wp2
     go_roundw
     case rel=>exact⟨j+1,by omega,rfl,by go_num,HM.adv xE⟩
     case measure=>simp[intOf];omega
    ·obtain rfl:j=J:=by omega
     have bd:v=y:=by
      have h1:=ag.out
      rw[ao.out]at h1
      injection h1 with h1;exact h1.symm
     subst bd
     have aw:(dv==dx-1)=true:=by
      have:=aa.out
      rw[←a,←c]at this
      simp[this]
     have al:=xQ (show 1≤aW aA (x:Int) 0 by have h1:=(bT hg.out g).1;have h2:=aa.out;omega)
     clear r m a gv
     go_wp2
     go_quiet (fail)
     generalize am:World.drewN _ _=wq
     have M7:=(show Mem w wq [aJ w.heap.size TI 1 (q) (l) (lc) (ivs (bE (pre++ [x]))),aJ w.heap.size TI 1 (some ⟨gF,0,none⟩) (n) (c2) (ivs (D)),aI w.heap.size (w.heap.size) TH3 #[aA,aB,.slice p n cap]]from by rw[←am];exact(HM.adv xE).pick [1,2,3] (by decide) rfl)
     clear am cn cf cx HM
     go_wp2_with (at_builtin;go_loud (refine cJ eS rfl _ _ rfl (M7.adv ((Ext.refl _).alloc (.cells #[(v:Int)] TI))) 0 rfl rfl (ivs [(v:Int)]) rfl (dY _ _ _ 1 1 _ (by first|rfl|simp) (by first|rfl|simp) (by simp[maxLen])) (fun u hu=>by obtain rfl:=List.mem_singleton.1 hu;rfl) (by omega) ?_;intro q7 c7 w6 M8))
     have M9:=(show Mem w w6 [aJ w.heap.size TI 1 (q7) (l+1) (c7) (ivs (bE (pre++ [x]++ [v]))),aJ w.heap.size TI 1 (some ⟨gF,0,none⟩) (n) (c2) (ivs (D)),aI w.heap.size (w.heap.size) TH3 #[aA,aB,.slice p n cap]]from by rw[show ivs (bE (pre++ [x]++ [v]))=ivs (bE (pre++ [x]))++ivs [(v:Int)] by simp[ivs,bE]];exact M8)
     clear M8 M7
     have bg:0<f:=by have:=ay.out;have:=al.out;omega
     obtain⟨f',rfl⟩: ∃f',f=f'+1:=⟨f-1,by omega⟩
     have af:Hid ((pre++ [x])++cY aA n f' v=cY aA n 12 u):=by
      show _=_
      rw[←HW.out]
      conv=>rhs;rw[cY,if_neg be.out,←HY.out]
      simp
     go_wp2
     go_roundw
     case rel=>exact⟨v,f',pre++ [x],q7,l+1,c7,rfl,by go_num,g,by have:=aa.out;have:=ay.out;omega,af.out,by have:=ax.out;simp;omega,M9⟩
     case measure=>simp[intOf];have:=aa.out;have:=al.out;omega
theorem aLn (aA aB:Int)(p:OA)(n cap u:Nat)(xs:List Int)(w:World)(hS:Sl w p n cap 1 (ivs xs))(hok:aN aA aB xs=true)(hu:u<n):
  Calls Tryz.prog 175 #[aH aA aB p n cap,(u:Int),(),(-1:Int)] w (aX (bE (cY aA n 12 u)) w):=by
 have hl:=hS.ilen
 obtain⟨g1,g2,g3,g4,g5,g6,g7,g8,g9⟩:=bM hok
 have hg:=pL (n:=n) g1 g2 g3 g4 (by omega)
 refine aIh aA aB p n cap u w hg (by omega) (by omega) hu (fun w' hx=>by have:=fI aA aB p n cap xs w' (hS.ext hx);rwa[hok]at this) (fun k hk w'=> ?_) (fun w' hx=> ?_) (fun k hk w' hx=> ?_)
 ·have:=iL aA aB k p n cap w' (by omega)
  rwa[decide_eq_true (⟨by omega,by omega⟩:0≤(k:Int)∧(k:Int)<n)]at this
 ·refine(aLo aA aB p n cap 0 (-1) xs w' (hS.ext hx) hok (by omega)).mono ?_
  rintro e w2 ⟨D,hD,hr⟩
  exact⟨D,⟨hD.len,fun v hv=>xF hg (aBw aA n) hD hv⟩,hr⟩
 ·have:=aDw aA aB k p n cap xs w' (hS.ext hx) hok (by omega) (by omega)
  rwa[kL]at this
end Go.Proofs.YtgnkoffndhmhpaaGreatDoor
