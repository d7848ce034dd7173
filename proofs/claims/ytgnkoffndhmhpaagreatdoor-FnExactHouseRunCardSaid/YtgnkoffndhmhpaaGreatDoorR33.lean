/-
  Texts of this proof, packed (@packed).
-/
import Derived.Test.YtgnkoffndhmhpaaGreatDoorR2
import Derived.Test.YtgnkoffndhmhpaaGreatDoorR5
import Derived.Test.YtgnkoffndhmhpaaGreatDoorR7
import Derived.Test.YtgnkoffndhmhpaaGreatDoorR10
import Derived.Test.YtgnkoffndhmhpaaGreatDoorR12
import Derived.Test.YtgnkoffndhmhpaaGreatDoorR32
namespace Go.Proofs.YtgnkoffndhmhpaaGreatDoor
open Go.RowKit
set_option linter.unusedVariables false
set_option linter.unusedSimpArgs false
set_option maxHeartbeats 8000000
set_option maxRecDepth 100000
theorem aGn (aA aB:Int)(p:OA)(n cap F:Nat)(fr:List Nat)(xs:List Int)(w:World)(hg:Hid ((aA,n)∈fY))(hF:Hid (fr.length=F))(hF12:F≤12)(hfr:Hid (∀x∈fr,x<n))
  (HF:xC 174 #[aI aA aB p n cap] w fun w' e w''=> ∃q c,e= .returned (.slice q F c)∧w''.ownsRow w'.heap.size TI 1 (.slice q F c) F (ivs (bD fr))∧Ext w' w'')
  (HWAY:Hid (∀(u:Nat),u<n→ ∀w',Ext w w'→Calls Tryz.prog 175 #[aI aA aB p n cap,(u:Int),(),(-1:Int)] w' (aY (bD (cR aA n 12 u)) w')))
  (HHS:Hid (∀(u:Nat),cL aA fr=some u→ ∀w' q W c,Ext w w'→Sl w' q W c 1 (ivs (bD (cR aA n 12 u)))→Calls Tryz.prog 176 #[aI aA aB p n cap,.slice q W c] w' (fR (bW xs u (cR aA n 12 u).tail).2 w'))):
  Calls Tryz.prog 145 #[aI aA aB p n cap] w (mF ((cL aA fr).map fun u=>bW xs u (cR aA n 12 u).tail) w):=by
 have q22: ∀(w:World) (a:OA) (n c n' c':Nat),(binOp .eql 22 (.slice a n c) (.slice none n' c')).run Tryz.prog w= .ok (.bool a.isNone) w:=fun w a n c n' c'=>Lib.run_eql_slice_nil w _ _ a n c n' c' Tryz.underlying22
 go_enter Tryz.func145,Tryz.ntmps145
 go_wp2_with fail
 refine(HF.out _ (Mem.b1 w).ext).mono ?_
 rintro e w1 ⟨q1,c1,rfl,ho1,hx1⟩
 have M1:=xQ ((Mem.b1 w).call hx1 ho1)
 have lt1_1:=M1.out.hi 1
 clear hx1 ho1
 have M2:=xQ (show Mem w w1 [aJ w.heap.size TI 1 (none) (0) (0) (ivs (bD (iO aA n (cL aA (fr.take 0))))),aJ w.heap.size TI 1 (q1) (F) (c1) (ivs (bD fr)),aL w.heap.size (w.heap.size) TH3 #[aA,aB,.slice p n cap]]from(M1.out.ownNew (Ext.refl _) (World.ownsRow_nil _ _ TI 1) (Nat.le_refl _)))
 clear M1
 go_wp2
 go_loopw [4,11] (fun v i wr=> ∃(k:Nat) (qb:OA) (l lb:Nat),k≤F∧i= .int .i64 (k:Int)∧v= .slice qb l lb∧l=(iO aA n (cL aA (fr.take k))).length∧qb.isNone=decide (l=0)∧Mem w wr [aJ w.heap.size TI 1 (qb) (l) (lb) (ivs (bD (iO aA n (cL aA (fr.take k))))),aJ w.heap.size TI 1 (q1) (F) (c1) (ivs (bD fr)),aL w.heap.size (w.heap.size) TH3 #[aA,aB,.slice p n cap]]) (fun _ i _=>F-(intOf i).toNat)
 case atStart=>exact⟨0,none,0,0,Nat.zero_le _,rfl,rfl,rfl,rfl,M2.out⟩
 case round=>
  clear M2
  obtain⟨k,qb,l,lb,hk,rfl,rfl,hl,hqb,hM⟩:=hrel
  have HM:=xQ hM
  have HLN:=xQ hl
  have HQ:=xQ hqb
  have hl6:l≤6:=by rw[hl];exact tJ hg.out (fun x hx=>hfr.out x (List.mem_of_mem_take hx))
  have hlt0:w.heap.size<wr.heap.size:=(HM.out.lt (i:=2) rfl rfl).2
  clear hM hl hqb
  by_cases hlt:k<F
  ·obtain⟨u,hu⟩: ∃u,fr[k]? =some u:=⟨_,List.getElem?_eq_getElem (by rw[hF.out];exact hlt)⟩
   have hun:u<n:=hfr.out u (List.mem_of_getElem? hu)
   obtain⟨gf,rfl,hf1,hf2⟩:=HM.out.some (i:=1) rfl (by omega)
   have cu:wr.cell? ⟨gf,k,none⟩=some (.int .i64 (u:Int)):=by have:=(HM.out.own (i:=1) rfl).cellAt k (by omega);rw[this];simp[ivs,bD,hu]
   obtain⟨st1,st2⟩:=tX hg.out (l:=fr.take k) (fun x hx=>hfr.out x (List.mem_of_mem_take hx)) hun
   rw[←bF hu,←HLN.out]at st1 st2
   obtain⟨k1,k2,k3⟩:=gU hg.out hun
   obtain⟨W,hW⟩: ∃W,W=(cR aA n 12 u).length:=⟨_,rfl⟩
   rw[←hW]at k1 k2 st1 st2
   have ST1:=xQ st1
   have ST2:=xQ st2
   have HWl:=xQ hW
   have HC:=xQ (fun w' (hx:Ext w w')=>HWAY.out u hun w' hx)
   clear hu st1 st2 hW k3
   have i1:(0:Int)≤(k:Int):=by omega
   have i2:(k:Int)<(F:Int):=by omega
   obtain⟨b0,b1,b2⟩:=(HM.out.blk (i:=2) rfl).tri
   go_wp2_with fail
   clear b0 b1 b2 cu
   refine(HC.out _ HM.out.ext).mono ?_
   rintro e w5 ⟨q7,c7,rfl,o7,hx7⟩
   have hwl:(bD (cR aA n 12 u)).length=W:=by rw[HWl.out];simp[bD]
   rw[hwl]at o7⊢
   have M5:=xQ (HM.out.call hx7 o7)
   clear o7 hx7 HM HC hlt0
   obtain⟨g7,rfl,hg71,hg72⟩:=M5.out.some (i:=0) rfl k1
   clear hg71 hg72
   by_cases h0:l=0
   ·have hn:=xQ (ST1.out (.inl h0))
    have hq:qb.isNone=true:=by rw[HQ.out,h0];rfl
    clear h0
    go_wp2
    go_roundw
    case rel=>exact⟨k+1,some ⟨g7,0,none⟩,W,c7,by omega,by go_num,rfl,by rw[hn.out];exact HWl.out,by simp;omega,by rw[hn.out];exact M5.out.pick [0,2,3] (by decide) rfl⟩
    case measure=>simp[intOf];omega
   ·have hq:qb.isNone=false:=by rw[HQ.out];simp[h0]
    by_cases h1:W<l
    ·have t1:decide ((W:Int)<(l:Int))=true:=by first|(simp;done)|(simp;omega)
     have hn:=xQ (ST1.out (.inr h1))
     have t2:(W:Int)<(l:Int):=by omega
     have t3:decide (W<l)=true:=by simp[h1]
     clear h0
     go_wp2
     go_roundw
     case rel=>exact⟨k+1,some ⟨g7,0,none⟩,W,c7,by omega,by go_num,rfl,by rw[hn.out];exact HWl.out,by simp;omega,by rw[hn.out];exact M5.out.pick [0,2,3] (by decide) rfl⟩
     case measure=>simp[intOf];omega
    ·have t1:decide ((W:Int)<(l:Int))=false:=by first|(simp;done)|(simp;omega)
     have hn:=xQ (ST2.out (by omega))
     have t2: ¬((W:Int)<(l:Int)):=by omega
     have t3:decide (W<l)=false:=by simp[h1]
     clear h0
     go_wp2
     go_roundw
     case rel=>exact⟨k+1,qb,l,lb,by omega,by go_num,rfl,by rw[hn.out];exact HLN.out,HQ.out,by rw[hn.out];exact M5.out.pick [1,2,3] (by decide) rfl⟩
     case measure=>simp[intOf];omega
  ·obtain rfl:F=k:=by omega
   rw[show fr.take F=fr by rw[←hF.out];exact List.take_length]at HM HLN
   obtain⟨b0,b1,b2⟩:=(HM.out.blk (i:=2) rfl).tri
   cases hne:cL aA fr with
   |none=>
    have hq:qb.isNone=true:=by rw[HQ.out,HLN.out,hne];rfl
    have hE:=xQ HM.out.ext
    clear HM HLN
    go_wp2
    exact bodyPost_ret (v:= .tuple #[((),()),.bool false]) (by simp[results,Tryz.results145,go_sem, *]) rfl (by rw[hne];exact⟨_,rfl,by have:=hE.out;exact xE⟩)
   |some u=>
    have hun:u<n:=hfr.out u ((gK aA fr).2 u hne)
    obtain⟨k1,k2,k3⟩:=gU hg.out hun
    rw[hne]at HM HLN
    have hq:qb.isNone=false:=by rw[HQ.out,HLN.out];exact decide_eq_false (by show¬(cR aA n 12 u).length=0;omega)
    have HH:=xQ (HHS.out u hne)
    have HW2:=xQ k1
    clear k1 k2 k3
    go_wp2_with fail
    clear b0 b1 b2
    refine(HH.out _ qb l lb HM.out.ext (HM.out.sl (i:=0) rfl)).mono ?_
    rintro e w9 ⟨q9,c9,rfl,o9,hx9⟩
    have HX:=xQ HM.out.ext
    clear HM
    go_wp2
    exact bodyPost_ret (v:= .tuple #[.slice q9 (bW xs u (cR aA n 12 u).tail).2.length c9,.bool true]) (by simp[results,Tryz.results145,go_sem, *]) rfl (by rw[hne];exact⟨q9,c9,rfl,bG o9 HX.out.sz,HX.out.trans hx9⟩)
theorem aJ1 (aA aB:Int)(p:OA)(n cap:Nat)(xs:List Int)(w:World)(hS:Sl w p n cap 1 (ivs xs))(hok:aP aA aB xs=true):
  Calls Tryz.prog 145 #[aI aA aB p n cap] w (mF (fQ aA xs) w):=by
 have hl:=hS.ilen
 subst hl
 have hg:=iL hok
 obtain⟨g1,g2,g3,g4,g5,g6,g7,g8,g9⟩:=bN hok
 have hfl:(bI xs).length≤xs.length:=by unfold bI;exact Nat.le_trans (List.length_filter_le _ _) (by simp)
 refine aGn aA aB p xs.length cap (bI xs).length (bI xs) xs w hg rfl (by omega) (fun x hx=>(iM hx).1) (fun w' hx=> ?_) (fun u hu w' hx=>aIt aA aB p xs.length cap u xs w' (hS.ext hx) hok hu) (fun u hne w' q W c hx hL=> ?_)
 ·have:=aIz aA aB p xs.length cap xs w' (hS.ext hx)
  rw[if_pos hok,sI]at this
  refine this.mono fun e w'' h1=> ?_
  obtain⟨q,c,h2,h3,h4⟩:=h1
  rw[List.length_map]at h2 h3
  exact⟨q,c,h2,h3,h4⟩
 ·obtain⟨hu,hu0⟩:=iM ((gK aA _).2 u hne)
  exact aIx aA aB p xs.length cap xs q W c u w' (hS.ext hx) hok hu hu0 hL
theorem aE6 (aA aB id:Int)(b off cap:Nat)(x:Int)(xs:List Int)(w:World)(hn0:4≤xs.length)(hn:xs.length≤12)(HX0:Hid (xs[0]? =some x)) (hb:b<w.heap.size) (HCX:Hid (w.cell? ⟨b,off,none⟩=some (.int .i64 x))) (hid:id<1)
  (HV:xB 80 #[aI aA aB (some ⟨b,off,none⟩) xs.length cap] w true)
  (HK:Hid (∀w',Ext w w'→Calls Tryz.prog 105 #[aI aA aB (some ⟨b,off,none⟩) xs.length cap] w' (dF aA aB xs w'))):
  Calls Tryz.prog 146 #[aI aA aB (some ⟨b,off,none⟩) xs.length cap,(),id] w (cJ aA aB xs false w):=by
 have hid2:decide (id<1)=true:=by simp;omega
 go_enter Tryz.func146,Tryz.ntmps146
 go_wp2_with fail
 refine(HV.out _ (Mem.b2 w).ext).mono ?_
 rintro e w1 ⟨rfl,hx1⟩
 have M1:=xQ ((Mem.b2 w).adv hx1)
 have lt1_0:=M1.out.hi 0
 have lt1_1:=M1.out.hi 1
 clear hx1
 obtain⟨h0,h1,h2⟩:=((M1.out.blk (i:=1) rfl)).tri
 go_wp2_with fail
 clear h0 h1 h2
 refine(HK.out _ M1.out.ext).mono ?_
 rintro e w2 ⟨q,c2,rfl,ho2,hx2⟩
 have M2:=xQ ((M1.out).call hx2 ho2)
 clear M1 lt1_0 lt1_1
 have lt2_1:=M2.out.hi 1
 have lt2_2:=M2.out.hi 2
 clear hx2 ho2
 obtain⟨g,rfl,hg1,hg2⟩:=M2.out.some (i:=0) rfl (by omega)
 clear hg1 hg2
 go_upto_region 4 with fail
 obtain⟨gV,hgV⟩: ∃gV,gV=w2.heap.size:=⟨_,rfl⟩
 rw[←hgV]
 have M3:=xQ (((M2.out).blkNew TH3 #[aA,aB,.slice (some ⟨g,0,none⟩) xs.length c2] gV hgV.symm))
 generalize World.alloc _ _=w4 at M3⊢
 clear M2 lt2_1 lt2_2
 have lt3_0:=M3.out.hi 0
 have lt3_2:=M3.out.hi 2
 have lt3_3:=M3.out.hi 3
 clear hgV
 obtain⟨v0,v1,v2⟩:=((M3.out.blk (i:=0) rfl)).tri
 obtain⟨z0,zf0,z1,zf1,z2,zf2⟩:=((M3.out.blk (i:=2) rfl)).trif
 have ne0_1a: ¬(gV=w.heap.size+1):=M3.out.ne (i:=0) (j:=2) (by omega) rfl rfl rfl rfl
 have ne0_1b: ¬(w.heap.size+1=gV):=fun h=>ne0_1a h.symm
 go_wp2
 have M4:=xQ (((((M3.out).st 2 0 (.int .i64 aA))).st 2 1 (.int .i64 aB)))
 have M5:=xQ (((M4.out).st 2 2 (.slice (some ⟨g,0,none⟩) xs.length c2)))
 have M6:=xQ (show Mem w (((w4.setCell ⟨w.heap.size+1,0,none⟩ (.int .i64 aA)).setCell ⟨w.heap.size+1,1,none⟩ (.int .i64 aB)).setCell ⟨w.heap.size+1,2,none⟩ (.slice (some ⟨g,0,none⟩) xs.length c2)) [aL w.heap.size (gV) TH3 #[aA,aB,.slice (some ⟨g,0,none⟩) xs.length c2],aJ w.heap.size TI 1 (some ⟨g,0,none⟩) (xs.length) (c2) (ivs xs),aL w.heap.size (w.heap.size+1) TH3 #[aA,aB,.slice (some ⟨g,0,none⟩) xs.length c2],aL w.heap.size (w.heap.size) TH3 #[aA,aB,.slice (some ⟨b,off,none⟩) xs.length cap]]from M5.out)
 generalize hwz:World.setCell _ _ _=wz
 rw[hwz]at M6
 clear hwz M3 M4 M5 v0 v1 v2 z0 zf0 z1 zf1 z2 zf2 ne0_1a ne0_1b
 obtain⟨y0,y1,y2⟩:=((M6.out.blk (i:=2) rfl)).tri
 exact bodyPost_ret (v:= .tuple #[.agg #[aA,aB,.slice (some ⟨g,0,none⟩) xs.length c2],.bool false]) (by simp[results,Tryz.results146,go_sem, *]) rfl (dN (by simp) (by exact(M6.out.own (i:=1) rfl)) M6.out.ext)
theorem yV (aA aB id:Int)(b off cap:Nat)(x:Int)(xs:List Int)(w:World)(hn0:4≤xs.length)(hn:xs.length≤12)(HX0:Hid (xs[0]? =some x)) (hb:b<w.heap.size) (HCX:Hid (w.cell? ⟨b,off,none⟩=some (.int .i64 x))) (hid:1≤id) (hx0:(x !=0)=true)
  (HH:Hid (∀w',Calls Tryz.prog 152 #[aI aA aB (some ⟨b,off,none⟩) xs.length cap,()] w' fun e w''=>e= .returned (.bool true)∧Ext w' w''))
  (HV:xB 80 #[aI aA aB (some ⟨b,off,none⟩) xs.length cap] w true)
  (HK:Hid (∀w',Ext w w'→Calls Tryz.prog 105 #[aI aA aB (some ⟨b,off,none⟩) xs.length cap] w' (dF aA aB xs w'))):
  Calls Tryz.prog 146 #[aI aA aB (some ⟨b,off,none⟩) xs.length cap,(),id] w (cJ aA aB xs false w):=by
 have hid2:decide (id<1)=false:=by simp;omega
 go_enter Tryz.func146,Tryz.ntmps146
 go_wp2_with fail
 refine(HV.out _ (Mem.b2 w).ext).mono ?_
 rintro e w1 ⟨rfl,hx1⟩
 have M1:=xQ ((Mem.b2 w).adv hx1)
 have lt1_0:=M1.out.hi 0
 have lt1_1:=M1.out.hi 1
 clear hx1
 obtain⟨h0,h1,h2⟩:=((M1.out.blk (i:=1) rfl)).tri
 go_wp2_with fail
 clear h0 h1 h2
 refine(HK.out _ M1.out.ext).mono ?_
 rintro e w2 ⟨q,c2,rfl,ho2,hx2⟩
 have M2:=xQ ((M1.out).call hx2 ho2)
 clear M1 lt1_0 lt1_1
 have lt2_1:=M2.out.hi 1
 have lt2_2:=M2.out.hi 2
 clear hx2 ho2
 obtain⟨g,rfl,hg1,hg2⟩:=M2.out.some (i:=0) rfl (by omega)
 clear hg1 hg2
 go_upto_region 4 with fail
 obtain⟨gV,hgV⟩: ∃gV,gV=w2.heap.size:=⟨_,rfl⟩
 rw[←hgV]
 have M3:=xQ (((M2.out).blkNew TH3 #[aA,aB,.slice (some ⟨g,0,none⟩) xs.length c2] gV hgV.symm))
 generalize World.alloc _ _=w4 at M3⊢
 clear M2 lt2_1 lt2_2
 have lt3_0:=M3.out.hi 0
 have lt3_2:=M3.out.hi 2
 have lt3_3:=M3.out.hi 3
 clear hgV
 obtain⟨h0,h1,h2⟩:=((M3.out.blk (i:=3) rfl)).tri
 go_wp2_with fail
 clear h0 h1 h2
 refine(HH.out _).mono ?_
 rintro e w4 ⟨rfl,hx4⟩
 have M4:=xQ ((M3.out).adv hx4)
 clear M3 lt3_0 lt3_2 lt3_3
 have lt4_0:=M4.out.hi 0
 have lt4_2:=M4.out.hi 2
 have lt4_3:=M4.out.hi 3
 clear hx4
 have cx:w4.cell? ⟨b,off,none⟩=some (.int .i64 x):=(M4.out.ext.cells.1 _ _ hb).trans HCX.out
 obtain⟨h0,h1,h2⟩:=((M4.out.blk (i:=3) rfl)).tri
 obtain⟨v0,v1,v2⟩:=((M4.out.blk (i:=0) rfl)).tri
 obtain⟨z0,zf0,z1,zf1,z2,zf2⟩:=((M4.out.blk (i:=2) rfl)).trif
 have ne0_1a: ¬(gV=w.heap.size+1):=M4.out.ne (i:=0) (j:=2) (by omega) rfl rfl rfl rfl
 have ne0_1b: ¬(w.heap.size+1=gV):=fun h=>ne0_1a h.symm
 go_wp2
 have M5:=xQ (((((M4.out).st 2 0 (.int .i64 aA))).st 2 1 (.int .i64 aB)))
 have M6:=xQ (((M5.out).st 2 2 (.slice (some ⟨g,0,none⟩) xs.length c2)))
 have M7:=xQ (show Mem w (((w4.setCell ⟨w.heap.size+1,0,none⟩ (.int .i64 aA)).setCell ⟨w.heap.size+1,1,none⟩ (.int .i64 aB)).setCell ⟨w.heap.size+1,2,none⟩ (.slice (some ⟨g,0,none⟩) xs.length c2)) [aL w.heap.size (gV) TH3 #[aA,aB,.slice (some ⟨g,0,none⟩) xs.length c2],aJ w.heap.size TI 1 (some ⟨g,0,none⟩) (xs.length) (c2) (ivs xs),aL w.heap.size (w.heap.size+1) TH3 #[aA,aB,.slice (some ⟨g,0,none⟩) xs.length c2],aL w.heap.size (w.heap.size) TH3 #[aA,aB,.slice (some ⟨b,off,none⟩) xs.length cap]]from M6.out)
 generalize hwz:World.setCell _ _ _=wz
 rw[hwz]at M7
 clear hwz M4 M5 M6 v0 v1 v2 z0 zf0 z1 zf1 z2 zf2 ne0_1a ne0_1b
 obtain⟨y0,y1,y2⟩:=((M7.out.blk (i:=2) rfl)).tri
 exact bodyPost_ret (v:= .tuple #[.agg #[aA,aB,.slice (some ⟨g,0,none⟩) xs.length c2],.bool false]) (by simp[results,Tryz.results146,go_sem, *]) rfl (dN (by simp) (by exact(M7.out.own (i:=1) rfl)) M7.out.ext)
theorem aBi (aA aB id:Int)(b off cap:Nat)(x:Int)(xs:List Int)(w:World)(hn0:4≤xs.length)(hn:xs.length≤12)(HX0:Hid (xs[0]? =some x)) (hb:b<w.heap.size) (HCX:Hid (w.cell? ⟨b,off,none⟩=some (.int .i64 x))) (hid:1≤id) (hx0:(x !=0)=false)
  (HH:Hid (∀w',Calls Tryz.prog 152 #[aI aA aB (some ⟨b,off,none⟩) xs.length cap,()] w' fun e w''=>e= .returned (.bool true)∧Ext w' w''))
  (HV2:Hid (∀w' q c,Sl w' q xs.length c 1 (ivs (xs.set 0 id))→Calls Tryz.prog 80 #[aI aA aB q xs.length c] w' fun e w''=>e= .returned (.bool true)∧Ext w' w''))
  (HV:xB 80 #[aI aA aB (some ⟨b,off,none⟩) xs.length cap] w true)
  (HK:Hid (∀w',Ext w w'→Calls Tryz.prog 105 #[aI aA aB (some ⟨b,off,none⟩) xs.length cap] w' (dF aA aB xs w'))):
  Calls Tryz.prog 146 #[aI aA aB (some ⟨b,off,none⟩) xs.length cap,(),id] w (cJ aA aB (xs.set 0 id) true w):=by
 have hid2:decide (id<1)=false:=by simp;omega
 go_enter Tryz.func146,Tryz.ntmps146
 go_wp2_with fail
 refine(HV.out _ (Mem.b2 w).ext).mono ?_
 rintro e w1 ⟨rfl,hx1⟩
 have M1:=xQ ((Mem.b2 w).adv hx1)
 have lt1_0:=M1.out.hi 0
 have lt1_1:=M1.out.hi 1
 clear hx1
 obtain⟨h0,h1,h2⟩:=((M1.out.blk (i:=1) rfl)).tri
 go_wp2_with fail
 clear h0 h1 h2
 refine(HK.out _ M1.out.ext).mono ?_
 rintro e w2 ⟨q,c2,rfl,ho2,hx2⟩
 have M2:=xQ ((M1.out).call hx2 ho2)
 clear M1 lt1_0 lt1_1
 have lt2_1:=M2.out.hi 1
 have lt2_2:=M2.out.hi 2
 clear hx2 ho2
 obtain⟨g,rfl,hg1,hg2⟩:=M2.out.some (i:=0) rfl (by omega)
 clear hg1 hg2
 go_upto_region 4 with fail
 obtain⟨gV,hgV⟩: ∃gV,gV=w2.heap.size:=⟨_,rfl⟩
 rw[←hgV]
 have M3:=xQ (((M2.out).blkNew TH3 #[aA,aB,.slice (some ⟨g,0,none⟩) xs.length c2] gV hgV.symm))
 generalize World.alloc _ _=w4 at M3⊢
 clear M2 lt2_1 lt2_2
 have lt3_0:=M3.out.hi 0
 have lt3_2:=M3.out.hi 2
 have lt3_3:=M3.out.hi 3
 clear hgV
 obtain⟨h0,h1,h2⟩:=((M3.out.blk (i:=3) rfl)).tri
 go_wp2_with fail
 clear h0 h1 h2
 refine(HH.out _).mono ?_
 rintro e w4 ⟨rfl,hx4⟩
 have M4:=xQ ((M3.out).adv hx4)
 clear M3 lt3_0 lt3_2 lt3_3
 have lt4_0:=M4.out.hi 0
 have lt4_2:=M4.out.hi 2
 have lt4_3:=M4.out.hi 3
 clear hx4
 have cx:w4.cell? ⟨b,off,none⟩=some (.int .i64 x):=(M4.out.ext.cells.1 _ _ hb).trans HCX.out
 obtain⟨h0,h1,h2⟩:=((M4.out.blk (i:=3) rfl)).tri
 obtain⟨v0,v1,v2⟩:=((M4.out.blk (i:=0) rfl)).tri
 have gi:w4.cell? ⟨g,0,none⟩=some (.int .i64 x):=by have:=(M4.out.own (i:=1) rfl).cellAt 0 (by omega);rw[this];simpa[ivs]using HX0.out
 have gif:w4.frozen? ⟨g,0,none⟩=false:=(M4.out.own (i:=1) rfl).frozenAt 0
 have nc0_1a: ¬(gV=g):=M4.out.ne (i:=0) (j:=1) (by omega) rfl rfl rfl rfl
 have nc0_1b: ¬(g=gV):=fun h=>nc0_1a h.symm
 go_upto_region 7 with fail
 clear h0 h1 h2 v0 v1 v2 nc0_1a nc0_1b cx gi gif
 have MX:=xQ (show Mem w (w4.setCell ⟨g,0,none⟩ (.int .i64 id)) [aL w.heap.size (gV) TH3 #[aA,aB,.slice (some ⟨g,0,none⟩) xs.length c2],aJ w.heap.size TI 1 (some ⟨g,0,none⟩) (xs.length) (c2) (ivs (xs.set 0 id)),aL w.heap.size (w.heap.size+1) TH3 #[(),(),((),())],aL w.heap.size (w.heap.size) TH3 #[aA,aB,.slice (some ⟨b,off,none⟩) xs.length cap]]from by rw[←dI];exact M4.out.ostore (i:=1) rfl 0 (.int .i64 id))
 generalize hw5:World.setCell _ _ _=w5
 rw[hw5]at MX
 clear hw5 M4 lt4_0 lt4_2 lt4_3
 have lt9_0:gV<w5.heap.size:=(MX.out.lt (i:=0) rfl rfl).2
 have lt9_2:w.heap.size+1<w5.heap.size:=(MX.out.lt (i:=2) rfl rfl).2
 have lt9_3:w.heap.size<w5.heap.size:=(MX.out.lt (i:=3) rfl rfl).2
 obtain⟨v0,v1,v2⟩:=((MX.out.blk (i:=0) rfl)).tri
 go_wp2_with fail
 clear v0 v1 v2
 refine(HV2.out _ _ _ (by exact(MX.out.sl (i:=1) rfl))).mono ?_
 rintro e w10 ⟨rfl,hx10⟩
 have M10:=xQ ((MX.out).adv hx10)
 clear MX lt9_0 lt9_2 lt9_3
 have lt10_0:=M10.out.hi 0
 have lt10_2:=M10.out.hi 2
 have lt10_3:=M10.out.hi 3
 clear hx10
 obtain⟨v0,v1,v2⟩:=((M10.out.blk (i:=0) rfl)).tri
 obtain⟨z0,zf0,z1,zf1,z2,zf2⟩:=((M10.out.blk (i:=2) rfl)).trif
 have ne0_1a: ¬(gV=w.heap.size+1):=M10.out.ne (i:=0) (j:=2) (by omega) rfl rfl rfl rfl
 have ne0_1b: ¬(w.heap.size+1=gV):=fun h=>ne0_1a h.symm
 go_wp2
 have M11:=xQ (((((M10.out).st 2 0 (.int .i64 aA))).st 2 1 (.int .i64 aB)))
 have M12:=xQ (((M11.out).st 2 2 (.slice (some ⟨g,0,none⟩) xs.length c2)))
 have M13:=xQ (show Mem w (((w10.setCell ⟨w.heap.size+1,0,none⟩ (.int .i64 aA)).setCell ⟨w.heap.size+1,1,none⟩ (.int .i64 aB)).setCell ⟨w.heap.size+1,2,none⟩ (.slice (some ⟨g,0,none⟩) xs.length c2)) [aL w.heap.size (gV) TH3 #[aA,aB,.slice (some ⟨g,0,none⟩) xs.length c2],aJ w.heap.size TI 1 (some ⟨g,0,none⟩) (xs.length) (c2) (ivs (xs.set 0 id)),aL w.heap.size (w.heap.size+1) TH3 #[aA,aB,.slice (some ⟨g,0,none⟩) xs.length c2],aL w.heap.size (w.heap.size) TH3 #[aA,aB,.slice (some ⟨b,off,none⟩) xs.length cap]]from M12.out)
 generalize hwz:World.setCell _ _ _=wz
 rw[hwz]at M13
 clear hwz M10 M11 M12 v0 v1 v2 z0 zf0 z1 zf1 z2 zf2 ne0_1a ne0_1b
 obtain⟨y0,y1,y2⟩:=((M13.out.blk (i:=2) rfl)).tri
 exact bodyPost_ret (v:= .tuple #[.agg #[aA,aB,.slice (some ⟨g,0,none⟩) xs.length c2],.bool true]) (by simp[results,Tryz.results146,go_sem, *]) rfl (dN (by simp) (by exact(M13.out.own (i:=1) rfl)) M13.out.ext)
theorem aBj (aA aB id:Int)(b off cap:Nat)(x:Int)(xs:List Int)(w:World)(hn0:4≤xs.length)(hn:xs.length≤12)(HX0:Hid (xs[0]? =some x)) (hb:b<w.heap.size) (HCX:Hid (w.cell? ⟨b,off,none⟩=some (.int .i64 x))) (hid:1≤id) (hx0:(x !=0)=false)
  (HH:Hid (∀w',Calls Tryz.prog 152 #[aI aA aB (some ⟨b,off,none⟩) xs.length cap,()] w' fun e w''=>e= .returned (.bool true)∧Ext w' w''))
  (HV2:Hid (∀w' q c,Sl w' q xs.length c 1 (ivs (xs.set 0 id))→Calls Tryz.prog 80 #[aI aA aB q xs.length c] w' fun e w''=>e= .returned (.bool false)∧Ext w' w''))
  (HV:xB 80 #[aI aA aB (some ⟨b,off,none⟩) xs.length cap] w true)
  (HK:Hid (∀w',Ext w w'→Calls Tryz.prog 105 #[aI aA aB (some ⟨b,off,none⟩) xs.length cap] w' (dF aA aB xs w'))):
  Calls Tryz.prog 146 #[aI aA aB (some ⟨b,off,none⟩) xs.length cap,(),id] w (cJ aA aB xs false w):=by
 have hid2:decide (id<1)=false:=by simp;omega
 go_enter Tryz.func146,Tryz.ntmps146
 go_wp2_with fail
 refine(HV.out _ (Mem.b2 w).ext).mono ?_
 rintro e w1 ⟨rfl,hx1⟩
 have M1:=xQ ((Mem.b2 w).adv hx1)
 have lt1_0:=M1.out.hi 0
 have lt1_1:=M1.out.hi 1
 clear hx1
 obtain⟨h0,h1,h2⟩:=((M1.out.blk (i:=1) rfl)).tri
 go_wp2_with fail
 clear h0 h1 h2
 refine(HK.out _ M1.out.ext).mono ?_
 rintro e w2 ⟨q,c2,rfl,ho2,hx2⟩
 have M2:=xQ ((M1.out).call hx2 ho2)
 clear M1 lt1_0 lt1_1
 have lt2_1:=M2.out.hi 1
 have lt2_2:=M2.out.hi 2
 clear hx2 ho2
 obtain⟨g,rfl,hg1,hg2⟩:=M2.out.some (i:=0) rfl (by omega)
 clear hg1 hg2
 go_upto_region 4 with fail
 obtain⟨gV,hgV⟩: ∃gV,gV=w2.heap.size:=⟨_,rfl⟩
 rw[←hgV]
 have M3:=xQ (((M2.out).blkNew TH3 #[aA,aB,.slice (some ⟨g,0,none⟩) xs.length c2] gV hgV.symm))
 generalize World.alloc _ _=w4 at M3⊢
 clear M2 lt2_1 lt2_2
 have lt3_0:=M3.out.hi 0
 have lt3_2:=M3.out.hi 2
 have lt3_3:=M3.out.hi 3
 clear hgV
 obtain⟨h0,h1,h2⟩:=((M3.out.blk (i:=3) rfl)).tri
 go_wp2_with fail
 clear h0 h1 h2
 refine(HH.out _).mono ?_
 rintro e w4 ⟨rfl,hx4⟩
 have M4:=xQ ((M3.out).adv hx4)
 clear M3 lt3_0 lt3_2 lt3_3
 have lt4_0:=M4.out.hi 0
 have lt4_2:=M4.out.hi 2
 have lt4_3:=M4.out.hi 3
 clear hx4
 have cx:w4.cell? ⟨b,off,none⟩=some (.int .i64 x):=(M4.out.ext.cells.1 _ _ hb).trans HCX.out
 obtain⟨h0,h1,h2⟩:=((M4.out.blk (i:=3) rfl)).tri
 obtain⟨v0,v1,v2⟩:=((M4.out.blk (i:=0) rfl)).tri
 have gi:w4.cell? ⟨g,0,none⟩=some (.int .i64 x):=by have:=(M4.out.own (i:=1) rfl).cellAt 0 (by omega);rw[this];simpa[ivs]using HX0.out
 have gif:w4.frozen? ⟨g,0,none⟩=false:=(M4.out.own (i:=1) rfl).frozenAt 0
 have nc0_1a: ¬(gV=g):=M4.out.ne (i:=0) (j:=1) (by omega) rfl rfl rfl rfl
 have nc0_1b: ¬(g=gV):=fun h=>nc0_1a h.symm
 go_upto_region 7 with fail
 clear h0 h1 h2 v0 v1 v2 nc0_1a nc0_1b cx gi gif
 have MX:=xQ (show Mem w (w4.setCell ⟨g,0,none⟩ (.int .i64 id)) [aL w.heap.size (gV) TH3 #[aA,aB,.slice (some ⟨g,0,none⟩) xs.length c2],aJ w.heap.size TI 1 (some ⟨g,0,none⟩) (xs.length) (c2) (ivs (xs.set 0 id)),aL w.heap.size (w.heap.size+1) TH3 #[(),(),((),())],aL w.heap.size (w.heap.size) TH3 #[aA,aB,.slice (some ⟨b,off,none⟩) xs.length cap]]from by rw[←dI];exact M4.out.ostore (i:=1) rfl 0 (.int .i64 id))
 generalize hw5:World.setCell _ _ _=w5
 rw[hw5]at MX
 clear hw5 M4 lt4_0 lt4_2 lt4_3
 have lt9_0:gV<w5.heap.size:=(MX.out.lt (i:=0) rfl rfl).2
 have lt9_2:w.heap.size+1<w5.heap.size:=(MX.out.lt (i:=2) rfl rfl).2
 have lt9_3:w.heap.size<w5.heap.size:=(MX.out.lt (i:=3) rfl rfl).2
 obtain⟨v0,v1,v2⟩:=((MX.out.blk (i:=0) rfl)).tri
 go_wp2_with fail
 clear v0 v1 v2
 refine(HV2.out _ _ _ (by exact(MX.out.sl (i:=1) rfl))).mono ?_
 rintro e w10 ⟨rfl,hx10⟩
 have M10:=xQ ((MX.out).adv hx10)
 clear MX lt9_0 lt9_2 lt9_3
 have lt10_0:=M10.out.hi 0
 have lt10_2:=M10.out.hi 2
 have lt10_3:=M10.out.hi 3
 clear hx10
 obtain⟨h0,h1,h2⟩:=((M10.out.blk (i:=3) rfl)).tri
 go_wp2_with fail
 clear h0 h1 h2
 refine(HK.out _ M10.out.ext).mono ?_
 rintro e w11 ⟨q0,c0,rfl,ho11,hx11⟩
 have M11:=xQ ((M10.out).call hx11 ho11)
 clear M10 lt10_0 lt10_2 lt10_3
 have lt11_1:=M11.out.hi 1
 have lt11_3:=M11.out.hi 3
 have lt11_4:=M11.out.hi 4
 clear hx11 ho11
 obtain⟨z0,zf0,z1,zf1,z2,zf2⟩:=((M11.out.blk (i:=3) rfl)).trif
 go_wp2
 have M12:=xQ (((((M11.out).st 3 0 (.int .i64 aA))).st 3 1 (.int .i64 aB)))
 have M13:=xQ (((M12.out).st 3 2 (.slice q0 xs.length c0)))
 have M14:=xQ (show Mem w (((w11.setCell ⟨w.heap.size+1,0,none⟩ (.int .i64 aA)).setCell ⟨w.heap.size+1,1,none⟩ (.int .i64 aB)).setCell ⟨w.heap.size+1,2,none⟩ (.slice q0 xs.length c0)) [aJ w.heap.size TI 1 (q0) (xs.length) (c0) (ivs xs),aL w.heap.size (gV) TH3 #[aA,aB,.slice (some ⟨g,0,none⟩) xs.length c2],aJ w.heap.size TI 1 (some ⟨g,0,none⟩) (xs.length) (c2) (ivs (xs.set 0 id)),aL w.heap.size (w.heap.size+1) TH3 #[aA,aB,.slice q0 xs.length c0],aL w.heap.size (w.heap.size) TH3 #[aA,aB,.slice (some ⟨b,off,none⟩) xs.length cap]]from M13.out)
 generalize hwz:World.setCell _ _ _=wz
 rw[hwz]at M14
 clear hwz M11 M12 M13 z0 zf0 z1 zf1 z2 zf2
 obtain⟨y0,y1,y2⟩:=((M14.out.blk (i:=3) rfl)).tri
 exact bodyPost_ret (v:= .tuple #[.agg #[aA,aB,.slice q0 xs.length c0],.bool false]) (by simp[results,Tryz.results146,go_sem, *]) rfl (dN (by simp) (by exact(M14.out.own (i:=0) rfl)) M14.out.ext)
theorem aIy (aA aB id:Int)(p:OA)(n cap:Nat)(xs:List Int)(w:World)(hS:Sl w p n cap 1 (ivs xs))(hok:aP aA aB xs=true):
  Calls Tryz.prog 146 #[aI aA aB p n cap,(),id] w (cJ aA aB (cM aA aB xs id).1 (cM aA aB xs id).2 w):=by
 have hl:=hS.ilen
 subst hl
 obtain⟨g1,g2,g3,g4,g5,g6,g7,g8,g9⟩:=bN hok
 have HV: ∀w',Ext w w'→Calls Tryz.prog 80 #[aI aA aB p xs.length cap] w' fun e w''=>e= .returned (.bool true)∧Ext w' w'':=fun w' hx=>by
  have:=fJ aA aB p xs.length cap xs w' (hS.ext hx);rwa[hok]at this
 have HK:=fun(w':World) (hx:Ext w w')=>jN aA aB p xs.length cap xs w' (by omega) (hS.ext hx)
 have HH: ∀w',Calls Tryz.prog 152 #[aI aA aB p xs.length cap,()] w' fun e w''=>e= .returned (.bool true)∧Ext w' w'':=fun w'=>by
  have:=gM aA aB 0 p xs.length cap w' (by omega)
  rwa[decide_eq_true (⟨by omega,by omega⟩:0≤(0:Int)∧(0:Int)<xs.length)]at this
 obtain⟨b,off,rfl,hb,hcc⟩:=hS.rd (by omega)
 have hx0:xs[0]? =some (xs.getD 0 0):=by rw[List.getD_eq_getElem?_getD,List.getElem?_eq_getElem (by omega)];rfl
 have hc0:w.cell? ⟨b,off,none⟩=some (.int .i64 (xs.getD 0 0)):=by have:=hcc 0 (by omega);rw[Nat.add_zero]at this;rw[this];simp only[ivs,List.getElem?_map,hx0,Option.map_some]
 by_cases h1:id<1
 ·rw[show cM aA aB xs id=(xs,false) by unfold cM;rw[if_neg (by omega)]]
  exact aE6 aA aB id b off cap _ xs w g5 g6 hx0 hb hc0 h1 HV HK
 by_cases h2:xs.getD 0 0=0
 ·have d:(xs.getD 0 0 !=0)=false:=by rw[h2];rfl
  cases hv:aP aA aB (xs.set 0 id)with
  |true=>
   rw[show cM aA aB xs id=(xs.set 0 id,true) by unfold cM;rw[if_pos ⟨h2,by omega,hv⟩]]
   refine aBi aA aB id b off cap _ xs w g5 g6 hx0 hb hc0 (by omega) d HH (fun w' q c hL=> ?_) HV HK
   have:=fJ aA aB q xs.length c _ w' hL;rwa[hv]at this
  |false=>
   rw[show cM aA aB xs id=(xs,false) by unfold cM;rw[if_neg (by rw[hv];simp)]]
   refine aBj aA aB id b off cap _ xs w g5 g6 hx0 hb hc0 (by omega) d HH (fun w' q c hL=> ?_) HV HK
   have:=fJ aA aB q xs.length c _ w' hL;rwa[hv]at this
 ·rw[show cM aA aB xs id=(xs,false) by unfold cM;rw[if_neg (by omega)]]
  exact yV aA aB id b off cap _ xs w g5 g6 hx0 hb hc0 (by omega) (by simpa using h2) HH HV HK
theorem vS (aA aB id:Int)(p:OA)(n cap:Nat)(xs:List Int)(w:World)(hlen:Hid (xs.length=n))
  (HV:xB 80 #[aI aA aB p n cap] w true)
  (HC:xC 145 #[aI aA aB p n cap] w fun w' e w''=> ∃v,e= .returned (.tuple #[v,.bool false])∧Ext w' w'')
  (HL:xC 105 #[aI aA aB p n cap] w fun w' e w''=> ∃q c,e= .returned (aI aA aB q n c)∧w''.ownsRow w'.heap.size TI 1 (.slice q n c) n (ivs xs)∧Ext w' w''):
  Calls Tryz.prog 112 #[aI aA aB p n cap,id] w (cI aA aB xs (-1) w):=by
 go_enter Tryz.func112,Tryz.ntmps112
 go_wp2_with fail
 refine(HV.out _ (Mem.b2 w).ext).mono ?_
 rintro e w1 ⟨rfl,hx1⟩
 have M1:=xQ ((Mem.b2 w).adv hx1)
 have lt1_0:=M1.out.hi 0
 have lt1_1:=M1.out.hi 1
 clear hx1
 obtain⟨h0,h1,h2⟩:=((M1.out.blk (i:=1) rfl)).tri
 go_wp2_with fail
 clear h0 h1 h2
 refine(HC.out _ M1.out.ext).mono ?_
 rintro e w2 ⟨v,rfl,hx2⟩
 have M2:=xQ ((M1.out).adv hx2)
 clear M1 lt1_0 lt1_1
 have lt2_0:=M2.out.hi 0
 have lt2_1:=M2.out.hi 1
 clear hx2
 obtain⟨h0,h1,h2⟩:=((M2.out.blk (i:=1) rfl)).tri
 go_wp2_with fail
 clear h0 h1 h2
 refine(HL.out _ M2.out.ext).mono ?_
 rintro e w3 ⟨q0,c0,rfl,ho3,hx3⟩
 have M3:=xQ ((M2.out).call hx3 ho3)
 clear M2 lt2_0 lt2_1
 have lt3_1:=M3.out.hi 1
 have lt3_2:=M3.out.hi 2
 clear hx3 ho3
 obtain⟨z0,zf0,z1,zf1,z2,zf2⟩:=((M3.out.blk (i:=1) rfl)).trif
 go_wp2
 have M4:=xQ (((((M3.out).st 1 0 (.int .i64 aA))).st 1 1 (.int .i64 aB)))
 have M5:=xQ (((M4.out).st 1 2 (.slice q0 n c0)))
 clear z0 zf0 z1 zf1 z2 zf2
 have M6:=xQ (show Mem w (((w3.setCell ⟨w.heap.size+1,0,none⟩ (.int .i64 aA)).setCell ⟨w.heap.size+1,1,none⟩ (.int .i64 aB)).setCell ⟨w.heap.size+1,2,none⟩ (.slice q0 n c0)) [aJ w.heap.size TI 1 (q0) (n) (c0) (ivs xs),aL w.heap.size (w.heap.size+1) TH3 #[aA,aB,.slice q0 n c0],aL w.heap.size (w.heap.size) TH3 #[aA,aB,.slice p n cap]]from M5.out)
 generalize hwz:World.setCell _ _ _=wz
 rw[hwz]at M6
 clear hwz M3 M4 M5
 obtain⟨y0,y1,y2⟩:=((M6.out.blk (i:=1) rfl)).tri
 exact bodyPost_ret (v:= .tuple #[.agg #[aA,aB,.slice q0 n c0],(-1:Int)]) (by simp[results,Tryz.results112,go_sem, *]) rfl (dX hlen.out (M6.out.own (i:=0) rfl) M6.out.ext)
theorem aBd (aA aB id:Int)(p:OA)(n cap K:Nat)(xs ys zs:List Int)(sl:List Sl2)(w:World)(hlen:Hid (xs.length=n))
  (HV:xB 80 #[aI aA aB p n cap] w true)
  (HC:xC 145 #[aI aA aB p n cap] w fun w' e w''=> ∃q c,e= .returned (.tuple #[.slice q K c,.bool true])∧w''.ownsRow w'.heap.size TSL 2 (.slice q K c) K (sl.flatMap aM)∧Ext w' w'')
  (HR:Hid (∀w' q c,Ext w w'→Sl w' q K c 2 (sl.flatMap aM)→Calls Tryz.prog 147 #[aI aA aB p n cap,.slice q K c] w' fun e w''=> ∃q c,e= .returned (aI aA aB q n c)∧w''.ownsRow w'.heap.size TI 1 (.slice q n c) n (ivs ys)∧Ext w' w''))
  (HP:Hid (∀w' q c,Ext w w'→Sl w' q n c 1 (ivs ys)→Calls Tryz.prog 146 #[aI aA aB q n c,(),id] w' fun e w''=> ∃q c,e= .returned (.tuple #[aI aA aB q n c,.bool false])∧w''.ownsRow w'.heap.size TI 1 (.slice q n c) n (ivs zs)∧Ext w' w''))
  (HL:xC 105 #[aI aA aB p n cap] w fun w' e w''=> ∃q c,e= .returned (aI aA aB q n c)∧w''.ownsRow w'.heap.size TI 1 (.slice q n c) n (ivs xs)∧Ext w' w''):
  Calls Tryz.prog 112 #[aI aA aB p n cap,id] w (cI aA aB xs (-1) w):=by
 go_enter Tryz.func112,Tryz.ntmps112
 go_wp2_with fail
 refine(HV.out _ (Mem.b2 w).ext).mono ?_
 rintro e w1 ⟨rfl,hx1⟩
 have M1:=xQ ((Mem.b2 w).adv hx1)
 have lt1_0:=M1.out.hi 0
 have lt1_1:=M1.out.hi 1
 clear hx1
 obtain⟨h0,h1,h2⟩:=((M1.out.blk (i:=1) rfl)).tri
 go_wp2_with fail
 clear h0 h1 h2
 refine(HC.out _ M1.out.ext).mono ?_
 rintro e w2 ⟨qs,cs,rfl,ho2,hx2⟩
 have M2:=xQ ((M1.out).call hx2 ho2)
 clear M1 lt1_0 lt1_1
 have lt2_1:=M2.out.hi 1
 have lt2_2:=M2.out.hi 2
 clear hx2 ho2
 obtain⟨h0,h1,h2⟩:=((M2.out.blk (i:=2) rfl)).tri
 go_wp2_with fail
 clear h0 h1 h2
 refine(HR.out _ qs cs M2.out.ext (M2.out.sl (i:=0) rfl)).mono ?_
 rintro e w3 ⟨q1,c1,rfl,ho3,hx3⟩
 have M3:=xQ ((M2.out).call hx3 ho3)
 clear M2 lt2_1 lt2_2
 have lt3_2:=M3.out.hi 2
 have lt3_3:=M3.out.hi 3
 clear hx3 ho3
 go_wp2_with fail
 refine(HP.out _ q1 c1 M3.out.ext (M3.out.sl (i:=0) rfl)).mono ?_
 rintro e w4 ⟨q2,c2,rfl,ho4,hx4⟩
 have M4:=xQ ((M3.out).call hx4 ho4)
 clear M3 lt3_2 lt3_3
 have lt4_3:=M4.out.hi 3
 have lt4_4:=M4.out.hi 4
 clear hx4 ho4
 go_upto_region 7 with fail
 obtain⟨gV,hgV⟩: ∃gV,gV=w4.heap.size:=⟨_,rfl⟩
 rw[←hgV]
 have M5:=xQ (((M4.out).blkNew TH3 #[aA,aB,.slice q2 n c2] gV hgV.symm))
 generalize World.alloc _ _=w7 at M5⊢
 clear M4 lt4_3 lt4_4
 have lt5_0:=M5.out.hi 0
 have lt5_4:=M5.out.hi 4
 have lt5_5:=M5.out.hi 5
 clear hgV
 obtain⟨h0,h1,h2⟩:=((M5.out.blk (i:=5) rfl)).tri
 go_wp2_with fail
 clear h0 h1 h2
 refine(HL.out _ M5.out.ext).mono ?_
 rintro e w6 ⟨q0,c0,rfl,ho6,hx6⟩
 have M6:=xQ ((M5.out).call hx6 ho6)
 clear M5 lt5_0 lt5_4 lt5_5
 have lt6_1:=M6.out.hi 1
 have lt6_5:=M6.out.hi 5
 have lt6_6:=M6.out.hi 6
 clear hx6 ho6
 obtain⟨z0,zf0,z1,zf1,z2,zf2⟩:=((M6.out.blk (i:=5) rfl)).trif
 go_wp2
 have M7:=xQ (((((M6.out).st 5 0 (.int .i64 aA))).st 5 1 (.int .i64 aB)))
 have M8:=xQ (((M7.out).st 5 2 (.slice q0 n c0)))
 clear z0 zf0 z1 zf1 z2 zf2
 have M9:=xQ (show Mem w (((w6.setCell ⟨w.heap.size+1,0,none⟩ (.int .i64 aA)).setCell ⟨w.heap.size+1,1,none⟩ (.int .i64 aB)).setCell ⟨w.heap.size+1,2,none⟩ (.slice q0 n c0)) [aJ w.heap.size TI 1 (q0) (n) (c0) (ivs xs),aL w.heap.size (gV) TH3 #[aA,aB,.slice q2 n c2],aJ w.heap.size TI 1 (q2) (n) (c2) (ivs zs),aJ w.heap.size TI 1 (q1) (n) (c1) (ivs ys),aJ w.heap.size TSL 2 (qs) (K) (cs) (sl.flatMap aM),aL w.heap.size (w.heap.size+1) TH3 #[aA,aB,.slice q0 n c0],aL w.heap.size (w.heap.size) TH3 #[aA,aB,.slice p n cap]]from M8.out)
 generalize hwz:World.setCell _ _ _=wz
 rw[hwz]at M9
 clear hwz M6 M7 M8
 obtain⟨y0,y1,y2⟩:=((M9.out.blk (i:=5) rfl)).tri
 exact bodyPost_ret (v:= .tuple #[.agg #[aA,aB,.slice q0 n c0],(-1:Int)]) (by simp[results,Tryz.results112,go_sem, *]) rfl (dX hlen.out (M9.out.own (i:=0) rfl) M9.out.ext)
theorem yP (aA aB id:Int)(p:OA)(n cap K:Nat)(ys zs:List Int)(sl:List Sl2)(w:World)(hlen:Hid (zs.length=n))
  (HV:xB 80 #[aI aA aB p n cap] w true)
  (HC:xC 145 #[aI aA aB p n cap] w fun w' e w''=> ∃q c,e= .returned (.tuple #[.slice q K c,.bool true])∧w''.ownsRow w'.heap.size TSL 2 (.slice q K c) K (sl.flatMap aM)∧Ext w' w'')
  (HR:Hid (∀w' q c,Ext w w'→Sl w' q K c 2 (sl.flatMap aM)→Calls Tryz.prog 147 #[aI aA aB p n cap,.slice q K c] w' fun e w''=> ∃q c,e= .returned (aI aA aB q n c)∧w''.ownsRow w'.heap.size TI 1 (.slice q n c) n (ivs ys)∧Ext w' w''))
  (HP:Hid (∀w' q c,Ext w w'→Sl w' q n c 1 (ivs ys)→Calls Tryz.prog 146 #[aI aA aB q n c,(),id] w' fun e w''=> ∃q c,e= .returned (.tuple #[aI aA aB q n c,.bool true])∧w''.ownsRow w'.heap.size TI 1 (.slice q n c) n (ivs zs)∧Ext w' w'')):
  Calls Tryz.prog 112 #[aI aA aB p n cap,id] w (cI aA aB zs (K:Int) w):=by
 go_enter Tryz.func112,Tryz.ntmps112
 go_wp2_with fail
 refine(HV.out _ (Mem.b2 w).ext).mono ?_
 rintro e w1 ⟨rfl,hx1⟩
 have M1:=xQ ((Mem.b2 w).adv hx1)
 have lt1_0:=M1.out.hi 0
 have lt1_1:=M1.out.hi 1
 clear hx1
 obtain⟨h0,h1,h2⟩:=((M1.out.blk (i:=1) rfl)).tri
 go_wp2_with fail
 clear h0 h1 h2
 refine(HC.out _ M1.out.ext).mono ?_
 rintro e w2 ⟨qs,cs,rfl,ho2,hx2⟩
 have M2:=xQ ((M1.out).call hx2 ho2)
 clear M1 lt1_0 lt1_1
 have lt2_1:=M2.out.hi 1
 have lt2_2:=M2.out.hi 2
 clear hx2 ho2
 obtain⟨h0,h1,h2⟩:=((M2.out.blk (i:=2) rfl)).tri
 go_wp2_with fail
 clear h0 h1 h2
 refine(HR.out _ qs cs M2.out.ext (M2.out.sl (i:=0) rfl)).mono ?_
 rintro e w3 ⟨q1,c1,rfl,ho3,hx3⟩
 have M3:=xQ ((M2.out).call hx3 ho3)
 clear M2 lt2_1 lt2_2
 have lt3_2:=M3.out.hi 2
 have lt3_3:=M3.out.hi 3
 clear hx3 ho3
 go_wp2_with fail
 refine(HP.out _ q1 c1 M3.out.ext (M3.out.sl (i:=0) rfl)).mono ?_
 rintro e w4 ⟨q2,c2,rfl,ho4,hx4⟩
 have M4:=xQ ((M3.out).call hx4 ho4)
 clear M3 lt3_2 lt3_3
 have lt4_3:=M4.out.hi 3
 have lt4_4:=M4.out.hi 4
 clear hx4 ho4
 go_upto_region 7 with fail
 obtain⟨gV,hgV⟩: ∃gV,gV=w4.heap.size:=⟨_,rfl⟩
 rw[←hgV]
 have M5:=xQ (((M4.out).blkNew TH3 #[aA,aB,.slice q2 n c2] gV hgV.symm))
 generalize World.alloc _ _=w7 at M5⊢
 clear M4 lt4_3 lt4_4
 have lt5_0:=M5.out.hi 0
 have lt5_4:=M5.out.hi 4
 have lt5_5:=M5.out.hi 5
 clear hgV
 obtain⟨v0,v1,v2⟩:=((M5.out.blk (i:=0) rfl)).tri
 obtain⟨z0,zf0,z1,zf1,z2,zf2⟩:=((M5.out.blk (i:=4) rfl)).trif
 have ne0_1a: ¬(gV=w.heap.size+1):=M5.out.ne (i:=0) (j:=4) (by omega) rfl rfl rfl rfl
 have ne0_1b: ¬(w.heap.size+1=gV):=fun h=>ne0_1a h.symm
 go_wp2
 have M6:=xQ (((((M5.out).st 4 0 (.int .i64 aA))).st 4 1 (.int .i64 aB)))
 have M7:=xQ (((M6.out).st 4 2 (.slice q2 n c2)))
 clear v0 v1 v2 z0 zf0 z1 zf1 z2 zf2 ne0_1a ne0_1b
 have M8:=xQ (show Mem w (((w7.setCell ⟨w.heap.size+1,0,none⟩ (.int .i64 aA)).setCell ⟨w.heap.size+1,1,none⟩ (.int .i64 aB)).setCell ⟨w.heap.size+1,2,none⟩ (.slice q2 n c2)) [aL w.heap.size (gV) TH3 #[aA,aB,.slice q2 n c2],aJ w.heap.size TI 1 (q2) (n) (c2) (ivs zs),aJ w.heap.size TI 1 (q1) (n) (c1) (ivs ys),aJ w.heap.size TSL 2 (qs) (K) (cs) (sl.flatMap aM),aL w.heap.size (w.heap.size+1) TH3 #[aA,aB,.slice q2 n c2],aL w.heap.size (w.heap.size) TH3 #[aA,aB,.slice p n cap]]from M7.out)
 generalize hwz:World.setCell _ _ _=wz
 rw[hwz]at M8
 clear hwz M5 M6 M7
 obtain⟨y0,y1,y2⟩:=((M8.out.blk (i:=4) rfl)).tri
 exact bodyPost_ret (v:= .tuple #[.agg #[aA,aB,.slice q2 n c2],(K:Int)]) (by simp[results,Tryz.results112,go_sem, *]) rfl (dX hlen.out (M8.out.own (i:=1) rfl) M8.out.ext)
theorem nR {aA aB:Int}: ∀(l:List Sl2) (xs ys:List Int),bA aA aB xs l=(ys,l.length)→dS aA aB xs l=ys
 | [],xs,ys,h=>by
   simp only[bA,Prod.mk.injEq]at h
   exact h.1
 |s::l,xs,ys,h=>by
  show dS aA aB (bE aA aB xs s.1 s.2) l=ys
  cases hm:bC aA aB xs s.1 s.2 with
  |false=>rw[iP hm]at h;simp at h
  |true=>
   rw[dR hm]at h
   simp only[Prod.mk.injEq,List.length_cons]at h
   exact nR l _ ys (Prod.ext h.1 (by have:=h.2;dsimp only;omega))
theorem aDy (aA aB id:Int)(p:OA)(n cap:Nat)(xs:List Int)(w:World)(hS:Sl w p n cap 1 (ivs xs))(hok:aP aA aB xs=true):
  Calls Tryz.prog 112 #[aI aA aB p n cap,id] w (cI aA aB (bZ aA aB xs id).1 (bZ aA aB xs id).2 w):=by
 have hl:=hS.ilen
 subst hl
 obtain⟨g1,g2,g3,g4,g5,g6,g7⟩:=bR (cF hok)
 have HV: ∀w',Ext w w'→Calls Tryz.prog 80 #[aI aA aB p xs.length cap] w' fun e w''=>e= .returned (.bool true)∧Ext w' w'':=fun w' hy=>by
  have:=fJ aA aB p xs.length cap xs w' (hS.ext hy)
  rwa[hok]at this
 have HL:=fun(w':World) (hy:Ext w w')=>jN aA aB p xs.length cap xs w' (by omega) (hS.ext hy)
 have HC:=fun(w':World) (hy:Ext w w')=>aJ1 aA aB p xs.length cap xs w' (hS.ext hy) hok
 cases hr:fQ aA xs with
 |none=>
  have e:bZ aA aB xs id=(xs,-1):=by unfold bZ jV;rw[hr]
  rw[e]
  rw[hr]at HC
  exact vS aA aB id p xs.length cap xs w rfl HV HC HL
 |some r=>
  rw[hr]at HC
  obtain⟨f1,f2,f3,f4,f5⟩:=mB hok hr
  have hdo:dS aA aB xs r.2=r.1:=nR _ _ _ f1
  have HR: ∀w' q c,Ext w w'→Sl w' q r.2.length c 2 (r.2.flatMap aM)→Calls Tryz.prog 147 #[aI aA aB p xs.length cap,.slice q r.2.length c] w' fun e w''=> ∃q c,e= .returned (aI aA aB q xs.length c)∧w''.ownsRow w'.heap.size TI 1 (.slice q xs.length c) xs.length (ivs r.1)∧Ext w' w'':=fun w' q c hy hL=>by
   have:=uB aA aB p xs.length cap xs q r.2.length c r.2 w' rfl (hS.ext hy) hok hL
   rw[hdo]at this
   unfold dF at this
   rw[f3]at this
   exact this
  have HP: ∀w' q c,Ext w w'→Sl w' q xs.length c 1 (ivs r.1)→Calls Tryz.prog 146 #[aI aA aB q xs.length c,(),id] w' fun e w''=> ∃q c,e= .returned (.tuple #[aI aA aB q xs.length c,.bool (cM aA aB r.1 id).2])∧w''.ownsRow w'.heap.size TI 1 (.slice q xs.length c) xs.length (ivs (cM aA aB r.1 id).1)∧Ext w' w'':=fun w' q c hy hL=>by
   have:=aIy aA aB id q xs.length c r.1 w' hL f2
   unfold cJ at this
   rw[kD,f3]at this
   exact this
  cases hb:(cM aA aB r.1 id).2 with
  |false=>
   have e:bZ aA aB xs id=(xs,-1):=by simp[bZ,jV,hr,hb]
   rw[e]
   rw[hb]at HP
   exact aBd aA aB id p xs.length cap r.2.length xs r.1 (cM aA aB r.1 id).1 r.2 w rfl HV HC HR HP HL
  |true=>
   have e:bZ aA aB xs id=((cM aA aB r.1 id).1,(r.2.length:Int)):=by simp[bZ,jV,hr,hb]
   rw[e]
   rw[hb]at HP
   exact yP aA aB id p xs.length cap r.2.length r.1 (cM aA aB r.1 id).1 r.2 w (show _=_ by rw[kD,f3]) HV HC HR HP
theorem aAw (id:Int)(p:OA)(n cap:Nat)(xs:List Int)(w:World)(hS:Sl w p n cap 1 (ivs xs)):
  Calls Tryz.prog 198 #[.slice p n cap,id] w fun e w'=>e= .returned (.int .i64 (mV xs id))∧Ext w w':=by
 have hbd:=hS.bd
 have HS:=xQ hS
 have hl:=xQ hS.ilen
 clear hS
 go_enter Tryz.func198,Tryz.ntmps198
 go_wp2
 go_loop [8] (fun i=> ∃k:Nat,k≤n∧i= .int .i64 k∧id∉xs.take k) (fun i=>n-(intOf i).toNat)
 case atStart=>exact⟨0,Nat.zero_le _,rfl,by simp⟩
 case round=>
  obtain⟨k,hk,rfl,hc⟩:=hrel
  have HC:=xQ hc
  clear hc
  by_cases hlt:k<n
  ·obtain⟨b,off,y,rfl,hx,hb,hcell⟩:=HS.out.int_at hlt
   have HX:=xQ hx
   clear hx
   by_cases hy:y=id
   ·have t1:(id==y)=true:=by simp[hy]
    have hfin:Hid (mV xs id=k):=oI (by rw[HX.out,hy]) HC.out
    clear hy
    go_wp2
    go_ret
    exact⟨dL hfin.out.symm,by exact .refl _⟩
   ·have t1:(id==y)=false:=by simp;exact fun e=>hy e.symm
    have hfin:Hid (id∉xs.take (k+1)):=by
     show _∉_
     rw[bF HX.out,List.mem_append,List.mem_singleton]
     exact fun h=>h.elim HC.out (fun e=>hy e.symm)
    clear hy
    go_wp2
    go_round
    case rel=>exact⟨k+1,by omega,by go_num,hfin.out⟩
    case measure=>simp[intOf];omega
  ·have hfin:Hid (mV xs id= -1):=pL (by have:=HC.out;rwa[List.take_of_length_le (by rw[hl.out];omega)]at this)
   go_wp2
   go_ret
   exact⟨dL hfin.out.symm,by exact .refl _⟩
theorem tD (aA aB id:Int)(p:OA)(n cap:Nat)(b:Bool)(w:World)(hb:b=false∨b=true∧id<1)(HV:xB 80 #[aI aA aB p n cap] w b):
  Calls Tryz.prog 178 #[aI aA aB p n cap,id] w fun e w'=>e= .returned (.int .i64 (-1))∧Ext w w':=by
 rcases hb with rfl|⟨rfl,hi⟩
 all_goals
  go_enter Tryz.func178,Tryz.ntmps178
  go_wp2_with fail
  refine(HV.out _ (by exact .alloc (.refl _) _)).mono ?_
  rintro e w1 ⟨rfl,hh1⟩
  go_wp2
  go_ret
  exact⟨rfl,by exact .trans (.alloc (.refl _) _) hh1⟩
theorem vX (aA aB id:Int)(p:OA)(n cap:Nat)(xs:List Int)(w:World)(hi:1≤id)(HI:xC 198 #[.slice p n cap,id] w fun w' e w''=>e= .returned (.int .i64 (mV xs id))∧Ext w' w'')(HV:xB 80 #[aI aA aB p n cap] w true):
  Calls Tryz.prog 178 #[aI aA aB p n cap,id] w fun e w'=>e= .returned (.int .i64 (mV xs id))∧Ext w w':=by
 go_enter Tryz.func178,Tryz.ntmps178
 go_wp2_with fail
 refine(HV.out _ (by exact .alloc (.refl _) _)).mono ?_
 rintro e w1 ⟨rfl,hh1⟩
 have hB:=(Blk.new w TH3 #[aA,aB,.slice p n cap]).ext hh1
 have X1:=xQ (show Ext w w1 by exact .trans (.alloc (.refl _) _) hh1)
 obtain⟨b0,b1,b2⟩:=hB.cells3
 have hsz:w.heap.size<w1.heap.size:=hB.lt
 clear hh1 hB
 go_wp2_with fail
 refine(HI.out _ X1.out).mono ?_
 rintro e w2 ⟨rfl,hh2⟩
 have X2:=X1.out.trans hh2
 go_wp2
 go_ret
 exact⟨rfl,X2⟩
theorem uA (aA aB id:Int)(p:OA)(n cap:Nat)(xs:List Int)(w:World)(hS:Sl w p n cap 1 (ivs xs)):
  Calls Tryz.prog 178 #[aI aA aB p n cap,id] w fun e w'=>e= .returned (.int .i64 (fX aA aB xs id))∧Ext w w':=by
 have HV:=fun(w':World) (hx:Ext w w')=>fJ aA aB p n cap xs w' (hS.ext hx)
 unfold fX
 by_cases h:aP aA aB xs=true∧1≤id
 ·rw[if_pos h]
  rw[h.1]at HV
  exact vX aA aB id p n cap xs w h.2 (xQ fun w' hx=>aAw id p n cap xs w' (hS.ext hx)) (xQ HV)
 ·rw[if_neg h]
  refine tD aA aB id p n cap (aP aA aB xs) w ?_ (xQ HV)
  cases hh:aP aA aB xs with
  |false=>exact .inl rfl
  |true=>
   refine .inr ⟨rfl,?_⟩
   by_cases h1:1≤id
   ·exact absurd ⟨hh,h1⟩ h
   ·omega
end Go.Proofs.YtgnkoffndhmhpaaGreatDoor
