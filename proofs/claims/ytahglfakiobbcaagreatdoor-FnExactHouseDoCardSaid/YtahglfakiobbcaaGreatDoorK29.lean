/-
  Texts of this proof, packed (@packed).
-/
import Derived.Test.YtahglfakiobbcaaGreatDoorK7
import Derived.Test.YtahglfakiobbcaaGreatDoorK11
import Derived.Test.YtahglfakiobbcaaGreatDoorK13
import Derived.Test.YtahglfakiobbcaaGreatDoorK28
namespace Go.Proofs.YtahglfakiobbcaaGreatDoor
open Go.RowKit
set_option linter.unusedVariables false
set_option linter.unusedSimpArgs false
set_option maxRecDepth 100000 in
set_option maxHeartbeats 8000000 in
theorem aE9 (aA aB:Int)(p:Option Addr)(n cap F:Nat)(fr:List Nat)(xs:List Int)(w:World)(hg:Hid ((aA,n)∈fN))(hF:Hid (fr.length=F))(hF12:F≤12)(hfr:Hid (∀x∈fr,x<n))
  (HF:Hid (∀w',Ext w w'→Calls Tryz.prog 132 #[aK aA aB p n cap] w' fun e w''=> ∃q c,e= .returned (.slice q F c)∧w''.ownsRow w'.heap.size TI 1 (.slice q F c) F (ivs (aY fr))∧Ext w' w''))
  (HWAY:Hid (∀(u:Nat),u<n→ ∀w',Ext w w'→Calls Tryz.prog 133 #[aK aA aB p n cap,.int .i64 (u:Int),.int .i64 0,.int .i64 (-1)] w' (bB (aY (cH aA n 12 u)) w')))
  (HHS:Hid (∀(u:Nat),cA aA fr=some u→ ∀w' q W c,Ext w w'→Sl w' q W c 1 (ivs (aY (cH aA n 12 u)))→Calls Tryz.prog 134 #[aK aA aB p n cap,.slice q W c] w' (fC (bQ xs u (cH aA n 12 u).tail).2 w'))):
  Calls Tryz.prog 109 #[aK aA aB p n cap] w (lB ((cA aA fr).map fun u=>bQ xs u (cH aA n 12 u).tail) w):=by
 have q22: ∀(w:World) (a:Option Addr) (n c n' c':Nat),(binOp .eql 22 (.slice a n c) (.slice none n' c')).run Tryz.prog w= .ok (.bool a.isNone) w:=fun w a n c n' c'=>Lib.run_eql_slice_nil w _ _ a n c n' c' Tryz.underlying22
 go_enter Tryz.func109,Tryz.ntmps109
 go_wp2_with fail
 refine(HF.out _ (Mem.b1 w).ext).mono ?_
 rintro e w1 ⟨q1,c1,rfl,ho1,hx1⟩
 have M1:=xQ (show Mem w w1 [aJ w.heap.size TI 1 (q1) (F) (c1) (ivs (aY fr)),aF w.heap.size (w.heap.size) TH3 #[.int .i64 aA,.int .i64 aB,.slice p n cap]]from(Mem.b1 w).call hx1 ho1)
 have lt1_1:=M1.out.hi 1
 clear hx1 ho1
 have M2:=xQ (show Mem w w1 [aJ w.heap.size TI 1 (none) (0) (0) (ivs (aY (gJ aA n (cA aA (fr.take 0))))),aJ w.heap.size TI 1 (q1) (F) (c1) (ivs (aY fr)),aF w.heap.size (w.heap.size) TH3 #[.int .i64 aA,.int .i64 aB,.slice p n cap]]from(M1.out.ownNew (Ext.refl _) (World.ownsRow_nil _ _ TI 1) (Nat.le_refl _)))
 clear M1
 go_wp2
 go_loopw [4,11] (fun v i wr=> ∃(k:Nat) (qb:Option Addr) (l lb:Nat),k≤F∧i= .int .i64 (k:Int)∧v= .slice qb l lb∧l=(gJ aA n (cA aA (fr.take k))).length∧qb.isNone=decide (l=0)∧Mem w wr [aJ w.heap.size TI 1 (qb) (l) (lb) (ivs (aY (gJ aA n (cA aA (fr.take k))))),aJ w.heap.size TI 1 (q1) (F) (c1) (ivs (aY fr)),aF w.heap.size (w.heap.size) TH3 #[.int .i64 aA,.int .i64 aB,.slice p n cap]]) (fun _ i _=>F-(intOf i).toNat)
 case atStart=>exact⟨0,none,0,0,Nat.zero_le _,rfl,rfl,rfl,rfl,M2.out⟩
 case round=>
  clear M2
  obtain⟨k,qb,l,lb,hk,rfl,rfl,hl,hqb,hM⟩:=hrel
  have HM:=xQ hM
  have HLN:=xQ hl
  have HQ:=xQ hqb
  have hl6:l≤6:=by rw[hl];exact rO hg.out (fun x hx=>hfr.out x (List.mem_of_mem_take hx))
  have hlt0:w.heap.size<wr.heap.size:=(HM.out.lt (i:=2) rfl rfl).2
  clear hM hl hqb
  by_cases hlt:k<F
  ·obtain⟨u,hu⟩: ∃u,fr[k]? =some u:=⟨_,List.getElem?_eq_getElem (by rw[hF.out];exact hlt)⟩
   have hun:u<n:=hfr.out u (List.mem_of_getElem? hu)
   obtain⟨gf,rfl,hf1,hf2⟩:=HM.out.some (i:=1) rfl (by omega)
   have cu:wr.cell? ⟨gf,k,none⟩=some (.int .i64 (u:Int)):=by have:=(HM.out.own (i:=1) rfl).cellAt k (by omega);rw[this];simp[ivs,aY,hu]
   obtain⟨st1,st2⟩:=sG hg.out (l:=fr.take k) (fun x hx=>hfr.out x (List.mem_of_mem_take hx)) hun
   rw[←bH hu,←HLN.out]at st1 st2
   obtain⟨k1,k2,k3⟩:=fW hg.out hun
   obtain⟨W,hW⟩: ∃W,W=(cH aA n 12 u).length:=⟨_,rfl⟩
   rw[←hW]at k1 k2 st1 st2
   have ST1:=xQ st1
   have ST2:=xQ st2
   have HWl:=xQ hW
   have HC:=xQ (fun w' (hx:Ext w w')=>HWAY.out u hun w' hx)
   clear hu st1 st2 hW k3
   have i1:(0:Int)≤(k:Int):=by omega
   have i2:(k:Int)<(F:Int):=by omega
   obtain⟨b0,b1,b2⟩:=(HM.out.blk (i:=2) rfl).tri
   go_wp2_with fail
   clear b0 b1 b2 cu
   refine(HC.out _ HM.out.ext).mono ?_
   rintro e w5 ⟨q7,c7,rfl,o7,hx7⟩
   have hwl:(aY (cH aA n 12 u)).length=W:=by rw[HWl.out];simp[aY]
   rw[hwl]at o7⊢
   have M5:=xQ (show Mem w w5 [aJ w.heap.size TI 1 (q7) (W) (c7) (ivs (aY (cH aA n 12 u))),aJ w.heap.size TI 1 (qb) (l) (lb) (ivs (aY (gJ aA n (cA aA (fr.take k))))),aJ w.heap.size TI 1 (some ⟨gf,0,none⟩) (F) (c1) (ivs (aY fr)),aF w.heap.size (w.heap.size) TH3 #[.int .i64 aA,.int .i64 aB,.slice p n cap]]from HM.out.call hx7 o7)
   clear o7 hx7 HM HC hlt0
   obtain⟨g7,rfl,hg71,hg72⟩:=M5.out.some (i:=0) rfl k1
   clear hg71 hg72
   by_cases h0:l=0
   ·have hn:=xQ (ST1.out (.inl h0))
    have hq:qb.isNone=true:=by rw[HQ.out,h0];rfl
    clear h0
    go_wp2
    go_roundw
    case rel=>exact⟨k+1,some ⟨g7,0,none⟩,W,c7,by omega,by go_num,rfl,by rw[hn.out];exact HWl.out,by simp;omega,by rw[hn.out];exact M5.out.pick [0,2,3] (by decide) rfl⟩
    case measure=>simp[intOf];omega
   ·have hq:qb.isNone=false:=by rw[HQ.out];simp[h0]
    by_cases h1:W<l
    ·have t1:decide ((W:Int)<(l:Int))=true:=by first|(simp;done)|(simp;omega)
     have hn:=xQ (ST1.out (.inr h1))
     have t2:(W:Int)<(l:Int):=by omega
     have t3:decide (W<l)=true:=by simp[h1]
     clear h0
     go_wp2
     go_roundw
     case rel=>exact⟨k+1,some ⟨g7,0,none⟩,W,c7,by omega,by go_num,rfl,by rw[hn.out];exact HWl.out,by simp;omega,by rw[hn.out];exact M5.out.pick [0,2,3] (by decide) rfl⟩
     case measure=>simp[intOf];omega
    ·have t1:decide ((W:Int)<(l:Int))=false:=by first|(simp;done)|(simp;omega)
     have hn:=xQ (ST2.out (by omega))
     have t2: ¬((W:Int)<(l:Int)):=by omega
     have t3:decide (W<l)=false:=by simp[h1]
     clear h0
     go_wp2
     go_roundw
     case rel=>exact⟨k+1,qb,l,lb,by omega,by go_num,rfl,by rw[hn.out];exact HLN.out,HQ.out,by rw[hn.out];exact M5.out.pick [1,2,3] (by decide) rfl⟩
     case measure=>simp[intOf];omega
  ·obtain rfl:F=k:=by omega
   rw[show fr.take F=fr by rw[←hF.out];exact List.take_length]at HM HLN
   obtain⟨b0,b1,b2⟩:=(HM.out.blk (i:=2) rfl).tri
   cases hne:cA aA fr with
   |none=>
    have hq:qb.isNone=true:=by rw[HQ.out,HLN.out,hne];rfl
    have hE:=xQ HM.out.ext
    clear HM HLN
    go_wp2
    exact bodyPost_ret (v:= .tuple #[.slice none 0 0,.bool false]) (by simp[results,Tryz.results109,go_sem, *]) rfl (by rw[hne];exact⟨_,rfl,by have:=hE.out;exact xE⟩)
   |some u=>
    have hun:u<n:=hfr.out u ((fS aA fr).2 u hne)
    obtain⟨k1,k2,k3⟩:=fW hg.out hun
    rw[hne]at HM HLN
    have hq:qb.isNone=false:=by rw[HQ.out,HLN.out];exact decide_eq_false (by show¬(cH aA n 12 u).length=0;omega)
    have HH:=xQ (HHS.out u hne)
    have HW2:=xQ k1
    clear k1 k2 k3
    go_wp2_with fail
    clear b0 b1 b2
    refine(HH.out _ qb l lb HM.out.ext (HM.out.sl (i:=0) rfl)).mono ?_
    rintro e w9 ⟨q9,c9,rfl,o9,hx9⟩
    have HX:=xQ HM.out.ext
    clear HM
    go_wp2
    exact bodyPost_ret (v:= .tuple #[.slice q9 (bQ xs u (cH aA n 12 u).tail).2.length c9,.bool true]) (by simp[results,Tryz.results109,go_sem, *]) rfl (by rw[hne];exact⟨q9,c9,rfl,bG o9 HX.out.sz,HX.out.trans hx9⟩)
theorem aGg (aA aB:Int)(p:Option Addr)(n cap:Nat)(xs:List Int)(w:World)(hS:Sl w p n cap 1 (ivs xs))(hok:aP aA aB xs=true):
  Calls Tryz.prog 109 #[aK aA aB p n cap] w (lB (fA aA xs) w):=by
 have hl:=hS.ilen
 subst hl
 have hg:=gU hok
 obtain⟨g1,g2,g3,g4,g5,g6,g7,g8,g9⟩:=bL hok
 have hfl:(bE xs).length≤xs.length:=by unfold bE;exact Nat.le_trans (List.length_filter_le _ _) (by simp)
 refine aE9 aA aB p xs.length cap (bE xs).length (bE xs) xs w hg rfl (by omega) (fun x hx=>(gW hx).1) (fun w' hx=> ?_) (fun u hu w' hx=>aG7 aA aB p xs.length cap u xs w' (hS.ext hx) hok hu) (fun u hne w' q W c hx hL=> ?_)
 ·have:=aGd aA aB p xs.length cap xs w' (hS.ext hx)
  rw[if_pos hok,qS]at this
  refine this.mono fun e w'' h1=> ?_
  obtain⟨q,c,h2,h3,h4⟩:=h1
  rw[List.length_map]at h2 h3
  exact⟨q,c,h2,h3,h4⟩
 ·obtain⟨hu,hu0⟩:=gW ((fS aA _).2 u hne)
  exact aGb aA aB p xs.length cap xs q W c u w' (hS.ext hx) hok hu hu0 hL
set_option maxRecDepth 100000 in
set_option maxHeartbeats 4000000 in
theorem aC1 (aA aB id:Int)(b off cap:Nat)(x:Int)(xs:List Int)(w:World)(hn0:4≤xs.length)(hn:xs.length≤12)(HX0:Hid (xs[0]? =some x)) (hb:b<w.heap.size) (HCX:Hid (w.cell? ⟨b,off,none⟩=some (.int .i64 x))) (hid:id<1)
  (HV:Hid (∀w',Ext w w'→Calls Tryz.prog 73 #[aK aA aB (some ⟨b,off,none⟩) xs.length cap] w' fun e w''=>e= .returned (.bool true)∧Ext w' w''))
  (HK:Hid (∀w',Ext w w'→Calls Tryz.prog 77 #[aK aA aB (some ⟨b,off,none⟩) xs.length cap] w' (cW aA aB xs w'))):
  Calls Tryz.prog 110 #[aK aA aB (some ⟨b,off,none⟩) xs.length cap,.int .i64 0,.int .i64 id] w (bZ aA aB xs false w):=by
 have hid2:decide (id<1)=true:=by simp;omega
 go_enter Tryz.func110,Tryz.ntmps110
 go_wp2_with fail
 refine(HV.out _ (Mem.b2 w).ext).mono ?_
 rintro e w1 ⟨rfl,hx1⟩
 have M1:=xQ (show Mem w w1 [aF w.heap.size (w.heap.size+1) TH3 #[.int .i64 0,.int .i64 0,.slice none 0 0],aF w.heap.size (w.heap.size) TH3 #[.int .i64 aA,.int .i64 aB,.slice (some ⟨b,off,none⟩) xs.length cap]]from(Mem.b2 w).adv hx1)
 have lt1_0:=M1.out.hi 0
 have lt1_1:=M1.out.hi 1
 clear hx1
 obtain⟨h0,h1,h2⟩:=((M1.out.blk (i:=1) rfl)).tri
 go_wp2_with fail
 clear h0 h1 h2
 refine(HK.out _ M1.out.ext).mono ?_
 rintro e w2 ⟨q,c2,rfl,ho2,hx2⟩
 have M2:=xQ (show Mem w w2 [aJ w.heap.size TI 1 (q) (xs.length) (c2) (ivs xs),aF w.heap.size (w.heap.size+1) TH3 #[.int .i64 0,.int .i64 0,.slice none 0 0],aF w.heap.size (w.heap.size) TH3 #[.int .i64 aA,.int .i64 aB,.slice (some ⟨b,off,none⟩) xs.length cap]]from(M1.out).call hx2 ho2)
 clear M1
 clear lt1_0 lt1_1
 have lt2_1:=M2.out.hi 1
 have lt2_2:=M2.out.hi 2
 clear hx2 ho2
 obtain⟨g,rfl,hg1,hg2⟩:=M2.out.some (i:=0) rfl (by omega)
 clear hg1 hg2
 go_upto_region 4 with fail
 obtain⟨gV,hgV⟩: ∃gV,gV=w2.heap.size:=⟨_,rfl⟩
 rw[←hgV]
 have M3:=xQ (show Mem w (w2.alloc (.cells #[.int .i64 aA,.int .i64 aB,.slice (some ⟨g,0,none⟩) xs.length c2] TH3)) [aF w.heap.size (gV) TH3 #[.int .i64 aA,.int .i64 aB,.slice (some ⟨g,0,none⟩) xs.length c2],aJ w.heap.size TI 1 (some ⟨g,0,none⟩) (xs.length) (c2) (ivs xs),aF w.heap.size (w.heap.size+1) TH3 #[.int .i64 0,.int .i64 0,.slice none 0 0],aF w.heap.size (w.heap.size) TH3 #[.int .i64 aA,.int .i64 aB,.slice (some ⟨b,off,none⟩) xs.length cap]]from((M2.out).blkNew TH3 #[.int .i64 aA,.int .i64 aB,.slice (some ⟨g,0,none⟩) xs.length c2] gV hgV.symm))
 generalize World.alloc _ _=w4 at M3⊢
 clear M2
 clear lt2_1 lt2_2
 have lt3_0:=M3.out.hi 0
 have lt3_2:=M3.out.hi 2
 have lt3_3:=M3.out.hi 3
 clear hgV
 obtain⟨v0,v1,v2⟩:=((M3.out.blk (i:=0) rfl)).tri
 obtain⟨z0,zf0,z1,zf1,z2,zf2⟩:=((M3.out.blk (i:=2) rfl)).trif
 have ne0_1a: ¬(gV=w.heap.size+1):=M3.out.ne (i:=0) (j:=2) (by omega) rfl rfl rfl rfl
 have ne0_1b: ¬(w.heap.size+1=gV):=fun h=>ne0_1a h.symm
 go_wp2
 have M4:=xQ (show Mem w ((w4.setCell ⟨w.heap.size+1,0,none⟩ (.int .i64 aA)).setCell ⟨w.heap.size+1,1,none⟩ (.int .i64 aB)) [aF w.heap.size (gV) TH3 #[.int .i64 aA,.int .i64 aB,.slice (some ⟨g,0,none⟩) xs.length c2],aJ w.heap.size TI 1 (some ⟨g,0,none⟩) (xs.length) (c2) (ivs xs),aF w.heap.size (w.heap.size+1) TH3 #[.int .i64 aA,.int .i64 aB,.slice none 0 0],aF w.heap.size (w.heap.size) TH3 #[.int .i64 aA,.int .i64 aB,.slice (some ⟨b,off,none⟩) xs.length cap]]from((((M3.out).store (i:=2) rfl 0 (.int .i64 aA))).store (i:=2) rfl 1 (.int .i64 aB)))
 have M5:=xQ (show Mem w (((w4.setCell ⟨w.heap.size+1,0,none⟩ (.int .i64 aA)).setCell ⟨w.heap.size+1,1,none⟩ (.int .i64 aB)).setCell ⟨w.heap.size+1,2,none⟩ (.slice (some ⟨g,0,none⟩) xs.length c2)) [aF w.heap.size (gV) TH3 #[.int .i64 aA,.int .i64 aB,.slice (some ⟨g,0,none⟩) xs.length c2],aJ w.heap.size TI 1 (some ⟨g,0,none⟩) (xs.length) (c2) (ivs xs),aF w.heap.size (w.heap.size+1) TH3 #[.int .i64 aA,.int .i64 aB,.slice (some ⟨g,0,none⟩) xs.length c2],aF w.heap.size (w.heap.size) TH3 #[.int .i64 aA,.int .i64 aB,.slice (some ⟨b,off,none⟩) xs.length cap]]from((M4.out).store (i:=2) rfl 2 (.slice (some ⟨g,0,none⟩) xs.length c2)))
 have M6:=xQ (show Mem w (((w4.setCell ⟨w.heap.size+1,0,none⟩ (.int .i64 aA)).setCell ⟨w.heap.size+1,1,none⟩ (.int .i64 aB)).setCell ⟨w.heap.size+1,2,none⟩ (.slice (some ⟨g,0,none⟩) xs.length c2)) [aF w.heap.size (gV) TH3 #[.int .i64 aA,.int .i64 aB,.slice (some ⟨g,0,none⟩) xs.length c2],aJ w.heap.size TI 1 (some ⟨g,0,none⟩) (xs.length) (c2) (ivs xs),aF w.heap.size (w.heap.size+1) TH3 #[.int .i64 aA,.int .i64 aB,.slice (some ⟨g,0,none⟩) xs.length c2],aF w.heap.size (w.heap.size) TH3 #[.int .i64 aA,.int .i64 aB,.slice (some ⟨b,off,none⟩) xs.length cap]]from M5.out)
 generalize hwz:World.setCell _ _ _=wz
 rw[hwz]at M6
 clear hwz M3 M4 M5
 clear v0 v1 v2 z0 zf0 z1 zf1 z2 zf2 ne0_1a ne0_1b
 obtain⟨y0,y1,y2⟩:=((M6.out.blk (i:=2) rfl)).tri
 exact bodyPost_ret (v:= .tuple #[.agg #[.int .i64 aA,.int .i64 aB,.slice (some ⟨g,0,none⟩) xs.length c2],.bool false]) (by simp[results,Tryz.results110,go_sem, *]) rfl (dD (by simp) (by exact(M6.out.own (i:=1) rfl)) M6.out.ext)
set_option maxRecDepth 100000 in
set_option maxHeartbeats 4000000 in
theorem wK (aA aB id:Int)(b off cap:Nat)(x:Int)(xs:List Int)(w:World)(hn0:4≤xs.length)(hn:xs.length≤12)(HX0:Hid (xs[0]? =some x)) (hb:b<w.heap.size) (HCX:Hid (w.cell? ⟨b,off,none⟩=some (.int .i64 x))) (hid:1≤id) (hx0:(x !=0)=true)
  (HH:Hid (∀w',Calls Tryz.prog 120 #[aK aA aB (some ⟨b,off,none⟩) xs.length cap,.int .i64 0] w' fun e w''=>e= .returned (.bool true)∧Ext w' w''))
  (HV:Hid (∀w',Ext w w'→Calls Tryz.prog 73 #[aK aA aB (some ⟨b,off,none⟩) xs.length cap] w' fun e w''=>e= .returned (.bool true)∧Ext w' w''))
  (HK:Hid (∀w',Ext w w'→Calls Tryz.prog 77 #[aK aA aB (some ⟨b,off,none⟩) xs.length cap] w' (cW aA aB xs w'))):
  Calls Tryz.prog 110 #[aK aA aB (some ⟨b,off,none⟩) xs.length cap,.int .i64 0,.int .i64 id] w (bZ aA aB xs false w):=by
 have hid2:decide (id<1)=false:=by simp;omega
 go_enter Tryz.func110,Tryz.ntmps110
 go_wp2_with fail
 refine(HV.out _ (Mem.b2 w).ext).mono ?_
 rintro e w1 ⟨rfl,hx1⟩
 have M1:=xQ (show Mem w w1 [aF w.heap.size (w.heap.size+1) TH3 #[.int .i64 0,.int .i64 0,.slice none 0 0],aF w.heap.size (w.heap.size) TH3 #[.int .i64 aA,.int .i64 aB,.slice (some ⟨b,off,none⟩) xs.length cap]]from(Mem.b2 w).adv hx1)
 have lt1_0:=M1.out.hi 0
 have lt1_1:=M1.out.hi 1
 clear hx1
 obtain⟨h0,h1,h2⟩:=((M1.out.blk (i:=1) rfl)).tri
 go_wp2_with fail
 clear h0 h1 h2
 refine(HK.out _ M1.out.ext).mono ?_
 rintro e w2 ⟨q,c2,rfl,ho2,hx2⟩
 have M2:=xQ (show Mem w w2 [aJ w.heap.size TI 1 (q) (xs.length) (c2) (ivs xs),aF w.heap.size (w.heap.size+1) TH3 #[.int .i64 0,.int .i64 0,.slice none 0 0],aF w.heap.size (w.heap.size) TH3 #[.int .i64 aA,.int .i64 aB,.slice (some ⟨b,off,none⟩) xs.length cap]]from(M1.out).call hx2 ho2)
 clear M1
 clear lt1_0 lt1_1
 have lt2_1:=M2.out.hi 1
 have lt2_2:=M2.out.hi 2
 clear hx2 ho2
 obtain⟨g,rfl,hg1,hg2⟩:=M2.out.some (i:=0) rfl (by omega)
 clear hg1 hg2
 go_upto_region 4 with fail
 obtain⟨gV,hgV⟩: ∃gV,gV=w2.heap.size:=⟨_,rfl⟩
 rw[←hgV]
 have M3:=xQ (show Mem w (w2.alloc (.cells #[.int .i64 aA,.int .i64 aB,.slice (some ⟨g,0,none⟩) xs.length c2] TH3)) [aF w.heap.size (gV) TH3 #[.int .i64 aA,.int .i64 aB,.slice (some ⟨g,0,none⟩) xs.length c2],aJ w.heap.size TI 1 (some ⟨g,0,none⟩) (xs.length) (c2) (ivs xs),aF w.heap.size (w.heap.size+1) TH3 #[.int .i64 0,.int .i64 0,.slice none 0 0],aF w.heap.size (w.heap.size) TH3 #[.int .i64 aA,.int .i64 aB,.slice (some ⟨b,off,none⟩) xs.length cap]]from((M2.out).blkNew TH3 #[.int .i64 aA,.int .i64 aB,.slice (some ⟨g,0,none⟩) xs.length c2] gV hgV.symm))
 generalize World.alloc _ _=w4 at M3⊢
 clear M2
 clear lt2_1 lt2_2
 have lt3_0:=M3.out.hi 0
 have lt3_2:=M3.out.hi 2
 have lt3_3:=M3.out.hi 3
 clear hgV
 obtain⟨h0,h1,h2⟩:=((M3.out.blk (i:=3) rfl)).tri
 go_wp2_with fail
 clear h0 h1 h2
 refine(HH.out _).mono ?_
 rintro e w4 ⟨rfl,hx4⟩
 have M4:=xQ (show Mem w w4 [aF w.heap.size (gV) TH3 #[.int .i64 aA,.int .i64 aB,.slice (some ⟨g,0,none⟩) xs.length c2],aJ w.heap.size TI 1 (some ⟨g,0,none⟩) (xs.length) (c2) (ivs xs),aF w.heap.size (w.heap.size+1) TH3 #[.int .i64 0,.int .i64 0,.slice none 0 0],aF w.heap.size (w.heap.size) TH3 #[.int .i64 aA,.int .i64 aB,.slice (some ⟨b,off,none⟩) xs.length cap]]from(M3.out).adv hx4)
 clear M3
 clear lt3_0 lt3_2 lt3_3
 have lt4_0:=M4.out.hi 0
 have lt4_2:=M4.out.hi 2
 have lt4_3:=M4.out.hi 3
 clear hx4
 have cx:w4.cell? ⟨b,off,none⟩=some (.int .i64 x):=(M4.out.ext.cells.1 _ _ hb).trans HCX.out
 obtain⟨h0,h1,h2⟩:=((M4.out.blk (i:=3) rfl)).tri
 obtain⟨v0,v1,v2⟩:=((M4.out.blk (i:=0) rfl)).tri
 obtain⟨z0,zf0,z1,zf1,z2,zf2⟩:=((M4.out.blk (i:=2) rfl)).trif
 have ne0_1a: ¬(gV=w.heap.size+1):=M4.out.ne (i:=0) (j:=2) (by omega) rfl rfl rfl rfl
 have ne0_1b: ¬(w.heap.size+1=gV):=fun h=>ne0_1a h.symm
 go_wp2
 have M5:=xQ (show Mem w ((w4.setCell ⟨w.heap.size+1,0,none⟩ (.int .i64 aA)).setCell ⟨w.heap.size+1,1,none⟩ (.int .i64 aB)) [aF w.heap.size (gV) TH3 #[.int .i64 aA,.int .i64 aB,.slice (some ⟨g,0,none⟩) xs.length c2],aJ w.heap.size TI 1 (some ⟨g,0,none⟩) (xs.length) (c2) (ivs xs),aF w.heap.size (w.heap.size+1) TH3 #[.int .i64 aA,.int .i64 aB,.slice none 0 0],aF w.heap.size (w.heap.size) TH3 #[.int .i64 aA,.int .i64 aB,.slice (some ⟨b,off,none⟩) xs.length cap]]from((((M4.out).store (i:=2) rfl 0 (.int .i64 aA))).store (i:=2) rfl 1 (.int .i64 aB)))
 have M6:=xQ (show Mem w (((w4.setCell ⟨w.heap.size+1,0,none⟩ (.int .i64 aA)).setCell ⟨w.heap.size+1,1,none⟩ (.int .i64 aB)).setCell ⟨w.heap.size+1,2,none⟩ (.slice (some ⟨g,0,none⟩) xs.length c2)) [aF w.heap.size (gV) TH3 #[.int .i64 aA,.int .i64 aB,.slice (some ⟨g,0,none⟩) xs.length c2],aJ w.heap.size TI 1 (some ⟨g,0,none⟩) (xs.length) (c2) (ivs xs),aF w.heap.size (w.heap.size+1) TH3 #[.int .i64 aA,.int .i64 aB,.slice (some ⟨g,0,none⟩) xs.length c2],aF w.heap.size (w.heap.size) TH3 #[.int .i64 aA,.int .i64 aB,.slice (some ⟨b,off,none⟩) xs.length cap]]from((M5.out).store (i:=2) rfl 2 (.slice (some ⟨g,0,none⟩) xs.length c2)))
 have M7:=xQ (show Mem w (((w4.setCell ⟨w.heap.size+1,0,none⟩ (.int .i64 aA)).setCell ⟨w.heap.size+1,1,none⟩ (.int .i64 aB)).setCell ⟨w.heap.size+1,2,none⟩ (.slice (some ⟨g,0,none⟩) xs.length c2)) [aF w.heap.size (gV) TH3 #[.int .i64 aA,.int .i64 aB,.slice (some ⟨g,0,none⟩) xs.length c2],aJ w.heap.size TI 1 (some ⟨g,0,none⟩) (xs.length) (c2) (ivs xs),aF w.heap.size (w.heap.size+1) TH3 #[.int .i64 aA,.int .i64 aB,.slice (some ⟨g,0,none⟩) xs.length c2],aF w.heap.size (w.heap.size) TH3 #[.int .i64 aA,.int .i64 aB,.slice (some ⟨b,off,none⟩) xs.length cap]]from M6.out)
 generalize hwz:World.setCell _ _ _=wz
 rw[hwz]at M7
 clear hwz M4 M5 M6
 clear v0 v1 v2 z0 zf0 z1 zf1 z2 zf2 ne0_1a ne0_1b
 obtain⟨y0,y1,y2⟩:=((M7.out.blk (i:=2) rfl)).tri
 exact bodyPost_ret (v:= .tuple #[.agg #[.int .i64 aA,.int .i64 aB,.slice (some ⟨g,0,none⟩) xs.length c2],.bool false]) (by simp[results,Tryz.results110,go_sem, *]) rfl (dD (by simp) (by exact(M7.out.own (i:=1) rfl)) M7.out.ext)
set_option maxRecDepth 100000 in
set_option maxHeartbeats 4000000 in
theorem zL (aA aB id:Int)(b off cap:Nat)(x:Int)(xs:List Int)(w:World)(hn0:4≤xs.length)(hn:xs.length≤12)(HX0:Hid (xs[0]? =some x)) (hb:b<w.heap.size) (HCX:Hid (w.cell? ⟨b,off,none⟩=some (.int .i64 x))) (hid:1≤id) (hx0:(x !=0)=false)
  (HH:Hid (∀w',Calls Tryz.prog 120 #[aK aA aB (some ⟨b,off,none⟩) xs.length cap,.int .i64 0] w' fun e w''=>e= .returned (.bool true)∧Ext w' w''))
  (HV2:Hid (∀w' q c,Sl w' q xs.length c 1 (ivs (xs.set 0 id))→Calls Tryz.prog 73 #[aK aA aB q xs.length c] w' fun e w''=>e= .returned (.bool true)∧Ext w' w''))
  (HV:Hid (∀w',Ext w w'→Calls Tryz.prog 73 #[aK aA aB (some ⟨b,off,none⟩) xs.length cap] w' fun e w''=>e= .returned (.bool true)∧Ext w' w''))
  (HK:Hid (∀w',Ext w w'→Calls Tryz.prog 77 #[aK aA aB (some ⟨b,off,none⟩) xs.length cap] w' (cW aA aB xs w'))):
  Calls Tryz.prog 110 #[aK aA aB (some ⟨b,off,none⟩) xs.length cap,.int .i64 0,.int .i64 id] w (bZ aA aB (xs.set 0 id) true w):=by
 have hid2:decide (id<1)=false:=by simp;omega
 go_enter Tryz.func110,Tryz.ntmps110
 go_wp2_with fail
 refine(HV.out _ (Mem.b2 w).ext).mono ?_
 rintro e w1 ⟨rfl,hx1⟩
 have M1:=xQ (show Mem w w1 [aF w.heap.size (w.heap.size+1) TH3 #[.int .i64 0,.int .i64 0,.slice none 0 0],aF w.heap.size (w.heap.size) TH3 #[.int .i64 aA,.int .i64 aB,.slice (some ⟨b,off,none⟩) xs.length cap]]from(Mem.b2 w).adv hx1)
 have lt1_0:=M1.out.hi 0
 have lt1_1:=M1.out.hi 1
 clear hx1
 obtain⟨h0,h1,h2⟩:=((M1.out.blk (i:=1) rfl)).tri
 go_wp2_with fail
 clear h0 h1 h2
 refine(HK.out _ M1.out.ext).mono ?_
 rintro e w2 ⟨q,c2,rfl,ho2,hx2⟩
 have M2:=xQ (show Mem w w2 [aJ w.heap.size TI 1 (q) (xs.length) (c2) (ivs xs),aF w.heap.size (w.heap.size+1) TH3 #[.int .i64 0,.int .i64 0,.slice none 0 0],aF w.heap.size (w.heap.size) TH3 #[.int .i64 aA,.int .i64 aB,.slice (some ⟨b,off,none⟩) xs.length cap]]from(M1.out).call hx2 ho2)
 clear M1
 clear lt1_0 lt1_1
 have lt2_1:=M2.out.hi 1
 have lt2_2:=M2.out.hi 2
 clear hx2 ho2
 obtain⟨g,rfl,hg1,hg2⟩:=M2.out.some (i:=0) rfl (by omega)
 clear hg1 hg2
 go_upto_region 4 with fail
 obtain⟨gV,hgV⟩: ∃gV,gV=w2.heap.size:=⟨_,rfl⟩
 rw[←hgV]
 have M3:=xQ (show Mem w (w2.alloc (.cells #[.int .i64 aA,.int .i64 aB,.slice (some ⟨g,0,none⟩) xs.length c2] TH3)) [aF w.heap.size (gV) TH3 #[.int .i64 aA,.int .i64 aB,.slice (some ⟨g,0,none⟩) xs.length c2],aJ w.heap.size TI 1 (some ⟨g,0,none⟩) (xs.length) (c2) (ivs xs),aF w.heap.size (w.heap.size+1) TH3 #[.int .i64 0,.int .i64 0,.slice none 0 0],aF w.heap.size (w.heap.size) TH3 #[.int .i64 aA,.int .i64 aB,.slice (some ⟨b,off,none⟩) xs.length cap]]from((M2.out).blkNew TH3 #[.int .i64 aA,.int .i64 aB,.slice (some ⟨g,0,none⟩) xs.length c2] gV hgV.symm))
 generalize World.alloc _ _=w4 at M3⊢
 clear M2
 clear lt2_1 lt2_2
 have lt3_0:=M3.out.hi 0
 have lt3_2:=M3.out.hi 2
 have lt3_3:=M3.out.hi 3
 clear hgV
 obtain⟨h0,h1,h2⟩:=((M3.out.blk (i:=3) rfl)).tri
 go_wp2_with fail
 clear h0 h1 h2
 refine(HH.out _).mono ?_
 rintro e w4 ⟨rfl,hx4⟩
 have M4:=xQ (show Mem w w4 [aF w.heap.size (gV) TH3 #[.int .i64 aA,.int .i64 aB,.slice (some ⟨g,0,none⟩) xs.length c2],aJ w.heap.size TI 1 (some ⟨g,0,none⟩) (xs.length) (c2) (ivs xs),aF w.heap.size (w.heap.size+1) TH3 #[.int .i64 0,.int .i64 0,.slice none 0 0],aF w.heap.size (w.heap.size) TH3 #[.int .i64 aA,.int .i64 aB,.slice (some ⟨b,off,none⟩) xs.length cap]]from(M3.out).adv hx4)
 clear M3
 clear lt3_0 lt3_2 lt3_3
 have lt4_0:=M4.out.hi 0
 have lt4_2:=M4.out.hi 2
 have lt4_3:=M4.out.hi 3
 clear hx4
 have cx:w4.cell? ⟨b,off,none⟩=some (.int .i64 x):=(M4.out.ext.cells.1 _ _ hb).trans HCX.out
 obtain⟨h0,h1,h2⟩:=((M4.out.blk (i:=3) rfl)).tri
 obtain⟨v0,v1,v2⟩:=((M4.out.blk (i:=0) rfl)).tri
 have gi:w4.cell? ⟨g,0,none⟩=some (.int .i64 x):=by have:=(M4.out.own (i:=1) rfl).cellAt 0 (by omega);rw[this];simpa[ivs]using HX0.out
 have gif:w4.frozen? ⟨g,0,none⟩=false:=(M4.out.own (i:=1) rfl).frozenAt 0
 have nc0_1a: ¬(gV=g):=M4.out.ne (i:=0) (j:=1) (by omega) rfl rfl rfl rfl
 have nc0_1b: ¬(g=gV):=fun h=>nc0_1a h.symm
 go_upto_region 7 with fail
 clear h0 h1 h2 v0 v1 v2 nc0_1a nc0_1b cx gi gif
 have MX:=xQ (show Mem w (w4.setCell ⟨g,0,none⟩ (.int .i64 id)) [aF w.heap.size (gV) TH3 #[.int .i64 aA,.int .i64 aB,.slice (some ⟨g,0,none⟩) xs.length c2],aJ w.heap.size TI 1 (some ⟨g,0,none⟩) (xs.length) (c2) (ivs (xs.set 0 id)),aF w.heap.size (w.heap.size+1) TH3 #[.int .i64 0,.int .i64 0,.slice none 0 0],aF w.heap.size (w.heap.size) TH3 #[.int .i64 aA,.int .i64 aB,.slice (some ⟨b,off,none⟩) xs.length cap]]from by rw[←cZ];exact M4.out.ostore (i:=1) rfl 0 (.int .i64 id))
 generalize hw5:World.setCell _ _ _=w5
 rw[hw5]at MX
 clear hw5 M4 lt4_0 lt4_2 lt4_3
 have lt9_0:gV<w5.heap.size:=(MX.out.lt (i:=0) rfl rfl).2
 have lt9_2:w.heap.size+1<w5.heap.size:=(MX.out.lt (i:=2) rfl rfl).2
 have lt9_3:w.heap.size<w5.heap.size:=(MX.out.lt (i:=3) rfl rfl).2
 obtain⟨v0,v1,v2⟩:=((MX.out.blk (i:=0) rfl)).tri
 go_wp2_with fail
 clear v0 v1 v2
 refine(HV2.out _ _ _ (by exact(MX.out.sl (i:=1) rfl))).mono ?_
 rintro e w10 ⟨rfl,hx10⟩
 have M10:=xQ (show Mem w w10 [aF w.heap.size (gV) TH3 #[.int .i64 aA,.int .i64 aB,.slice (some ⟨g,0,none⟩) xs.length c2],aJ w.heap.size TI 1 (some ⟨g,0,none⟩) (xs.length) (c2) (ivs (xs.set 0 id)),aF w.heap.size (w.heap.size+1) TH3 #[.int .i64 0,.int .i64 0,.slice none 0 0],aF w.heap.size (w.heap.size) TH3 #[.int .i64 aA,.int .i64 aB,.slice (some ⟨b,off,none⟩) xs.length cap]]from(MX.out).adv hx10)
 clear MX
 clear lt9_0 lt9_2 lt9_3
 have lt10_0:=M10.out.hi 0
 have lt10_2:=M10.out.hi 2
 have lt10_3:=M10.out.hi 3
 clear hx10
 obtain⟨v0,v1,v2⟩:=((M10.out.blk (i:=0) rfl)).tri
 obtain⟨z0,zf0,z1,zf1,z2,zf2⟩:=((M10.out.blk (i:=2) rfl)).trif
 have ne0_1a: ¬(gV=w.heap.size+1):=M10.out.ne (i:=0) (j:=2) (by omega) rfl rfl rfl rfl
 have ne0_1b: ¬(w.heap.size+1=gV):=fun h=>ne0_1a h.symm
 go_wp2
 have M11:=xQ (show Mem w ((w10.setCell ⟨w.heap.size+1,0,none⟩ (.int .i64 aA)).setCell ⟨w.heap.size+1,1,none⟩ (.int .i64 aB)) [aF w.heap.size (gV) TH3 #[.int .i64 aA,.int .i64 aB,.slice (some ⟨g,0,none⟩) xs.length c2],aJ w.heap.size TI 1 (some ⟨g,0,none⟩) (xs.length) (c2) (ivs (xs.set 0 id)),aF w.heap.size (w.heap.size+1) TH3 #[.int .i64 aA,.int .i64 aB,.slice none 0 0],aF w.heap.size (w.heap.size) TH3 #[.int .i64 aA,.int .i64 aB,.slice (some ⟨b,off,none⟩) xs.length cap]]from((((M10.out).store (i:=2) rfl 0 (.int .i64 aA))).store (i:=2) rfl 1 (.int .i64 aB)))
 have M12:=xQ (show Mem w (((w10.setCell ⟨w.heap.size+1,0,none⟩ (.int .i64 aA)).setCell ⟨w.heap.size+1,1,none⟩ (.int .i64 aB)).setCell ⟨w.heap.size+1,2,none⟩ (.slice (some ⟨g,0,none⟩) xs.length c2)) [aF w.heap.size (gV) TH3 #[.int .i64 aA,.int .i64 aB,.slice (some ⟨g,0,none⟩) xs.length c2],aJ w.heap.size TI 1 (some ⟨g,0,none⟩) (xs.length) (c2) (ivs (xs.set 0 id)),aF w.heap.size (w.heap.size+1) TH3 #[.int .i64 aA,.int .i64 aB,.slice (some ⟨g,0,none⟩) xs.length c2],aF w.heap.size (w.heap.size) TH3 #[.int .i64 aA,.int .i64 aB,.slice (some ⟨b,off,none⟩) xs.length cap]]from((M11.out).store (i:=2) rfl 2 (.slice (some ⟨g,0,none⟩) xs.length c2)))
 have M13:=xQ (show Mem w (((w10.setCell ⟨w.heap.size+1,0,none⟩ (.int .i64 aA)).setCell ⟨w.heap.size+1,1,none⟩ (.int .i64 aB)).setCell ⟨w.heap.size+1,2,none⟩ (.slice (some ⟨g,0,none⟩) xs.length c2)) [aF w.heap.size (gV) TH3 #[.int .i64 aA,.int .i64 aB,.slice (some ⟨g,0,none⟩) xs.length c2],aJ w.heap.size TI 1 (some ⟨g,0,none⟩) (xs.length) (c2) (ivs (xs.set 0 id)),aF w.heap.size (w.heap.size+1) TH3 #[.int .i64 aA,.int .i64 aB,.slice (some ⟨g,0,none⟩) xs.length c2],aF w.heap.size (w.heap.size) TH3 #[.int .i64 aA,.int .i64 aB,.slice (some ⟨b,off,none⟩) xs.length cap]]from M12.out)
 generalize hwz:World.setCell _ _ _=wz
 rw[hwz]at M13
 clear hwz M10 M11 M12
 clear v0 v1 v2 z0 zf0 z1 zf1 z2 zf2 ne0_1a ne0_1b
 obtain⟨y0,y1,y2⟩:=((M13.out.blk (i:=2) rfl)).tri
 exact bodyPost_ret (v:= .tuple #[.agg #[.int .i64 aA,.int .i64 aB,.slice (some ⟨g,0,none⟩) xs.length c2],.bool true]) (by simp[results,Tryz.results110,go_sem, *]) rfl (dD (by simp) (by exact(M13.out.own (i:=1) rfl)) M13.out.ext)
set_option maxRecDepth 100000 in
set_option maxHeartbeats 4000000 in
theorem zM (aA aB id:Int)(b off cap:Nat)(x:Int)(xs:List Int)(w:World)(hn0:4≤xs.length)(hn:xs.length≤12)(HX0:Hid (xs[0]? =some x)) (hb:b<w.heap.size) (HCX:Hid (w.cell? ⟨b,off,none⟩=some (.int .i64 x))) (hid:1≤id) (hx0:(x !=0)=false)
  (HH:Hid (∀w',Calls Tryz.prog 120 #[aK aA aB (some ⟨b,off,none⟩) xs.length cap,.int .i64 0] w' fun e w''=>e= .returned (.bool true)∧Ext w' w''))
  (HV2:Hid (∀w' q c,Sl w' q xs.length c 1 (ivs (xs.set 0 id))→Calls Tryz.prog 73 #[aK aA aB q xs.length c] w' fun e w''=>e= .returned (.bool false)∧Ext w' w''))
  (HV:Hid (∀w',Ext w w'→Calls Tryz.prog 73 #[aK aA aB (some ⟨b,off,none⟩) xs.length cap] w' fun e w''=>e= .returned (.bool true)∧Ext w' w''))
  (HK:Hid (∀w',Ext w w'→Calls Tryz.prog 77 #[aK aA aB (some ⟨b,off,none⟩) xs.length cap] w' (cW aA aB xs w'))):
  Calls Tryz.prog 110 #[aK aA aB (some ⟨b,off,none⟩) xs.length cap,.int .i64 0,.int .i64 id] w (bZ aA aB xs false w):=by
 have hid2:decide (id<1)=false:=by simp;omega
 go_enter Tryz.func110,Tryz.ntmps110
 go_wp2_with fail
 refine(HV.out _ (Mem.b2 w).ext).mono ?_
 rintro e w1 ⟨rfl,hx1⟩
 have M1:=xQ (show Mem w w1 [aF w.heap.size (w.heap.size+1) TH3 #[.int .i64 0,.int .i64 0,.slice none 0 0],aF w.heap.size (w.heap.size) TH3 #[.int .i64 aA,.int .i64 aB,.slice (some ⟨b,off,none⟩) xs.length cap]]from(Mem.b2 w).adv hx1)
 have lt1_0:=M1.out.hi 0
 have lt1_1:=M1.out.hi 1
 clear hx1
 obtain⟨h0,h1,h2⟩:=((M1.out.blk (i:=1) rfl)).tri
 go_wp2_with fail
 clear h0 h1 h2
 refine(HK.out _ M1.out.ext).mono ?_
 rintro e w2 ⟨q,c2,rfl,ho2,hx2⟩
 have M2:=xQ (show Mem w w2 [aJ w.heap.size TI 1 (q) (xs.length) (c2) (ivs xs),aF w.heap.size (w.heap.size+1) TH3 #[.int .i64 0,.int .i64 0,.slice none 0 0],aF w.heap.size (w.heap.size) TH3 #[.int .i64 aA,.int .i64 aB,.slice (some ⟨b,off,none⟩) xs.length cap]]from(M1.out).call hx2 ho2)
 clear M1
 clear lt1_0 lt1_1
 have lt2_1:=M2.out.hi 1
 have lt2_2:=M2.out.hi 2
 clear hx2 ho2
 obtain⟨g,rfl,hg1,hg2⟩:=M2.out.some (i:=0) rfl (by omega)
 clear hg1 hg2
 go_upto_region 4 with fail
 obtain⟨gV,hgV⟩: ∃gV,gV=w2.heap.size:=⟨_,rfl⟩
 rw[←hgV]
 have M3:=xQ (show Mem w (w2.alloc (.cells #[.int .i64 aA,.int .i64 aB,.slice (some ⟨g,0,none⟩) xs.length c2] TH3)) [aF w.heap.size (gV) TH3 #[.int .i64 aA,.int .i64 aB,.slice (some ⟨g,0,none⟩) xs.length c2],aJ w.heap.size TI 1 (some ⟨g,0,none⟩) (xs.length) (c2) (ivs xs),aF w.heap.size (w.heap.size+1) TH3 #[.int .i64 0,.int .i64 0,.slice none 0 0],aF w.heap.size (w.heap.size) TH3 #[.int .i64 aA,.int .i64 aB,.slice (some ⟨b,off,none⟩) xs.length cap]]from((M2.out).blkNew TH3 #[.int .i64 aA,.int .i64 aB,.slice (some ⟨g,0,none⟩) xs.length c2] gV hgV.symm))
 generalize World.alloc _ _=w4 at M3⊢
 clear M2
 clear lt2_1 lt2_2
 have lt3_0:=M3.out.hi 0
 have lt3_2:=M3.out.hi 2
 have lt3_3:=M3.out.hi 3
 clear hgV
 obtain⟨h0,h1,h2⟩:=((M3.out.blk (i:=3) rfl)).tri
 go_wp2_with fail
 clear h0 h1 h2
 refine(HH.out _).mono ?_
 rintro e w4 ⟨rfl,hx4⟩
 have M4:=xQ (show Mem w w4 [aF w.heap.size (gV) TH3 #[.int .i64 aA,.int .i64 aB,.slice (some ⟨g,0,none⟩) xs.length c2],aJ w.heap.size TI 1 (some ⟨g,0,none⟩) (xs.length) (c2) (ivs xs),aF w.heap.size (w.heap.size+1) TH3 #[.int .i64 0,.int .i64 0,.slice none 0 0],aF w.heap.size (w.heap.size) TH3 #[.int .i64 aA,.int .i64 aB,.slice (some ⟨b,off,none⟩) xs.length cap]]from(M3.out).adv hx4)
 clear M3
 clear lt3_0 lt3_2 lt3_3
 have lt4_0:=M4.out.hi 0
 have lt4_2:=M4.out.hi 2
 have lt4_3:=M4.out.hi 3
 clear hx4
 have cx:w4.cell? ⟨b,off,none⟩=some (.int .i64 x):=(M4.out.ext.cells.1 _ _ hb).trans HCX.out
 obtain⟨h0,h1,h2⟩:=((M4.out.blk (i:=3) rfl)).tri
 obtain⟨v0,v1,v2⟩:=((M4.out.blk (i:=0) rfl)).tri
 have gi:w4.cell? ⟨g,0,none⟩=some (.int .i64 x):=by have:=(M4.out.own (i:=1) rfl).cellAt 0 (by omega);rw[this];simpa[ivs]using HX0.out
 have gif:w4.frozen? ⟨g,0,none⟩=false:=(M4.out.own (i:=1) rfl).frozenAt 0
 have nc0_1a: ¬(gV=g):=M4.out.ne (i:=0) (j:=1) (by omega) rfl rfl rfl rfl
 have nc0_1b: ¬(g=gV):=fun h=>nc0_1a h.symm
 go_upto_region 7 with fail
 clear h0 h1 h2 v0 v1 v2 nc0_1a nc0_1b cx gi gif
 have MX:=xQ (show Mem w (w4.setCell ⟨g,0,none⟩ (.int .i64 id)) [aF w.heap.size (gV) TH3 #[.int .i64 aA,.int .i64 aB,.slice (some ⟨g,0,none⟩) xs.length c2],aJ w.heap.size TI 1 (some ⟨g,0,none⟩) (xs.length) (c2) (ivs (xs.set 0 id)),aF w.heap.size (w.heap.size+1) TH3 #[.int .i64 0,.int .i64 0,.slice none 0 0],aF w.heap.size (w.heap.size) TH3 #[.int .i64 aA,.int .i64 aB,.slice (some ⟨b,off,none⟩) xs.length cap]]from by rw[←cZ];exact M4.out.ostore (i:=1) rfl 0 (.int .i64 id))
 generalize hw5:World.setCell _ _ _=w5
 rw[hw5]at MX
 clear hw5 M4 lt4_0 lt4_2 lt4_3
 have lt9_0:gV<w5.heap.size:=(MX.out.lt (i:=0) rfl rfl).2
 have lt9_2:w.heap.size+1<w5.heap.size:=(MX.out.lt (i:=2) rfl rfl).2
 have lt9_3:w.heap.size<w5.heap.size:=(MX.out.lt (i:=3) rfl rfl).2
 obtain⟨v0,v1,v2⟩:=((MX.out.blk (i:=0) rfl)).tri
 go_wp2_with fail
 clear v0 v1 v2
 refine(HV2.out _ _ _ (by exact(MX.out.sl (i:=1) rfl))).mono ?_
 rintro e w10 ⟨rfl,hx10⟩
 have M10:=xQ (show Mem w w10 [aF w.heap.size (gV) TH3 #[.int .i64 aA,.int .i64 aB,.slice (some ⟨g,0,none⟩) xs.length c2],aJ w.heap.size TI 1 (some ⟨g,0,none⟩) (xs.length) (c2) (ivs (xs.set 0 id)),aF w.heap.size (w.heap.size+1) TH3 #[.int .i64 0,.int .i64 0,.slice none 0 0],aF w.heap.size (w.heap.size) TH3 #[.int .i64 aA,.int .i64 aB,.slice (some ⟨b,off,none⟩) xs.length cap]]from(MX.out).adv hx10)
 clear MX
 clear lt9_0 lt9_2 lt9_3
 have lt10_0:=M10.out.hi 0
 have lt10_2:=M10.out.hi 2
 have lt10_3:=M10.out.hi 3
 clear hx10
 obtain⟨h0,h1,h2⟩:=((M10.out.blk (i:=3) rfl)).tri
 go_wp2_with fail
 clear h0 h1 h2
 refine(HK.out _ M10.out.ext).mono ?_
 rintro e w11 ⟨q0,c0,rfl,ho11,hx11⟩
 have M11:=xQ (show Mem w w11 [aJ w.heap.size TI 1 (q0) (xs.length) (c0) (ivs xs),aF w.heap.size (gV) TH3 #[.int .i64 aA,.int .i64 aB,.slice (some ⟨g,0,none⟩) xs.length c2],aJ w.heap.size TI 1 (some ⟨g,0,none⟩) (xs.length) (c2) (ivs (xs.set 0 id)),aF w.heap.size (w.heap.size+1) TH3 #[.int .i64 0,.int .i64 0,.slice none 0 0],aF w.heap.size (w.heap.size) TH3 #[.int .i64 aA,.int .i64 aB,.slice (some ⟨b,off,none⟩) xs.length cap]]from(M10.out).call hx11 ho11)
 clear M10
 clear lt10_0 lt10_2 lt10_3
 have lt11_1:=M11.out.hi 1
 have lt11_3:=M11.out.hi 3
 have lt11_4:=M11.out.hi 4
 clear hx11 ho11
 obtain⟨z0,zf0,z1,zf1,z2,zf2⟩:=((M11.out.blk (i:=3) rfl)).trif
 go_wp2
 have M12:=xQ (show Mem w ((w11.setCell ⟨w.heap.size+1,0,none⟩ (.int .i64 aA)).setCell ⟨w.heap.size+1,1,none⟩ (.int .i64 aB)) [aJ w.heap.size TI 1 (q0) (xs.length) (c0) (ivs xs),aF w.heap.size (gV) TH3 #[.int .i64 aA,.int .i64 aB,.slice (some ⟨g,0,none⟩) xs.length c2],aJ w.heap.size TI 1 (some ⟨g,0,none⟩) (xs.length) (c2) (ivs (xs.set 0 id)),aF w.heap.size (w.heap.size+1) TH3 #[.int .i64 aA,.int .i64 aB,.slice none 0 0],aF w.heap.size (w.heap.size) TH3 #[.int .i64 aA,.int .i64 aB,.slice (some ⟨b,off,none⟩) xs.length cap]]from((((M11.out).store (i:=3) rfl 0 (.int .i64 aA))).store (i:=3) rfl 1 (.int .i64 aB)))
 have M13:=xQ (show Mem w (((w11.setCell ⟨w.heap.size+1,0,none⟩ (.int .i64 aA)).setCell ⟨w.heap.size+1,1,none⟩ (.int .i64 aB)).setCell ⟨w.heap.size+1,2,none⟩ (.slice q0 xs.length c0)) [aJ w.heap.size TI 1 (q0) (xs.length) (c0) (ivs xs),aF w.heap.size (gV) TH3 #[.int .i64 aA,.int .i64 aB,.slice (some ⟨g,0,none⟩) xs.length c2],aJ w.heap.size TI 1 (some ⟨g,0,none⟩) (xs.length) (c2) (ivs (xs.set 0 id)),aF w.heap.size (w.heap.size+1) TH3 #[.int .i64 aA,.int .i64 aB,.slice q0 xs.length c0],aF w.heap.size (w.heap.size) TH3 #[.int .i64 aA,.int .i64 aB,.slice (some ⟨b,off,none⟩) xs.length cap]]from((M12.out).store (i:=3) rfl 2 (.slice q0 xs.length c0)))
 have M14:=xQ (show Mem w (((w11.setCell ⟨w.heap.size+1,0,none⟩ (.int .i64 aA)).setCell ⟨w.heap.size+1,1,none⟩ (.int .i64 aB)).setCell ⟨w.heap.size+1,2,none⟩ (.slice q0 xs.length c0)) [aJ w.heap.size TI 1 (q0) (xs.length) (c0) (ivs xs),aF w.heap.size (gV) TH3 #[.int .i64 aA,.int .i64 aB,.slice (some ⟨g,0,none⟩) xs.length c2],aJ w.heap.size TI 1 (some ⟨g,0,none⟩) (xs.length) (c2) (ivs (xs.set 0 id)),aF w.heap.size (w.heap.size+1) TH3 #[.int .i64 aA,.int .i64 aB,.slice q0 xs.length c0],aF w.heap.size (w.heap.size) TH3 #[.int .i64 aA,.int .i64 aB,.slice (some ⟨b,off,none⟩) xs.length cap]]from M13.out)
 generalize hwz:World.setCell _ _ _=wz
 rw[hwz]at M14
 clear hwz M11 M12 M13
 clear z0 zf0 z1 zf1 z2 zf2
 obtain⟨y0,y1,y2⟩:=((M14.out.blk (i:=3) rfl)).tri
 exact bodyPost_ret (v:= .tuple #[.agg #[.int .i64 aA,.int .i64 aB,.slice q0 xs.length c0],.bool false]) (by simp[results,Tryz.results110,go_sem, *]) rfl (dD (by simp) (by exact(M14.out.own (i:=0) rfl)) M14.out.ext)
theorem aGc (aA aB id:Int)(p:Option Addr)(n cap:Nat)(xs:List Int)(w:World)(hS:Sl w p n cap 1 (ivs xs))(hok:aP aA aB xs=true):
  Calls Tryz.prog 110 #[aK aA aB p n cap,.int .i64 0,.int .i64 id] w (bZ aA aB (cD aA aB xs id).1 (cD aA aB xs id).2 w):=by
 have hl:=hS.ilen
 subst hl
 obtain⟨g1,g2,g3,g4,g5,g6,g7,g8,g9⟩:=bL hok
 have HV: ∀w',Ext w w'→Calls Tryz.prog 73 #[aK aA aB p xs.length cap] w' fun e w''=>e= .returned (.bool true)∧Ext w' w'':=fun w' hx=>by
  have:=eR aA aB p xs.length cap xs w' (hS.ext hx);rwa[hok]at this
 have HK:=fun(w':World) (hx:Ext w w')=>iS aA aB p xs.length cap xs w' (by omega) (hS.ext hx)
 have HH: ∀w',Calls Tryz.prog 120 #[aK aA aB p xs.length cap,.int .i64 0] w' fun e w''=>e= .returned (.bool true)∧Ext w' w'':=fun w'=>by
  have:=fT aA aB 0 p xs.length cap w' (by omega)
  rwa[decide_eq_true (⟨by omega,by omega⟩:0≤(0:Int)∧(0:Int)<xs.length)]at this
 obtain⟨b,off,rfl,hb,hcc⟩:=hS.rd (by omega)
 have hx0:xs[0]? =some (xs.getD 0 0):=by rw[List.getD_eq_getElem?_getD,List.getElem?_eq_getElem (by omega)];rfl
 have hc0:w.cell? ⟨b,off,none⟩=some (.int .i64 (xs.getD 0 0)):=by have:=hcc 0 (by omega);rw[Nat.add_zero]at this;rw[this];simp only[ivs,List.getElem?_map,hx0,Option.map_some]
 by_cases h1:id<1
 ·rw[show cD aA aB xs id=(xs,false) by unfold cD;rw[if_neg (by omega)]]
  exact aC1 aA aB id b off cap _ xs w g5 g6 hx0 hb hc0 h1 HV HK
 by_cases h2:xs.getD 0 0=0
 ·have d:(xs.getD 0 0 !=0)=false:=by rw[h2];rfl
  cases hv:aP aA aB (xs.set 0 id)with
  |true=>
   rw[show cD aA aB xs id=(xs.set 0 id,true) by unfold cD;rw[if_pos ⟨h2,by omega,hv⟩]]
   refine zL aA aB id b off cap _ xs w g5 g6 hx0 hb hc0 (by omega) d HH (fun w' q c hL=> ?_) HV HK
   have:=eR aA aB q xs.length c _ w' hL;rwa[hv]at this
  |false=>
   rw[show cD aA aB xs id=(xs,false) by unfold cD;rw[if_neg (by rw[hv];simp)]]
   refine zM aA aB id b off cap _ xs w g5 g6 hx0 hb hc0 (by omega) d HH (fun w' q c hL=> ?_) HV HK
   have:=eR aA aB q xs.length c _ w' hL;rwa[hv]at this
 ·rw[show cD aA aB xs id=(xs,false) by unfold cD;rw[if_neg (by omega)]]
  exact wK aA aB id b off cap _ xs w g5 g6 hx0 hb hc0 (by omega) (by simpa using h2) HH HV HK
end Go.Proofs.YtahglfakiobbcaaGreatDoor
