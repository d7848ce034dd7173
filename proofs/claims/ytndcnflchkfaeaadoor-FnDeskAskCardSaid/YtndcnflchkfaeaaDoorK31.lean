/-
  Texts of this proof, packed (@packed).
-/
import Derived.Test.YtndcnflchkfaeaaDoorK10
import Derived.Test.YtndcnflchkfaeaaDoorK29
namespace Go.Proofs.YtndcnflchkfaeaaDoor
open Go.RowKit
set_option linter.unusedVariables false
set_option linter.unusedSimpArgs false
set_option maxRecDepth 100000 in
set_option maxHeartbeats 8000000 in
theorem idxFlag (g:Nat)(u:Int→Bool)(x:Nat)(w:World)(hx:x<7)(hu:u x=false)(hb: ∀r:Nat,r<x→u r=true)(hB:Blk w g 101 (flags u).toArray):
  Calls Tryd.prog 86 #[.slice (some ⟨g,0,none⟩) 7 7,.bool false] w fun e w'=>e= .returned (.int .i64 (x:Int))∧w=w':=by
 have HB:=Lib.hid hB
 clear hB
 go_enter Tryd.func86,Tryd.ntmps86
 go_wp2
 go_loop [8] (fun i=> ∃k:Nat,k≤x∧i= .int .i64 (k:Int)) (fun i=>7-(intOf i).toNat)
 case atStart=>exact⟨0,Nat.zero_le _,rfl⟩
 case round=>
  obtain⟨k,hk,rfl⟩:=hrel
  have i1:(0:Int)≤(k:Int):=by omega
  have i2:(k:Int)<7:=by omega
  have hc:w.cell? ⟨g,k,none⟩=some (.bool (u (k:Int))):=(HB.out.cell k).trans (by rw[List.getElem?_toArray];exact flags_get u (by omega))
  by_cases hkx:k<x
  ·rw[hb k hkx]at hc
   go_wp2
   go_round
   case rel=>exact⟨k+1,by omega,by go_num⟩
   case measure=>simp[intOf];omega
  ·obtain rfl:k=x:=by omega
   rw[hu]at hc
   go_wp2
   go_ret
   exact⟨rfl,rfl⟩
set_option maxRecDepth 100000 in
set_option maxHeartbeats 8000000 in
theorem implBp (b off m c2:Nat)(bs:List Visit4)(w:World)(ho:booksOk bs=true)(hm0:0<m)(hS:Sl w (some ⟨b,off,none⟩) m c2 4 (bs.flatMap visitCells)):
  Calls Tryd.prog 65 #[.slice (some ⟨b,off,none⟩) m c2] w (RetInts (bookPlaces bs) w):=by
 have hl0:bs.length=m:=by have:=hS.len;rw[flat_len visitCells 4 (fun _=>rfl)]at this;omega
 have hm7:m≤7:=by have:=((booksOk_iff bs).1 ho).1;omega
 have hl:=Lib.hid hl0
 have HS:=Lib.hid hS
 have HOK:=Lib.hid ho
 have HV:Hid (∀w',Ext w w'→Calls Tryd.prog 40 #[.slice (some ⟨b,off,none⟩) m c2] w' fun e w''=>e= .returned (.bool true)∧Ext w' w''):=fun w' hx=>by rw[←ho];exact implBsv _ m c2 bs w' (hS.ext hx)
 have HF:Hid (∀w',Ext w w'→Calls Tryd.prog 59 #[.slice (some ⟨b,off,none⟩) m c2,.func (.func 85) #[] #[]] w' (RetInts (natI (byFrom bs)) w')):=fun w' hx=>orderFrom b off m c2 bs w' ho hm0 (hS.ext hx)
 have hfl:Hid ((natI (byFrom bs)).length=m):=by show _=_;rw[natI_len,byFrom_len ho,hl0]
 obtain⟨i0,hi0,hz0,hz1,hz2⟩:=info_parts (show(Tryd.prog.info? 3).map (fun i=>(i.zero,i.size,i.bytes))=some (some (.int .i64 0),1,8) by kernel_rfl)
 clear hS hl0 ho
 go_enter Tryd.func65,Tryd.ntmps65
 go_wp2_with fail
 refine(HV.out _ (by(repeat' (first|exact Ext.refl _|(with_reducible assumption)|(with_reducible refine Ext.alloc ?_ _)|(with_reducible refine Ext.setCell ?_ (by first|exact Nat.le_refl _|(dsimp only;omega)|(simp;done)|(simp;omega)) _)|(with_reducible refine Ext.drew ?_)|(with_reducible refine Ext.drewN ?_ _)|(refine Ext.trans ?_ (by with_reducible assumption)))))).mono ?_
 rintro e w1 ⟨rfl,h1⟩
 go_wp2_with (at_make;refine wpList_make_full _ rfl _ _ 40 rfl w1.heap.size 3 i0 (.int .i64 0) 1 Tryd.underlying40 hi0 hz0 hz1 .i64 .i64 _ _ m rfl rfl rfl rfl (by rw[hz2];omega) (by unfold maxLen;omega) (Nat.le_refl _) ?_;intro w0 hown0 hgrow0)
 have hE0:Ext w1 w0:=(Ext.refl w1).grown hgrow0 (fun q hq=>by cases hq)
 rw[made_zero]at hown0
 have M0:=Lib.hid ((Mem.of h1).ownNew hE0 hown0 (Nat.le_refl _))
 clear hown0 hgrow0 hi0 hz0 hz1 hz2 hE0 h1
 generalize w1.heap.size=g3 at M0⊢
 go_wp2
 go_loopw [18] (fun x wr=> ∃k:Nat,k≤m∧x= .int .i64 (k:Int)∧Mem w wr [ownI w.heap.size TI 1 (some ⟨g3,0,none⟩) (m) (m) (ivs ((List.replicate m (-1:Int)).take k++List.replicate (m-k) 0))]) (fun x _=>m-(intOf x).toNat)
 case atStart=>exact⟨0,Nat.zero_le _,rfl,by simpa using M0.out⟩
 case round=>
  clear M0
  obtain⟨k,hk,rfl,hM⟩:=hrel
  have HM:=Lib.hid hM
  clear hM
  by_cases hlt:k<m
  ·have hlt':((List.replicate m (-1:Int)).take k).length=k:=by simp;omega
   have hx:(List.replicate m (-1:Int))[k]? =some (-1):=by simp[hlt]
   have o0:wr.cell? ⟨g3,k,none⟩=some (.int .i64 0):=by
    rw[(HM.out.own (i:=0) rfl).cellAt k (by omega)]
    exact get_next hlt hlt'
   have f0:wr.frozen? ⟨g3,k,none⟩=false:=(HM.out.own (i:=0) rfl).frozenAt k
   have M9:=Lib.hid (HM.out.ostore (i:=0) rfl k (.int .i64 (-1)))
   have M8:=Lib.hid (show Mem w (wr.setCell ⟨g3,k,none⟩ (.int .i64 (-1))) [ownI w.heap.size TI 1 (some ⟨g3,0,none⟩) (m) (m) (ivs ((List.replicate m (-1:Int)).take (k+1)++List.replicate (m-(k+1)) 0))]from by rw[←set_next hlt hx hlt'];exact M9.out)
   clear HM M9 hlt' hx
   go_wp2
   go_roundw
   case rel=>exact⟨k+1,by omega,by go_num,M8.out⟩
   case measure=>simp[intOf];omega
  ·obtain rfl:k=m:=by omega
   go_wp2_with fail
   refine(HF.out _ HM.out.ext).mono ?_
   rintro e w5 ⟨q5,c5,rfl,o5,h5⟩
   rw[hfl.out]at o5⊢
   have M5:=Lib.hid (show Mem w w5 [ownI w.heap.size TI 1 (q5) (k) (c5) (ivs (natI (byFrom bs))),ownI w.heap.size TI 1 (some ⟨g3,0,none⟩) (k) (k) (ivs (placesAt bs 0))]from by rw[placesAt_zero,hl.out];have:=HM.out.call h5 o5;simpa using this)
   obtain⟨g5,rfl,_,_⟩:=M5.out.some (i:=0) rfl hm0
   clear HM o5 h5
   obtain⟨m,rfl⟩: ∃m,m=k:=⟨k,rfl⟩
   go_wp2
   go_loopw [28] (fun x wr=> ∃k:Nat,k≤m∧x= .int .i64 (k:Int)∧Mem w wr [ownI w.heap.size TI 1 (some ⟨g5,0,none⟩) (m) (c5) (ivs (natI (byFrom bs))),ownI w.heap.size TI 1 (some ⟨g3,0,none⟩) (m) (m) (ivs (placesAt bs k))]) (fun x _=>m-(intOf x).toNat)
   case atStart=>exact⟨0,Nat.zero_le _,rfl,M5.out⟩
   case round=>
    clear M5
    obtain⟨k,hk,rfl,hM⟩:=hrel
    have HM:=Lib.hid hM
    clear hM
    by_cases hkt:k<m
    ·obtain⟨i,hoi⟩: ∃i,(byFrom bs)[k]? =some i:=⟨_,List.getElem?_eq_getElem (by have:=hfl.out;rw[natI_len]at this;omega)⟩
     have hi:i<m:=by have:=byFrom_lt hoi;rw[hl.out]at this;exact this
     obtain⟨b9,off9,a0,a1,a2,a3,e9,hvi,hb,_⟩:=visit_at (HS.out.ext HM.out.ext) hi
     cases e9
     obtain⟨Q,hQ0,hQ7,hQu⟩:=place_room HOK.out hoi hvi
     obtain⟨X,hX7,hXe,hXu,hXb⟩:=least_lt hQ0 hQ7 hQu
     have HVI:=Lib.hid hvi
     have HOI:=Lib.hid hoi
     have HXU:=Lib.hid hXu
     have HXB:=Lib.hid hXb
     have HXE:=Lib.hid hXe
     have hst:=Lib.hid (placesAt_succ hoi hvi)
     have hg5:g5<wr.heap.size:=(HM.out.lt (i:=0) rfl rfl).2
     have cor:wr.cell? ⟨g5,k,none⟩=some (.int .i64 (i:Int)):=((HM.out.own (i:=0) rfl).cellAt k (by omega)).trans (by simp[ivs,iv,natI,hoi])
     have i3:(0:Int)≤(k:Int):=by omega
     have i4:(k:Int)<(m:Int):=by omega
     have i5:(0:Int)≤(i:Int):=by omega
     have i6:(i:Int)<(m:Int):=by omega
     have MU:=Lib.hid (show Mem w (wr.alloc (.cells #[.bool false,.bool false,.bool false,.bool false,.bool false,.bool false,.bool false] 101)) [blkI w.heap.size (wr.heap.size) 101 (flags (usedTo bs (placesAt bs k) (a0,a1,a2,a3) 0)).toArray,ownI w.heap.size TI 1 (some ⟨g5,0,none⟩) (m) (c5) (ivs (natI (byFrom bs))),ownI w.heap.size TI 1 (some ⟨g3,0,none⟩) (m) (m) (ivs (placesAt bs k))]from HM.out.blkNew 101 _ (wr.heap.size) rfl)
     obtain⟨gu,hgu⟩: ∃gu,gu=wr.heap.size:=⟨_,rfl⟩
     clear hvi hoi hQu hXu hXb hXe HM hQ0 hQ7
     rw[←hgu]at MU
     go_wp2
     rw[←hgu]
     clear hgu cor hg5
     go_loopw [34] (fun jv wr=> ∃j:Nat,j≤m∧jv= .int .i64 (j:Int)∧Mem w wr [blkI w.heap.size (gu) 101 (flags (usedTo bs (placesAt bs k) (a0,a1,a2,a3) j)).toArray,ownI w.heap.size TI 1 (some ⟨g5,0,none⟩) (m) (c5) (ivs (natI (byFrom bs))),ownI w.heap.size TI 1 (some ⟨g3,0,none⟩) (m) (m) (ivs (placesAt bs k))]) (fun jv _=>m-(intOf jv).toNat)
     case atStart=>exact⟨0,Nat.zero_le _,rfl,MU.out⟩
     case round=>
      clear MU
      obtain⟨j,hj,rfl,hM⟩:=hrel
      have HM:=Lib.hid hM
      clear hM
      by_cases hjt:j<m
      ·obtain⟨b9,off9,d0,d1,d2,d3,e9,hvj,hb2,k0,k1,k2,k3⟩:=visit_at (HS.out.ext HM.out.ext) hjt
       cases e9
       have hpl:(placesAt bs k).length=m:=by rw[placesAt_len HOK.out,hl.out]
       obtain⟨o,hoj⟩: ∃o,(placesAt bs k)[j]? =some o:=⟨_,List.getElem?_eq_getElem (by omega)⟩
       have HVJ:=Lib.hid hvj
       have HOJ:=Lib.hid hoj
       have i1:(0:Int)≤(j:Int):=by omega
       have i2:(j:Int)<(m:Int):=by omega
       obtain⟨g9,hg9⟩: ∃g9,g9=wr.heap.size:=⟨_,rfl⟩
       obtain⟨wa,hwa⟩: ∃x,x=wr.alloc (.cells #[.int .i64 d0,.int .i64 d1,.int .i64 d2,.int .i64 d3] TBk):=⟨_,rfl⟩
       have hEa:Ext wr wa:=by rw[hwa];exact(Ext.refl _).alloc _
       have BB:=Lib.hid (show Blk wa g9 TBk #[.int .i64 d0,.int .i64 d1,.int .i64 d2,.int .i64 d3] by rw[hwa,hg9];exact Blk.new _ _ _)
       have HA:=Lib.hid (HM.out.adv hEa)
       obtain⟨b9,off9,x0,x1,x2,x3,e9,hvi,hb',u0,u1,u2,u3⟩:=visit_at (HS.out.ext HA.out.ext) hi
       cases e9
       rw[HVI.out]at hvi
       cases hvi
       clear hvj hoj HM
       go_wp2
       rw[←hwa,←hg9]
       clear hwa hg9 hEa k0 k1 k2 k3 hb2
       have hg3:g3<wa.heap.size:=(HA.out.lt (i:=2) rfl rfl).2
       have co:wa.cell? ⟨g3,j,none⟩=some (.int .i64 o):=((HA.out.own (i:=2) rfl).cellAt j (by omega)).trans (by simp[ivs,iv,HOJ.out])
       clear hpl
       rcases placesAt_bd HOK.out HOJ.out with rfl|⟨ho0,ho7⟩
       ·have hnx:=Lib.hid (used_skip (b:=(a0,a1,a2,a3)) HVJ.out HOJ.out (.inl (by omega)))
        refine region_lin (gl [gEq (.slice (some ⟨g3,0,none⟩) m m),gEq (.int .i64 (j:Int)),gEq (.pointer (some ⟨g3,j,none⟩)),gEq (.int .i64 (-1)),gEq (.bool false),gEq (.bool false),gEq (undef),gEq (undef),gEq (undef),gEq (undef),gEq (undef),gEq (undef),gEq (.bool false)]) 13 (by kernel_rfl) rfl (by kernel_rfl) (by kernel_rfl) (by kernel_rfl) (gl_mono (gl_cons (gEq_mono _) (gl_cons (gEq_mono _) (gl_cons (gEq_mono _) (gl_cons (gEq_mono _) (gl_cons (gEq_mono _) (gl_cons (gEq_mono _) (gl_cons (gEq_mono _) (gl_cons (gEq_mono _) (gl_cons (gEq_mono _) (gl_cons (gEq_mono _) (gl_cons (gEq_mono _) (gl_cons (gEq_mono _) (gl_cons (gEq_mono _) (gl_nil))))))))))))))) (k:=13) (by kernel_rfl) (by decide) (ls:= [(0,some 39),(1,some 40),(2,some 41),(3,some 42),(4,some 43),(5,some 44),(6,some 45),(7,some 46),(8,some 47),(9,some 48),(10,some 49),(11,some 50),(12,some 51)]) (by kernel_rfl) (ir:= [0,1,2,3,4,5,6,7,8,9,10,11,12]) (by kernel_rfl) ?steps (tl:=#[true,true,true,true,true,true,true,true,true,true,true,true,true]) (by kernel_rfl) ?fin
        case steps=>
         refine StepsL.cons (ps:= []) rfl (by kernel_rfl) (fun wi hx=> ?_) ?_
         ·intro K hK
          go_simp
          exact hK _ _ ⟨.slice (some ⟨g3,0,none⟩) m m,rfl,rfl,Ext.refl _⟩
         refine StepsL.cons (ps:= []) rfl (by kernel_rfl) (fun wi hx=> ?_) ?_
         ·intro K hK
          go_simp
          exact hK _ _ ⟨.int .i64 (j:Int),rfl,rfl,Ext.refl _⟩
         refine StepsL.cons (ps:= [(0,some 39),(1,some 40)]) rfl (by kernel_rfl) (fun wi hx=> ?_) ?_
         ·intro v0 h0 v1 h1 K hK
          obtain rfl:=h0
          obtain rfl:=h1
          go_simp
          exact hK _ _ ⟨.pointer (some ⟨g3,j,none⟩),rfl,rfl,Ext.refl _⟩
         refine StepsL.cons (ps:= [(2,some 41)]) rfl (by kernel_rfl) (fun wi hx=> ?_) ?_
         ·intro v2 h2 K hK
          obtain rfl:=h2
          have hX:Ext wa wi:=by(repeat' (first|exact Ext.refl _|(with_reducible assumption)|(with_reducible refine Ext.alloc ?_ _)|(with_reducible refine Ext.setCell ?_ (by first|exact Nat.le_refl _|(dsimp only;omega)|(simp;done)|(simp;omega)) _)|(with_reducible refine Ext.drew ?_)|(with_reducible refine Ext.drewN ?_ _)|(refine Ext.trans ?_ (by with_reducible assumption))))
          have cl0:wi.cell? ⟨g3,j,none⟩=some (.int .i64 (-1)):=(hX.cells.1 _ _ hg3).trans co
          go_simp
          exact hK _ _ ⟨.int .i64 (-1),rfl,rfl,Ext.refl _⟩
         refine StepsL.cons (ps:= [(3,some 42)]) rfl (by kernel_rfl) (fun wi hx=> ?_) ?_
         ·intro v3 h3 K hK
          obtain rfl:=h3
          go_simp
          exact hK _ _ ⟨.bool false,rfl,rfl,Ext.refl _⟩
         refine StepsL.cons (ps:= [(4,some 43)]) rfl (by kernel_rfl) (fun wi hx=> ?_) ?_
         ·intro v4 h4 K hK
          obtain rfl:=h4
          go_simp
          exact hK _ _ ⟨.bool false,rfl,rfl,Ext.refl _⟩
         refine StepsL.cons (ps:= [(5,some 44)]) rfl (by kernel_rfl) (fun wi hx=> ?_) ?_
         ·intro v5 h5 K hK
          obtain rfl:=h5
          go_simp
          exact hK _ _ ⟨undef,rfl,rfl,Ext.refl _⟩
         refine StepsL.cons (ps:= [(5,some 44)]) rfl (by kernel_rfl) (fun wi hx=> ?_) ?_
         ·intro v5 h5 K hK
          obtain rfl:=h5
          go_simp
          exact hK _ _ ⟨undef,rfl,rfl,Ext.refl _⟩
         refine StepsL.cons (ps:= [(5,some 44),(6,some 45),(7,some 46)]) rfl (by kernel_rfl) (fun wi hx=> ?_) ?_
         ·intro v5 h5 v6 h6 v7 h7 K hK
          obtain rfl:=h5
          obtain rfl:=h6
          obtain rfl:=h7
          go_simp
          exact hK _ _ ⟨undef,rfl,rfl,Ext.refl _⟩
         refine StepsL.cons (ps:= [(5,some 44),(8,some 47)]) rfl (by kernel_rfl) (fun wi hx=> ?_) ?_
         ·intro v5 h5 v8 h8 K hK
          obtain rfl:=h5
          obtain rfl:=h8
          go_simp
          exact hK _ _ ⟨undef,rfl,rfl,Ext.refl _⟩
         refine StepsL.cons (ps:= [(5,some 44)]) rfl (by kernel_rfl) (fun wi hx=> ?_) ?_
         ·intro v5 h5 K hK
          obtain rfl:=h5
          go_simp
          exact hK _ _ ⟨undef,rfl,rfl,Ext.refl _⟩
         refine StepsL.cons (ps:= [(5,some 44),(9,some 48),(10,some 49)]) rfl (by kernel_rfl) (fun wi hx=> ?_) ?_
         ·intro v5 h5 v9 h9 v10 h10 K hK
          obtain rfl:=h5
          obtain rfl:=h9
          obtain rfl:=h10
          go_simp
          exact hK _ _ ⟨undef,rfl,rfl,Ext.refl _⟩
         refine StepsL.cons (ps:= [(5,some 44),(11,some 50)]) rfl (by kernel_rfl) (fun wi hx=> ?_) StepsL.nil
         ·intro v5 h5 v11 h11 K hK
          obtain rfl:=h5
          obtain rfl:=h11
          go_simp
          exact hK _ _ ⟨.bool false,rfl,rfl,Ext.refl _⟩
        case fin=>
         intro wi hx v0 h0 v1 h1 v2 h2 v3 h3 v4 h4 v5 h5 v6 h6 v7 h7 v8 h8 v9 h9 v10 h10 v11 h11 v12 h12
         obtain rfl:=h0
         obtain rfl:=h1
         obtain rfl:=h2
         obtain rfl:=h3
         obtain rfl:=h4
         obtain rfl:=h5
         obtain rfl:=h6
         obtain rfl:=h7
         obtain rfl:=h8
         obtain rfl:=h9
         obtain rfl:=h10
         obtain rfl:=h11
         obtain rfl:=h12
         refine wpAny_done (by kernel_rfl) ?_ _
         try simp only[Act.put,List.setIfInBounds_toArray,List.set_cons_zero,List.set_cons_succ]
         have hx':=hx.of_drew
         have HN:=Lib.hid (show Mem w wi [blkI w.heap.size (gu) 101 (flags (usedTo bs (placesAt bs k) (a0,a1,a2,a3) (j+1))).toArray,ownI w.heap.size TI 1 (some ⟨g5,0,none⟩) (m) (c5) (ivs (natI (byFrom bs))),ownI w.heap.size TI 1 (some ⟨g3,0,none⟩) (m) (m) (ivs (placesAt bs k))]from by rw[←hnx.out];exact(HA.out.adv hx'))
         clear HA
         go_wp2
         go_roundw
         case rel=>exact⟨j+1,by omega,by go_num,HN.out⟩
         case measure=>simp[intOf];omega
       ·obtain⟨p,rfl⟩: ∃p:Nat,o=(p:Int):=⟨o.toNat,(Int.toNat_of_nonneg ho0).symm⟩
        cases hov:overlap (d0,d1,d2,d3) (a0,a1,a2,a3)with
        |true=>
         have hnx:=Lib.hid (used_step HVJ.out HOJ.out hov (by omega))
         have HOV:Hid (∀w',Calls Tryd.prog 37 #[bookV a0 a1 a2 a3,bookV d0 d1 d2 d3] w' fun e w''=>e= .returned (.bool true)∧Ext w' w''):=fun w'=>by rw[←hov,overlap_comm];exact implOv a0 a1 a2 a3 d0 d1 d2 d3 w'
         clear hov
         refine region_lin (gl [gEq (.slice (some ⟨g3,0,none⟩) m m),gEq (.int .i64 (j:Int)),gEq (.pointer (some ⟨g3,j,none⟩)),gEq (.int .i64 (p:Int)),gEq (.bool true),gEq (.bool true),gEq (.slice (some ⟨b,off,none⟩) m c2),gEq (.int .i64 (i:Int)),gEq (.pointer (some ⟨b,off+i*4,none⟩)),gEq (.agg #[.int .i64 a0,.int .i64 a1,.int .i64 a2,.int .i64 a3]),gEq (.agg #[.int .i64 d0,.int .i64 d1,.int .i64 d2,.int .i64 d3]),gEq (.bool true),gEq (.bool true)]) 13 (by kernel_rfl) rfl (by kernel_rfl) (by kernel_rfl) (by kernel_rfl) (gl_mono (gl_cons (gEq_mono _) (gl_cons (gEq_mono _) (gl_cons (gEq_mono _) (gl_cons (gEq_mono _) (gl_cons (gEq_mono _) (gl_cons (gEq_mono _) (gl_cons (gEq_mono _) (gl_cons (gEq_mono _) (gl_cons (gEq_mono _) (gl_cons (gEq_mono _) (gl_cons (gEq_mono _) (gl_cons (gEq_mono _) (gl_cons (gEq_mono _) (gl_nil))))))))))))))) (k:=13) (by kernel_rfl) (by decide) (ls:= [(0,some 39),(1,some 40),(2,some 41),(3,some 42),(4,some 43),(5,some 44),(6,some 45),(7,some 46),(8,some 47),(9,some 48),(10,some 49),(11,some 50),(12,some 51)]) (by kernel_rfl) (ir:= [0,1,2,3,4,5,6,7,8,9,10,11,12]) (by kernel_rfl) ?steps (tl:=#[true,true,true,true,true,true,true,true,true,true,true,true,true]) (by kernel_rfl) ?fin
         case steps=>
          refine StepsL.cons (ps:= []) rfl (by kernel_rfl) (fun wi hx=> ?_) ?_
          ·intro K hK
           go_simp
           exact hK _ _ ⟨.slice (some ⟨g3,0,none⟩) m m,rfl,rfl,Ext.refl _⟩
          refine StepsL.cons (ps:= []) rfl (by kernel_rfl) (fun wi hx=> ?_) ?_
          ·intro K hK
           go_simp
           exact hK _ _ ⟨.int .i64 (j:Int),rfl,rfl,Ext.refl _⟩
          refine StepsL.cons (ps:= [(0,some 39),(1,some 40)]) rfl (by kernel_rfl) (fun wi hx=> ?_) ?_
          ·intro v0 h0 v1 h1 K hK
           obtain rfl:=h0
           obtain rfl:=h1
           go_simp
           exact hK _ _ ⟨.pointer (some ⟨g3,j,none⟩),rfl,rfl,Ext.refl _⟩
          refine StepsL.cons (ps:= [(2,some 41)]) rfl (by kernel_rfl) (fun wi hx=> ?_) ?_
          ·intro v2 h2 K hK
           obtain rfl:=h2
           have hX:Ext wa wi:=by(repeat' (first|exact Ext.refl _|(with_reducible assumption)|(with_reducible refine Ext.alloc ?_ _)|(with_reducible refine Ext.setCell ?_ (by first|exact Nat.le_refl _|(dsimp only;omega)|(simp;done)|(simp;omega)) _)|(with_reducible refine Ext.drew ?_)|(with_reducible refine Ext.drewN ?_ _)|(refine Ext.trans ?_ (by with_reducible assumption))))
           have cl0:wi.cell? ⟨g3,j,none⟩=some (.int .i64 (p:Int)):=(hX.cells.1 _ _ hg3).trans co
           go_simp
           exact hK _ _ ⟨.int .i64 (p:Int),rfl,rfl,Ext.refl _⟩
          refine StepsL.cons (ps:= [(3,some 42)]) rfl (by kernel_rfl) (fun wi hx=> ?_) ?_
          ·intro v3 h3 K hK
           obtain rfl:=h3
           go_simp
           exact hK _ _ ⟨.bool true,rfl,rfl,Ext.refl _⟩
          refine StepsL.cons (ps:= [(4,some 43)]) rfl (by kernel_rfl) (fun wi hx=> ?_) ?_
          ·intro v4 h4 K hK
           obtain rfl:=h4
           go_simp
           exact hK _ _ ⟨.bool true,rfl,rfl,Ext.refl _⟩
          refine StepsL.cons (ps:= [(5,some 44)]) rfl (by kernel_rfl) (fun wi hx=> ?_) ?_
          ·intro v5 h5 K hK
           obtain rfl:=h5
           go_simp
           exact hK _ _ ⟨.slice (some ⟨b,off,none⟩) m c2,rfl,rfl,Ext.refl _⟩
          refine StepsL.cons (ps:= [(5,some 44)]) rfl (by kernel_rfl) (fun wi hx=> ?_) ?_
          ·intro v5 h5 K hK
           obtain rfl:=h5
           go_simp
           exact hK _ _ ⟨.int .i64 (i:Int),rfl,rfl,Ext.refl _⟩
          refine StepsL.cons (ps:= [(5,some 44),(6,some 45),(7,some 46)]) rfl (by kernel_rfl) (fun wi hx=> ?_) ?_
          ·intro v5 h5 v6 h6 v7 h7 K hK
           obtain rfl:=h5
           obtain rfl:=h6
           obtain rfl:=h7
           go_simp
           exact hK _ _ ⟨.pointer (some ⟨b,off+i*4,none⟩),rfl,rfl,Ext.refl _⟩
          refine StepsL.cons (ps:= [(5,some 44),(8,some 47)]) rfl (by kernel_rfl) (fun wi hx=> ?_) ?_
          ·intro v5 h5 v8 h8 K hK
           obtain rfl:=h5
           obtain rfl:=h8
           have hX:Ext wa wi:=by(repeat' (first|exact Ext.refl _|(with_reducible assumption)|(with_reducible refine Ext.alloc ?_ _)|(with_reducible refine Ext.setCell ?_ (by first|exact Nat.le_refl _|(dsimp only;omega)|(simp;done)|(simp;omega)) _)|(with_reducible refine Ext.drew ?_)|(with_reducible refine Ext.drewN ?_ _)|(refine Ext.trans ?_ (by with_reducible assumption))))
           have cl0:wi.cell? ⟨b,off+i*4,none⟩=some (.int .i64 a0):=(hX.cells.1 _ _ hb').trans u0
           have cl1:wi.cell? ⟨b,off+i*4+1,none⟩=some (.int .i64 a1):=(hX.cells.1 _ _ hb').trans u1
           have cl2:wi.cell? ⟨b,off+i*4+2,none⟩=some (.int .i64 a2):=(hX.cells.1 _ _ hb').trans u2
           have cl3:wi.cell? ⟨b,off+i*4+3,none⟩=some (.int .i64 a3):=(hX.cells.1 _ _ hb').trans u3
           go_simp
           exact hK _ _ ⟨.agg #[.int .i64 a0,.int .i64 a1,.int .i64 a2,.int .i64 a3],rfl,rfl,Ext.refl _⟩
          refine StepsL.cons (ps:= [(5,some 44)]) rfl (by kernel_rfl) (fun wi hx=> ?_) ?_
          ·intro v5 h5 K hK
           obtain rfl:=h5
           have hX:Ext wa wi:=by(repeat' (first|exact Ext.refl _|(with_reducible assumption)|(with_reducible refine Ext.alloc ?_ _)|(with_reducible refine Ext.setCell ?_ (by first|exact Nat.le_refl _|(dsimp only;omega)|(simp;done)|(simp;omega)) _)|(with_reducible refine Ext.drew ?_)|(with_reducible refine Ext.drewN ?_ _)|(refine Ext.trans ?_ (by with_reducible assumption))))
           have cl0:wi.cell? ⟨g9,0,none⟩=some (.int .i64 d0):=(BB.out.ext hX).cell 0
           have cl1:wi.cell? ⟨g9,1,none⟩=some (.int .i64 d1):=(BB.out.ext hX).cell 1
           have cl2:wi.cell? ⟨g9,2,none⟩=some (.int .i64 d2):=(BB.out.ext hX).cell 2
           have cl3:wi.cell? ⟨g9,3,none⟩=some (.int .i64 d3):=(BB.out.ext hX).cell 3
           go_simp
           exact hK _ _ ⟨.agg #[.int .i64 d0,.int .i64 d1,.int .i64 d2,.int .i64 d3],rfl,rfl,Ext.refl _⟩
          refine StepsL.cons (ps:= [(5,some 44),(9,some 48),(10,some 49)]) rfl (by kernel_rfl) (fun wi hx=> ?_) ?_
          ·intro v5 h5 v9 h9 v10 h10 K hK
           obtain rfl:=h5
           obtain rfl:=h9
           obtain rfl:=h10
           go_simp
           refine(HOV.out _).mono ?_
           rintro e w5 ⟨rfl,hx5⟩
           go_simp
           exact hK _ _ ⟨.bool true,rfl,rfl,hx5⟩
          refine StepsL.cons (ps:= [(5,some 44),(11,some 50)]) rfl (by kernel_rfl) (fun wi hx=> ?_) StepsL.nil
          ·intro v5 h5 v11 h11 K hK
           obtain rfl:=h5
           obtain rfl:=h11
           go_simp
           exact hK _ _ ⟨.bool true,rfl,rfl,Ext.refl _⟩
         case fin=>
          intro wi hx v0 h0 v1 h1 v2 h2 v3 h3 v4 h4 v5 h5 v6 h6 v7 h7 v8 h8 v9 h9 v10 h10 v11 h11 v12 h12
          obtain rfl:=h0
          obtain rfl:=h1
          obtain rfl:=h2
          obtain rfl:=h3
          obtain rfl:=h4
          obtain rfl:=h5
          obtain rfl:=h6
          obtain rfl:=h7
          obtain rfl:=h8
          obtain rfl:=h9
          obtain rfl:=h10
          obtain rfl:=h11
          obtain rfl:=h12
          refine wpAny_done (by kernel_rfl) ?_ _
          try simp only[Act.put,List.setIfInBounds_toArray,List.set_cons_zero,List.set_cons_succ]
          have hx':=hx.of_drew
          have HN:=Lib.hid (HA.out.adv hx')
          have co2:wi.cell? ⟨g3,j,none⟩=some (.int .i64 (p:Int)):=(hx'.cells.1 _ _ hg3).trans co
          have fl:=(HN.out.blk (i:=0) rfl)
          have cu:wi.cell? ⟨gu,p,none⟩=some (.bool (usedTo bs (placesAt bs k) (a0,a1,a2,a3) j (p:Int))):=(fl.cell p).trans (by rw[List.getElem?_toArray];exact flags_get _ (by omega))
          have fu:wi.frozen? ⟨gu,p,none⟩=false:=fl.frozen p
          have M9:=Lib.hid (HN.out.store (i:=0) rfl p (.bool true))
          have M8:=Lib.hid (show Mem w (wi.setCell ⟨gu,p,none⟩ (.bool true)) [blkI w.heap.size (gu) 101 (flags (usedTo bs (placesAt bs k) (a0,a1,a2,a3) (j+1))).toArray,ownI w.heap.size TI 1 (some ⟨g5,0,none⟩) (m) (c5) (ivs (natI (byFrom bs))),ownI w.heap.size TI 1 (some ⟨g3,0,none⟩) (m) (m) (ivs (placesAt bs k))]from by rw[←hnx.out];simpa only[List.setIfInBounds_toArray,List.set_cons_zero]using M9.out)
          clear HA HN M9 fl co hx hx'
          have p1:(0:Int)≤(p:Int):=by omega
          have p2:(p:Int)<7:=by omega
          go_wp2
          go_roundw
          case rel=>exact⟨j+1,by omega,by go_num,M8.out⟩
          case measure=>simp[intOf];omega
        |false=>
         have hnx:=Lib.hid (used_skip (b:=(a0,a1,a2,a3)) HVJ.out HOJ.out (.inr hov))
         have HOV:Hid (∀w',Calls Tryd.prog 37 #[bookV a0 a1 a2 a3,bookV d0 d1 d2 d3] w' fun e w''=>e= .returned (.bool false)∧Ext w' w''):=fun w'=>by rw[←hov,overlap_comm];exact implOv a0 a1 a2 a3 d0 d1 d2 d3 w'
         clear hov
         refine region_lin (gl [gEq (.slice (some ⟨g3,0,none⟩) m m),gEq (.int .i64 (j:Int)),gEq (.pointer (some ⟨g3,j,none⟩)),gEq (.int .i64 (p:Int)),gEq (.bool true),gEq (.bool true),gEq (.slice (some ⟨b,off,none⟩) m c2),gEq (.int .i64 (i:Int)),gEq (.pointer (some ⟨b,off+i*4,none⟩)),gEq (.agg #[.int .i64 a0,.int .i64 a1,.int .i64 a2,.int .i64 a3]),gEq (.agg #[.int .i64 d0,.int .i64 d1,.int .i64 d2,.int .i64 d3]),gEq (.bool false),gEq (.bool false)]) 13 (by kernel_rfl) rfl (by kernel_rfl) (by kernel_rfl) (by kernel_rfl) (gl_mono (gl_cons (gEq_mono _) (gl_cons (gEq_mono _) (gl_cons (gEq_mono _) (gl_cons (gEq_mono _) (gl_cons (gEq_mono _) (gl_cons (gEq_mono _) (gl_cons (gEq_mono _) (gl_cons (gEq_mono _) (gl_cons (gEq_mono _) (gl_cons (gEq_mono _) (gl_cons (gEq_mono _) (gl_cons (gEq_mono _) (gl_cons (gEq_mono _) (gl_nil))))))))))))))) (k:=13) (by kernel_rfl) (by decide) (ls:= [(0,some 39),(1,some 40),(2,some 41),(3,some 42),(4,some 43),(5,some 44),(6,some 45),(7,some 46),(8,some 47),(9,some 48),(10,some 49),(11,some 50),(12,some 51)]) (by kernel_rfl) (ir:= [0,1,2,3,4,5,6,7,8,9,10,11,12]) (by kernel_rfl) ?steps (tl:=#[true,true,true,true,true,true,true,true,true,true,true,true,true]) (by kernel_rfl) ?fin
         case steps=>
          refine StepsL.cons (ps:= []) rfl (by kernel_rfl) (fun wi hx=> ?_) ?_
          ·intro K hK
           go_simp
           exact hK _ _ ⟨.slice (some ⟨g3,0,none⟩) m m,rfl,rfl,Ext.refl _⟩
          refine StepsL.cons (ps:= []) rfl (by kernel_rfl) (fun wi hx=> ?_) ?_
          ·intro K hK
           go_simp
           exact hK _ _ ⟨.int .i64 (j:Int),rfl,rfl,Ext.refl _⟩
          refine StepsL.cons (ps:= [(0,some 39),(1,some 40)]) rfl (by kernel_rfl) (fun wi hx=> ?_) ?_
          ·intro v0 h0 v1 h1 K hK
           obtain rfl:=h0
           obtain rfl:=h1
           go_simp
           exact hK _ _ ⟨.pointer (some ⟨g3,j,none⟩),rfl,rfl,Ext.refl _⟩
          refine StepsL.cons (ps:= [(2,some 41)]) rfl (by kernel_rfl) (fun wi hx=> ?_) ?_
          ·intro v2 h2 K hK
           obtain rfl:=h2
           have hX:Ext wa wi:=by(repeat' (first|exact Ext.refl _|(with_reducible assumption)|(with_reducible refine Ext.alloc ?_ _)|(with_reducible refine Ext.setCell ?_ (by first|exact Nat.le_refl _|(dsimp only;omega)|(simp;done)|(simp;omega)) _)|(with_reducible refine Ext.drew ?_)|(with_reducible refine Ext.drewN ?_ _)|(refine Ext.trans ?_ (by with_reducible assumption))))
           have cl0:wi.cell? ⟨g3,j,none⟩=some (.int .i64 (p:Int)):=(hX.cells.1 _ _ hg3).trans co
           go_simp
           exact hK _ _ ⟨.int .i64 (p:Int),rfl,rfl,Ext.refl _⟩
          refine StepsL.cons (ps:= [(3,some 42)]) rfl (by kernel_rfl) (fun wi hx=> ?_) ?_
          ·intro v3 h3 K hK
           obtain rfl:=h3
           go_simp
           exact hK _ _ ⟨.bool true,rfl,rfl,Ext.refl _⟩
          refine StepsL.cons (ps:= [(4,some 43)]) rfl (by kernel_rfl) (fun wi hx=> ?_) ?_
          ·intro v4 h4 K hK
           obtain rfl:=h4
           go_simp
           exact hK _ _ ⟨.bool true,rfl,rfl,Ext.refl _⟩
          refine StepsL.cons (ps:= [(5,some 44)]) rfl (by kernel_rfl) (fun wi hx=> ?_) ?_
          ·intro v5 h5 K hK
           obtain rfl:=h5
           go_simp
           exact hK _ _ ⟨.slice (some ⟨b,off,none⟩) m c2,rfl,rfl,Ext.refl _⟩
          refine StepsL.cons (ps:= [(5,some 44)]) rfl (by kernel_rfl) (fun wi hx=> ?_) ?_
          ·intro v5 h5 K hK
           obtain rfl:=h5
           go_simp
           exact hK _ _ ⟨.int .i64 (i:Int),rfl,rfl,Ext.refl _⟩
          refine StepsL.cons (ps:= [(5,some 44),(6,some 45),(7,some 46)]) rfl (by kernel_rfl) (fun wi hx=> ?_) ?_
          ·intro v5 h5 v6 h6 v7 h7 K hK
           obtain rfl:=h5
           obtain rfl:=h6
           obtain rfl:=h7
           go_simp
           exact hK _ _ ⟨.pointer (some ⟨b,off+i*4,none⟩),rfl,rfl,Ext.refl _⟩
          refine StepsL.cons (ps:= [(5,some 44),(8,some 47)]) rfl (by kernel_rfl) (fun wi hx=> ?_) ?_
          ·intro v5 h5 v8 h8 K hK
           obtain rfl:=h5
           obtain rfl:=h8
           have hX:Ext wa wi:=by(repeat' (first|exact Ext.refl _|(with_reducible assumption)|(with_reducible refine Ext.alloc ?_ _)|(with_reducible refine Ext.setCell ?_ (by first|exact Nat.le_refl _|(dsimp only;omega)|(simp;done)|(simp;omega)) _)|(with_reducible refine Ext.drew ?_)|(with_reducible refine Ext.drewN ?_ _)|(refine Ext.trans ?_ (by with_reducible assumption))))
           have cl0:wi.cell? ⟨b,off+i*4,none⟩=some (.int .i64 a0):=(hX.cells.1 _ _ hb').trans u0
           have cl1:wi.cell? ⟨b,off+i*4+1,none⟩=some (.int .i64 a1):=(hX.cells.1 _ _ hb').trans u1
           have cl2:wi.cell? ⟨b,off+i*4+2,none⟩=some (.int .i64 a2):=(hX.cells.1 _ _ hb').trans u2
           have cl3:wi.cell? ⟨b,off+i*4+3,none⟩=some (.int .i64 a3):=(hX.cells.1 _ _ hb').trans u3
           go_simp
           exact hK _ _ ⟨.agg #[.int .i64 a0,.int .i64 a1,.int .i64 a2,.int .i64 a3],rfl,rfl,Ext.refl _⟩
          refine StepsL.cons (ps:= [(5,some 44)]) rfl (by kernel_rfl) (fun wi hx=> ?_) ?_
          ·intro v5 h5 K hK
           obtain rfl:=h5
           have hX:Ext wa wi:=by(repeat' (first|exact Ext.refl _|(with_reducible assumption)|(with_reducible refine Ext.alloc ?_ _)|(with_reducible refine Ext.setCell ?_ (by first|exact Nat.le_refl _|(dsimp only;omega)|(simp;done)|(simp;omega)) _)|(with_reducible refine Ext.drew ?_)|(with_reducible refine Ext.drewN ?_ _)|(refine Ext.trans ?_ (by with_reducible assumption))))
           have cl0:wi.cell? ⟨g9,0,none⟩=some (.int .i64 d0):=(BB.out.ext hX).cell 0
           have cl1:wi.cell? ⟨g9,1,none⟩=some (.int .i64 d1):=(BB.out.ext hX).cell 1
           have cl2:wi.cell? ⟨g9,2,none⟩=some (.int .i64 d2):=(BB.out.ext hX).cell 2
           have cl3:wi.cell? ⟨g9,3,none⟩=some (.int .i64 d3):=(BB.out.ext hX).cell 3
           go_simp
           exact hK _ _ ⟨.agg #[.int .i64 d0,.int .i64 d1,.int .i64 d2,.int .i64 d3],rfl,rfl,Ext.refl _⟩
          refine StepsL.cons (ps:= [(5,some 44),(9,some 48),(10,some 49)]) rfl (by kernel_rfl) (fun wi hx=> ?_) ?_
          ·intro v5 h5 v9 h9 v10 h10 K hK
           obtain rfl:=h5
           obtain rfl:=h9
           obtain rfl:=h10
           go_simp
           refine(HOV.out _).mono ?_
           rintro e w5 ⟨rfl,hx5⟩
           go_simp
           exact hK _ _ ⟨.bool false,rfl,rfl,hx5⟩
          refine StepsL.cons (ps:= [(5,some 44),(11,some 50)]) rfl (by kernel_rfl) (fun wi hx=> ?_) StepsL.nil
          ·intro v5 h5 v11 h11 K hK
           obtain rfl:=h5
           obtain rfl:=h11
           go_simp
           exact hK _ _ ⟨.bool false,rfl,rfl,Ext.refl _⟩
         case fin=>
          intro wi hx v0 h0 v1 h1 v2 h2 v3 h3 v4 h4 v5 h5 v6 h6 v7 h7 v8 h8 v9 h9 v10 h10 v11 h11 v12 h12
          obtain rfl:=h0
          obtain rfl:=h1
          obtain rfl:=h2
          obtain rfl:=h3
          obtain rfl:=h4
          obtain rfl:=h5
          obtain rfl:=h6
          obtain rfl:=h7
          obtain rfl:=h8
          obtain rfl:=h9
          obtain rfl:=h10
          obtain rfl:=h11
          obtain rfl:=h12
          refine wpAny_done (by kernel_rfl) ?_ _
          try simp only[Act.put,List.setIfInBounds_toArray,List.set_cons_zero,List.set_cons_succ]
          have hx':=hx.of_drew
          have HN:=Lib.hid (show Mem w wi [blkI w.heap.size (gu) 101 (flags (usedTo bs (placesAt bs k) (a0,a1,a2,a3) (j+1))).toArray,ownI w.heap.size TI 1 (some ⟨g5,0,none⟩) (m) (c5) (ivs (natI (byFrom bs))),ownI w.heap.size TI 1 (some ⟨g3,0,none⟩) (m) (m) (ivs (placesAt bs k))]from by rw[←hnx.out];exact(HA.out.adv hx'))
          clear HA
          go_wp2
          go_roundw
          case rel=>exact⟨j+1,by omega,by go_num,HN.out⟩
          case measure=>simp[intOf];omega
      ·obtain rfl:j=m:=by omega
       have hg3:g3<wr.heap.size:=(HM.out.lt (i:=2) rfl rfl).2
       have hpl:(placesAt bs k).length=j:=by rw[placesAt_len HOK.out,hl.out]
       obtain⟨o,hoi⟩: ∃o,(placesAt bs k)[i]? =some o:=⟨_,List.getElem?_eq_getElem (by omega)⟩
       have co:wr.cell? ⟨g3,i,none⟩=some (.int .i64 o):=((HM.out.own (i:=2) rfl).cellAt i (by omega)).trans (by simp[ivs,iv,hoi])
       have fo:wr.frozen? ⟨g3,i,none⟩=false:=(HM.out.own (i:=2) rfl).frozenAt _
       have HIX:=Lib.hid (idxFlag gu (usedTo bs (placesAt bs k) (a0,a1,a2,a3) j) X wr hX7 (by rw[←hl.out];exact HXU.out) (by rw[←hl.out];exact HXB.out) (HM.out.blk (i:=0) rfl))
       have M9:=Lib.hid (HM.out.ostore (i:=2) rfl i (.int .i64 (X:Int)))
       have he:Hid ((ivs (placesAt bs k)).set i (.int .i64 (X:Int))=ivs (placesAt bs (k+1))):=by
        show _=_;rw[hst.out,HXE.out];simp[ivs,iv]
       have M8:=Lib.hid (show Mem w (wr.setCell ⟨g3,i,none⟩ (.int .i64 (X:Int))) [ownI w.heap.size TI 1 (some ⟨g5,0,none⟩) (j) (c5) (ivs (natI (byFrom bs))),ownI w.heap.size TI 1 (some ⟨g3,0,none⟩) (j) (j) (ivs (placesAt bs (k+1)))]from by rw[←he.out];exact(M9.out.pick [1,2] (by decide) rfl))
       clear M9 he hoi hpl
       go_wp2_with fail
       refine(HIX.out).mono ?_
       rintro e w9 ⟨rfl,rfl⟩
       go_wp2
       go_roundw
       case rel=>exact⟨k+1,by omega,by go_num,M8.out⟩
       case measure=>simp[intOf];omega
    ·obtain rfl:k=m:=by omega
     have hfin:=Lib.hid (placesAt_end HOK.out (k:=k) (by have:=hfl.out;rw[natI_len]at this;omega))
     go_wp2
     go_ret
     have h1:=HM.out.own (i:=1) rfl
     rw[hfin.out]at h1
     exact ret_ints (by have:=hl.out;rw[places_len HOK.out];exact this) h1 HM.out.ext
end Go.Proofs.YtndcnflchkfaeaaDoor

