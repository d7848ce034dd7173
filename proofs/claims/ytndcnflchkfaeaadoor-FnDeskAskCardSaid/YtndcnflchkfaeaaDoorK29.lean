/-
  Texts of this proof, packed (@packed).
-/
import Derived.Test.YtndcnflchkfaeaaDoorK8
import Derived.Test.YtndcnflchkfaeaaDoorK9
namespace Go.Proofs.YtndcnflchkfaeaaDoor
open Go.RowKit
set_option linter.unusedVariables false
set_option linter.unusedSimpArgs false
theorem natI_len (ks:List Nat):(natI ks).length=ks.length:=by simp[natI]
theorem range_at {n k:Nat}(h:k<n):(natI (List.range n))[k]? =some (k:Int):=by simp[natI,h]
set_option maxRecDepth 100000 in
set_option maxHeartbeats 8000000 in
theorem stableInt_o (BH BL g n c B:Nat)(f:Nat→Int)(w:World)(hn0:0<n)(hn:n<20)(hB:B≤g)(hO:w.ownsRow B TI 1 (.slice (some ⟨g,0,none⟩) n c) n (ivs (natI (List.range n))))
  (HC:Hid (∀w',ExtR g w w'→ ∀i x:Nat,i<n→x<n→Calls Tryd.prog 82 #[.int .i64 (i:Int),.int .i64 (x:Int),.pointer (some ⟨BH,0,none⟩),.pointer (some ⟨BL,0,none⟩)] w' fun e w''=>e= .returned (.int .i64 (cmpI (f i) (f x)))∧Ext w' w'')):
  Calls Tryd.prog 93 #[.slice (some ⟨g,0,none⟩) n c,.int .i64 (n:Int),.func (.func 82) #[] #[.pointer (some ⟨BH,0,none⟩),.pointer (some ⟨BL,0,none⟩)]] w (fun e w'=>e= .returned (.tuple #[])∧(∃A:List Nat,A.Perm (List.range n)∧A.Pairwise (lexLt f)∧w'.ownsRow B TI 1 (.slice (some ⟨g,0,none⟩) n c) n (ivs (natI (A))))∧w.grownBy w' (some g)):=by
 have HI:=Lib.hid (insInt_o BH BL g n c B f w hn0 (by omega) hB hO HC)
 have t1:decide ((20:Int)≤(n:Int))=false:=by simp;omega
 have t2:decide ((20:Int)<(n:Int))=false:=by simp;omega
 clear HC hO
 go_enter Tryd.func93,Tryd.ntmps93
 go_wp2
 refine wp_loop_rounds 1 ?_
 rw[rounds_succ]
 go_wp2_with fail
 refine HI.out.mono ?_
 rintro e w1 ⟨rfl,h1,h2⟩
 have H1:=Lib.hid h1
 have H2:=Lib.hid h2
 clear h1 h2
 go_wp2
 go_rounds 1
 go_end0
 exact⟨rfl,H1.out,H2.out⟩
set_option maxRecDepth 100000 in
set_option maxHeartbeats 8000000 in
theorem sortStable_o (BH BL g n c B:Nat)(f:Nat→Int)(w:World)(hn0:0<n)(hn:n<20)(hB:B≤g)(hO:w.ownsRow B TI 1 (.slice (some ⟨g,0,none⟩) n c) n (ivs (natI (List.range n))))
  (HC:Hid (∀w',ExtR g w w'→ ∀i x:Nat,i<n→x<n→Calls Tryd.prog 82 #[.int .i64 (i:Int),.int .i64 (x:Int),.pointer (some ⟨BH,0,none⟩),.pointer (some ⟨BL,0,none⟩)] w' fun e w''=>e= .returned (.int .i64 (cmpI (f i) (f x)))∧Ext w' w'')):
  Calls Tryd.prog 81 #[.slice (some ⟨g,0,none⟩) n c,.func (.func 82) #[] #[.pointer (some ⟨BH,0,none⟩),.pointer (some ⟨BL,0,none⟩)]] w (fun e w'=>e= .returned (.tuple #[])∧(∃A:List Nat,A.Perm (List.range n)∧A.Pairwise (lexLt f)∧w'.ownsRow B TI 1 (.slice (some ⟨g,0,none⟩) n c) n (ivs (natI (A))))∧w.grownBy w' (some g)):=by
 have HI:=Lib.hid (stableInt_o BH BL g n c B f w hn0 hn hB hO HC)
 clear HC hO
 go_enter Tryd.func81,Tryd.ntmps81
 go_wp2_with fail
 refine HI.out.mono ?_
 rintro e w1 ⟨rfl,h1,h2⟩
 have H1:=Lib.hid h1
 have H2:=Lib.hid h2
 clear h1 h2
 go_wp2
 go_end0
 exact⟨rfl,H1.out,H2.out⟩
set_option maxRecDepth 100000 in
set_option maxHeartbeats 8000000 in
theorem orderFrom (b off m c2:Nat)(bs:List Visit4)(w:World)(ho:booksOk bs=true)(hm0:0<m)(hS:Sl w (some ⟨b,off,none⟩) m c2 4 (bs.flatMap visitCells)):
  Calls Tryd.prog 59 #[.slice (some ⟨b,off,none⟩) m c2,.func (.func 85) #[] #[]] w (RetInts (natI (byKey (fromOf bs) bs.length 31)) w):=by
 have hl0:bs.length=m:=by have:=hS.len;rw[flat_len visitCells 4 (fun _=>rfl)]at this;omega
 have hm7:m≤7:=by have:=((booksOk_iff bs).1 ho).1;omega
 have hl:=Lib.hid hl0
 have HS:=Lib.hid hS
 have hb0:b<w.heap.size:=by
  obtain⟨b',off',e,h1,_⟩:=hS.rd hm0
  cases e;exact h1
 have hbd:=Lib.hid (from_bd ho)
 obtain⟨i0,hi,hz0,hz1,hz2⟩:=info_parts (show(Tryd.prog.info? 3).map (fun i=>(i.zero,i.size,i.bytes))=some (some (.int .i64 0),1,8) by kernel_rfl)
 clear hS hl0 ho
 go_enter Tryd.func59,Tryd.ntmps59
 go_wp2_with (at_make;refine wpList_make_full _ rfl _ _ 40 rfl (w.heap.size+1+1) 3 i0 (.int .i64 0) 1 Tryd.underlying40 hi hz0 hz1 .i64 .i64 _ _ m rfl rfl rfl rfl (by rw[hz2];omega) (by unfold maxLen;omega) (by simp) ?_;intro w0 hown0 hgrow0)
 have hE0:Ext w w0:=(((Ext.refl w).alloc _).alloc _).grown hgrow0 (fun q hq=>by cases hq)
 have hY0:Ext ((w.alloc (.cells #[.slice (some ⟨b,off,none⟩) m c2] 23)).alloc (.cells #[.func (.func 85) #[] #[]] 72)) w0:=(Ext.refl _).grown hgrow0 (fun q hq=>by cases hq)
 have BL0:Blk w0 (w.heap.size) 23 #[.slice (some ⟨b,off,none⟩) m c2]:=((Blk.new w _ _).alloc _).ext hY0
 have BH0:Blk w0 (w.heap.size+1) 72 #[.func (.func 85) #[] #[]]:=by have:=(Blk.new (w.alloc (.cells #[.slice (some ⟨b,off,none⟩) m c2] 23)) 72 #[.func (.func 85) #[] #[]]).ext hY0;simpa using this
 simp only[World.size_alloc]at hown0⊢
 rw[made_zero]at hown0
 have HO0:=Lib.hid hown0
 have HBL:=Lib.hid BL0
 have HBH:=Lib.hid BH0
 have hg0:w.heap.size+1+1<w0.heap.size:=(hown0.lt _ rfl).2
 clear hown0 hgrow0 hi hz0 hz1 hz2 hY0 BL0 BH0
 go_wp2
 go_loopw [12] (fun i wr=> ∃k:Nat,k≤m∧i= .int .i64 k∧wr.ownsRow (w.heap.size+1+1) TI 1 (.slice (some ⟨w.heap.size+1+1,0,none⟩) m m) m (ivs ((natI (List.range m)).take k++List.replicate (m-k) 0))∧ExtR (w.heap.size+1+1) w0 wr) (fun i _=>m-(intOf i).toNat)
 case atStart=>exact⟨0,Nat.zero_le _,rfl,by simpa using HO0.out,ExtR.refl _ _⟩
 case round=>
  obtain⟨k,hk,rfl,hown,hE⟩:=hrel
  by_cases hlt:k<m
  ·have hx:=range_at hlt
   have hlt':((natI (List.range m)).take k).length=k:=by rw[List.length_take,natI_len,List.length_range];omega
   have o0:wr.cell? ⟨w.heap.size+1+1,k,none⟩=some (.int .i64 0):=by
    rw[hown.cellAt k (by omega)]
    exact get_next hlt hlt'
   have f0:wr.frozen? ⟨w.heap.size+1+1,k,none⟩=false:=hown.frozenAt k
   have HN:Hid ((wr.setCell ⟨w.heap.size+1+1,k,none⟩ (.int .i64 (k:Int))).ownsRow (w.heap.size+1+1) TI 1 (.slice (some ⟨w.heap.size+1+1,0,none⟩) m m) m (ivs ((natI (List.range m)).take (k+1)++List.replicate (m-(k+1)) 0))):=by
    have:=(hown.stored k (.int .i64 (k:Int))).1
    rw[set_next hlt hx hlt']at this
    exact this
   have hE2:=Lib.hid (hE.setCell (p:=⟨w.heap.size+1+1,k,none⟩) (.inl rfl) (.int .i64 (k:Int)))
   clear hown hx hE
   go_wp2
   go_roundw
   case rel=>exact⟨k+1,by omega,by go_num,HN.out,hE2.out⟩
   case measure=>simp[intOf];omega
  ·obtain rfl:k=m:=by omega
   have e:(natI (List.range k)).take k=natI (List.range k):=List.take_of_length_le (by rw[natI_len,List.length_range];exact Nat.le_refl _)
   have hOW:wr.ownsRow (w.heap.size+1+1) TI 1 (.slice (some ⟨w.heap.size+1+1,0,none⟩) k k) k (ivs (natI (List.range k))):=by rw[e]at hown;simpa using hown
   have HE:=Lib.hid hE
   have HSO:=Lib.hid (sortStable_o (w.heap.size+1) w.heap.size (w.heap.size+1+1) k k (w.heap.size+1+1) (fromOf bs) wr hm0 (by omega) (Nat.le_refl _) hOW (Lib.hid fun w' hw i x hi hx=>by
    have hR:=HE.out.trans hw
    have z1:=hR.sz
    refine cmpFrom (w.heap.size+1) w.heap.size b off k c2 bs i x w' hi hx (by omega) (by omega) ?_ ?_ ?_
    ·rw[hR.cell 0 (by omega) (by omega)];exact HBH.out.cell 0
    ·rw[hR.cell 0 (by omega) (by omega)];exact HBL.out.cell 0
    ·exact hR.sl (b0:=0) (HS.out.ext hE0) (fun _ b1 off1 e1=>by cases e1;omega)))
   have hsz:=hE.sz
   clear hown e hOW hE
   go_wp2_with fail
   refine HSO.out.mono ?_
   rintro e w1 ⟨rfl,⟨A,h1,h2,h3⟩,h4⟩
   have hA:=ins_done (f:=fromOf bs) (H:=31) (n:=k) (by rw[←hl.out];exact hbd.out) h1 h2
   rw[hA,show byKey (fromOf bs) k 31=byKey (fromOf bs) bs.length 31 by rw[hl.out]]at h3
   have hk2:Hid ((natI (byKey (fromOf bs) bs.length 31)).length=k):=by
    show _=_
    rw[natI_len,(byKey_perm (fromOf bs) bs.length 31 hbd.out).length_eq,List.length_range,hl.out]
   have H3:=Lib.hid h3
   have hEX:=Lib.hid (show Ext w w1 from ExtR.new hE0 (HE.out.trans h4) (by omega))
   clear h1 h2 h3 h4 hA
   go_wp2
   go_ret
   exact ret_ints hk2.out (own_base H3.out (by omega)) hEX.out
set_option maxRecDepth 100000 in
set_option maxHeartbeats 8000000 in
theorem orderTo (b off m c2:Nat)(bs:List Visit4)(w:World)(ho:booksOk bs=true)(hm0:0<m)(hS:Sl w (some ⟨b,off,none⟩) m c2 4 (bs.flatMap visitCells)):
  Calls Tryd.prog 59 #[.slice (some ⟨b,off,none⟩) m c2,.func (.func 60) #[] #[]] w (RetInts (natI (byKey (toOf bs) bs.length 31)) w):=by
 have hl0:bs.length=m:=by have:=hS.len;rw[flat_len visitCells 4 (fun _=>rfl)]at this;omega
 have hm7:m≤7:=by have:=((booksOk_iff bs).1 ho).1;omega
 have hl:=Lib.hid hl0
 have HS:=Lib.hid hS
 have hb0:b<w.heap.size:=by
  obtain⟨b',off',e,h1,_⟩:=hS.rd hm0
  cases e;exact h1
 have hbd:=Lib.hid (to_bd ho)
 obtain⟨i0,hi,hz0,hz1,hz2⟩:=info_parts (show(Tryd.prog.info? 3).map (fun i=>(i.zero,i.size,i.bytes))=some (some (.int .i64 0),1,8) by kernel_rfl)
 clear hS hl0 ho
 go_enter Tryd.func59,Tryd.ntmps59
 go_wp2_with (at_make;refine wpList_make_full _ rfl _ _ 40 rfl (w.heap.size+1+1) 3 i0 (.int .i64 0) 1 Tryd.underlying40 hi hz0 hz1 .i64 .i64 _ _ m rfl rfl rfl rfl (by rw[hz2];omega) (by unfold maxLen;omega) (by simp) ?_;intro w0 hown0 hgrow0)
 have hE0:Ext w w0:=(((Ext.refl w).alloc _).alloc _).grown hgrow0 (fun q hq=>by cases hq)
 have hY0:Ext ((w.alloc (.cells #[.slice (some ⟨b,off,none⟩) m c2] 23)).alloc (.cells #[.func (.func 60) #[] #[]] 72)) w0:=(Ext.refl _).grown hgrow0 (fun q hq=>by cases hq)
 have BL0:Blk w0 (w.heap.size) 23 #[.slice (some ⟨b,off,none⟩) m c2]:=((Blk.new w _ _).alloc _).ext hY0
 have BH0:Blk w0 (w.heap.size+1) 72 #[.func (.func 60) #[] #[]]:=by have:=(Blk.new (w.alloc (.cells #[.slice (some ⟨b,off,none⟩) m c2] 23)) 72 #[.func (.func 60) #[] #[]]).ext hY0;simpa using this
 simp only[World.size_alloc]at hown0⊢
 rw[made_zero]at hown0
 have HO0:=Lib.hid hown0
 have HBL:=Lib.hid BL0
 have HBH:=Lib.hid BH0
 have hg0:w.heap.size+1+1<w0.heap.size:=(hown0.lt _ rfl).2
 clear hown0 hgrow0 hi hz0 hz1 hz2 hY0 BL0 BH0
 go_wp2
 go_loopw [12] (fun i wr=> ∃k:Nat,k≤m∧i= .int .i64 k∧wr.ownsRow (w.heap.size+1+1) TI 1 (.slice (some ⟨w.heap.size+1+1,0,none⟩) m m) m (ivs ((natI (List.range m)).take k++List.replicate (m-k) 0))∧ExtR (w.heap.size+1+1) w0 wr) (fun i _=>m-(intOf i).toNat)
 case atStart=>exact⟨0,Nat.zero_le _,rfl,by simpa using HO0.out,ExtR.refl _ _⟩
 case round=>
  obtain⟨k,hk,rfl,hown,hE⟩:=hrel
  by_cases hlt:k<m
  ·have hx:=range_at hlt
   have hlt':((natI (List.range m)).take k).length=k:=by rw[List.length_take,natI_len,List.length_range];omega
   have o0:wr.cell? ⟨w.heap.size+1+1,k,none⟩=some (.int .i64 0):=by
    rw[hown.cellAt k (by omega)]
    exact get_next hlt hlt'
   have f0:wr.frozen? ⟨w.heap.size+1+1,k,none⟩=false:=hown.frozenAt k
   have HN:Hid ((wr.setCell ⟨w.heap.size+1+1,k,none⟩ (.int .i64 (k:Int))).ownsRow (w.heap.size+1+1) TI 1 (.slice (some ⟨w.heap.size+1+1,0,none⟩) m m) m (ivs ((natI (List.range m)).take (k+1)++List.replicate (m-(k+1)) 0))):=by
    have:=(hown.stored k (.int .i64 (k:Int))).1
    rw[set_next hlt hx hlt']at this
    exact this
   have hE2:=Lib.hid (hE.setCell (p:=⟨w.heap.size+1+1,k,none⟩) (.inl rfl) (.int .i64 (k:Int)))
   clear hown hx hE
   go_wp2
   go_roundw
   case rel=>exact⟨k+1,by omega,by go_num,HN.out,hE2.out⟩
   case measure=>simp[intOf];omega
  ·obtain rfl:k=m:=by omega
   have e:(natI (List.range k)).take k=natI (List.range k):=List.take_of_length_le (by rw[natI_len,List.length_range];exact Nat.le_refl _)
   have hOW:wr.ownsRow (w.heap.size+1+1) TI 1 (.slice (some ⟨w.heap.size+1+1,0,none⟩) k k) k (ivs (natI (List.range k))):=by rw[e]at hown;simpa using hown
   have HE:=Lib.hid hE
   have HSO:=Lib.hid (sortStable_o (w.heap.size+1) w.heap.size (w.heap.size+1+1) k k (w.heap.size+1+1) (toOf bs) wr hm0 (by omega) (Nat.le_refl _) hOW (Lib.hid fun w' hw i x hi hx=>by
    have hR:=HE.out.trans hw
    have z1:=hR.sz
    refine cmpTo (w.heap.size+1) w.heap.size b off k c2 bs i x w' hi hx (by omega) (by omega) ?_ ?_ ?_
    ·rw[hR.cell 0 (by omega) (by omega)];exact HBH.out.cell 0
    ·rw[hR.cell 0 (by omega) (by omega)];exact HBL.out.cell 0
    ·exact hR.sl (b0:=0) (HS.out.ext hE0) (fun _ b1 off1 e1=>by cases e1;omega)))
   have hsz:=hE.sz
   clear hown e hOW hE
   go_wp2_with fail
   refine HSO.out.mono ?_
   rintro e w1 ⟨rfl,⟨A,h1,h2,h3⟩,h4⟩
   have hA:=ins_done (f:=toOf bs) (H:=31) (n:=k) (by rw[←hl.out];exact hbd.out) h1 h2
   rw[hA,show byKey (toOf bs) k 31=byKey (toOf bs) bs.length 31 by rw[hl.out]]at h3
   have hk2:Hid ((natI (byKey (toOf bs) bs.length 31)).length=k):=by
    show _=_
    rw[natI_len,(byKey_perm (toOf bs) bs.length 31 hbd.out).length_eq,List.length_range,hl.out]
   have H3:=Lib.hid h3
   have hEX:=Lib.hid (show Ext w w1 from ExtR.new hE0 (HE.out.trans h4) (by omega))
   clear h1 h2 h3 h4 hA
   go_wp2
   go_ret
   exact ret_ints hk2.out (own_base H3.out (by omega)) hEX.out
end Go.Proofs.YtndcnflchkfaeaaDoor

