/-
  Texts of this proof, packed (@packed).
-/
import Derived.Lib.SliceRun
import Derived.Test.YtndcnflchkfaeaaDoorK5
import Derived.Test.YtndcnflchkfaeaaDoorK9
import Derived.Test.YtndcnflchkfaeaaDoorK10
namespace Go.Proofs.YtndcnflchkfaeaaDoor
open Go.RowKit
set_option linter.unusedVariables false
set_option linter.unusedSimpArgs false
abbrev putB (v:Visit4)(vs:List Visit4):List Visit4:=putBook vs v
theorem elBk:ElT Tryd.prog 23 TBk 4:=
 ⟨Tryd.underlying23,by
  obtain⟨i,hi,h0,h1,h2⟩:=info_parts (show(Tryd.prog.info? TBk).map (fun i=>(i.zero,i.size,i.bytes))=some (some (.agg #[.int .i64 0,.int .i64 0,.int .i64 0,.int .i64 0]),4,32) by kernel_rfl)
  exact⟨i,_,hi,h0,h1,by omega,rfl⟩,by omega⟩
theorem books_one (vs:List Visit4): ∀u∈vs.flatMap visitCells,u.oneCell'=true:=by
 intro u hu
 obtain⟨v,_,hv⟩:=List.mem_flatMap.1 hu
 simp only[visitCells,List.mem_cons,List.not_mem_nil,or_false]at hv
 rcases hv with rfl|rfl|rfl|rfl<;>rfl
theorem book_one (v:Visit4): ∀u∈visitCells v,u.oneCell'=true:=by
 intro u hu
 simp only[visitCells,List.mem_cons,List.not_mem_nil,or_false]at hu
 rcases hu with rfl|rfl|rfl|rfl<;>rfl
theorem putB_at (v:Visit4): ∀(vs:List Visit4) (k:Nat),(∀u∈vs.take k,u.1<v.1)→(∀u,vs[k]? =some u→ ¬u.1<v.1)→putB v vs=vs.take k++v::vs.drop k
 | [],k,_,_=>by simp[putB,putBook]
 |u::vs,0,_,h2=>by simp[putB,putBook,h2 u (by simp)]
 |u::vs,k+1,h1,h2=>by
  have h:=putB_at v vs k (fun z hz=>h1 z (by simp[hz])) (fun z hz=>h2 z (by simpa using hz))
  have hu:u.1<v.1:=h1 u (by simp)
  simp only[putB,putBook]at h⊢
  simp[hu,h]
theorem sl_dropZ {w:World}{b off n cap sz k:Nat}{xs:List Value}(h:Sl w (some ⟨b,off,none⟩) n cap sz xs)(hk:k≤n):Sl w (some ⟨b,off+k*sz,none⟩) (n-k) (cap-k) sz (xs.drop (k*sz)):=by
 have hl:=h.len
 have hle:=h.le
 have hmx:=h.mx
 refine⟨by rw[List.length_drop,hl,Nat.sub_mul],by omega,by omega,fun h0=> ?_⟩
 obtain⟨b',off',e,hb,hc⟩:=h.rd (by omega)
 injection e with e;injection e with e1 e2
 subst e1 e2
 refine⟨_,_,rfl,hb,fun j hj=> ?_⟩
 rw[Nat.add_assoc,hc (k*sz+j) (by rw[Nat.sub_mul]at hj;omega)]
 simp
set_option maxRecDepth 100000 in
set_option maxHeartbeats 8000000 in
theorem l6Put_any (id a1 a2 a3:Int)(q:Option Addr)(m c2:Nat)(vs:List Visit4)(w:World)(hm:m≤1000)(hS:Sl w q m c2 4 (vs.flatMap visitCells)):
  Calls Tryd.prog 56 #[.slice q m c2,.agg #[.int .i64 id,.int .i64 a1,.int .i64 a2,.int .i64 a3]] w fun e w'=> ∃q' c',e= .returned (.slice q' (m+1) c')∧w'.ownsRow w.heap.size TBk 4 (.slice q' (m+1) c') (m+1) ((putB (id,a1,a2,a3) vs).flatMap visitCells)∧Ext w w':=by
 have hl:Hid (vs.length=m):=by
  have:=hS.len;rw[flat_len visitCells 4 (fun _=>rfl)]at this;exact(by omega:vs.length=m)
 have hncap:=hS.le
 have HS:=Lib.hid hS
 clear hS
 have hst:=Lib.hid (((((Mem.start w).blkNew TBk #[.int .i64 id,.int .i64 a1,.int .i64 a2,.int .i64 a3] (w.heap.size) (by simp))).made0 TBk 4 (w.heap.size+1) (by simp)))
 go_enter Tryd.func56,Tryd.ntmps56
 go_wp2
 go_loopw [5,6] (fun v i wr=> ∃(k:Nat) (q5:Option Addr) (c5:Nat),k≤m∧i= .int .i64 k∧v= .slice q5 k c5∧(∀u∈vs.take k,u.1<id)∧Mem w wr [ownI w.heap.size TBk 4 (q5) (k) (c5) ((vs.take k).flatMap visitCells),blkI w.heap.size (w.heap.size) TBk #[.int .i64 id,.int .i64 a1,.int .i64 a2,.int .i64 a3]]) (fun _ i _=>m-(intOf i).toNat)
 case atStart=>exact⟨0,some ⟨w.heap.size+1,0,none⟩,0,Nat.zero_le _,rfl,rfl,by simp,hst.out⟩
 case round=>
  clear hst
  obtain⟨k,q5,c5,hk,rfl,rfl,hlt',hM⟩:=hrel
  have HM:=Lib.hid hM
  have HL:=Lib.hid hlt'
  clear hM hlt'
  by_cases hlt:k<m
  ·obtain⟨b,off,c0,c1,c4,c3,rfl,hx,hb,g0,g1,g2,g3⟩:=visit_at (HS.out.ext HM.out.ext) hlt
   have lt0:w.heap.size<wr.heap.size:=(HM.out.lt (i:=1) rfl rfl).2
   have b0:wr.cell? ⟨w.heap.size,0,none⟩=some (.int .i64 id):=(HM.out.blk (i:=1) rfl).cell 0
   have b1:wr.cell? ⟨w.heap.size,1,none⟩=some (.int .i64 a1):=(HM.out.blk (i:=1) rfl).cell 1
   have b2:wr.cell? ⟨w.heap.size,2,none⟩=some (.int .i64 a2):=(HM.out.blk (i:=1) rfl).cell 2
   have b3:wr.cell? ⟨w.heap.size,3,none⟩=some (.int .i64 a3):=(HM.out.blk (i:=1) rfl).cell 3
   have HX:=Lib.hid hx
   clear hx
   have i1:(0:Int)≤(k:Int):=by omega
   have i2:(k:Int)<(m:Int):=by omega
   have i3:(k:Int)≤(m:Int):=by omega
   by_cases hy:c0<id
   ·have hfin:Hid (∀z∈vs.take (k+1),z.1<id):=by
     show∀z∈vs.take (k+1),z.1<id
     rw[take_snocL HX.out]
     intro z hz
     rcases List.mem_append.1 hz with h|h
     ·exact HL.out z h
     ·simp at h;subst h;exact hy
    have hd:decide (c0<id)=true:=by simp[hy]
    go_wp2
    go_quiet (fail)
    generalize hwi:World.drewN wr _=wi
    have hX:Ext wr wi:=by rw[←hwi];exact Ext.drewN (Ext.refl _) _
    clear hwi b0 b1 b2 b3 lt0 hd
    have M51:=Lib.hid (HM.out.adv hX)
    clear HM
    have lt51_1:w.heap.size<wi.heap.size:=(M51.out.lt (i:=1) rfl rfl).2
    have d0:wi.cell? ⟨w.heap.size,0,none⟩=some (.int .i64 id):=(M51.out.blk (i:=1) rfl).cell 0
    have d1:wi.cell? ⟨w.heap.size,1,none⟩=some (.int .i64 a1):=(M51.out.blk (i:=1) rfl).cell 1
    have d2:wi.cell? ⟨w.heap.size,2,none⟩=some (.int .i64 a2):=(M51.out.blk (i:=1) rfl).cell 2
    have d3:wi.cell? ⟨w.heap.size,3,none⟩=some (.int .i64 a3):=(M51.out.blk (i:=1) rfl).cell 3
    have e0:=(hX.cells.1 _ _ hb).trans g0
    have e1:=(hX.cells.1 _ _ hb).trans g1
    have e2:=(hX.cells.1 _ _ hb).trans g2
    have e3:=(hX.cells.1 _ _ hb).trans g3
    have hb2:b<wi.heap.size:=Nat.lt_of_lt_of_le hb hX.sz
    clear hX g0 g1 g2 g3 hb
    go_wp2_with (at_builtin;go_loud (refine wpList_appM elBk rfl _ _ rfl ((M51.out).adv ((Ext.refl _).alloc (.cells #[.int .i64 c0,.int .i64 c1,.int .i64 c4,.int .i64 c3] TBk))) 0 rfl rfl (visitCells (c0,c1,c4,c3)) rfl (sl_lit _ _ _ 1 4 _ (by simp) (by simp) (by simp[maxLen])) (book_one _) (by omega) ?_;intro q7 c7 w6 M6))
    have M7:=Lib.hid (show Mem w w6 [ownI w.heap.size TBk 4 (q7) (k+1) (c7) ((vs.take k).flatMap visitCells++visitCells (c0,c1,c4,c3)),blkI w.heap.size (w.heap.size) TBk #[.int .i64 id,.int .i64 a1,.int .i64 a2,.int .i64 a3]]from M6)
    have hfl:Hid ((vs.take k).flatMap visitCells++visitCells (c0,c1,c4,c3)=(vs.take (k+1)).flatMap visitCells):=by show _=_;rw[take_snocL HX.out,List.flatMap_append];simp
    rw[hfl.out]at M7
    clear hfl M6
    go_roundw
    case rel=>exact⟨k+1,q7,c7,by omega,by go_num,rfl,hfin.out,M7.out⟩
    case measure=>simp[intOf];omega
   ·have hfin:Hid (putB (id,a1,a2,a3) vs=vs.take k++(id,a1,a2,a3)::vs.drop k):=putB_at _ vs k HL.out (fun z hz=>by rw[HX.out]at hz;injection hz with hz;subst hz;exact hy)
    have hck: ¬c2=k:=by omega
    have hd:decide (c0<id)=false:=by simp[hy]
    clear HX HL
    go_wp2
    go_quiet (fail)
    generalize hwi:World.drewN wr _=wi
    have hX:Ext wr wi:=by rw[←hwi];exact Ext.drewN (Ext.refl _) _
    clear hwi b0 b1 b2 b3 lt0 hd
    have M51:=Lib.hid (HM.out.adv hX)
    clear HM
    have lt51_1:w.heap.size<wi.heap.size:=(M51.out.lt (i:=1) rfl rfl).2
    have d0:wi.cell? ⟨w.heap.size,0,none⟩=some (.int .i64 id):=(M51.out.blk (i:=1) rfl).cell 0
    have d1:wi.cell? ⟨w.heap.size,1,none⟩=some (.int .i64 a1):=(M51.out.blk (i:=1) rfl).cell 1
    have d2:wi.cell? ⟨w.heap.size,2,none⟩=some (.int .i64 a2):=(M51.out.blk (i:=1) rfl).cell 2
    have d3:wi.cell? ⟨w.heap.size,3,none⟩=some (.int .i64 a3):=(M51.out.blk (i:=1) rfl).cell 3
    clear hX g0 g1 g2 g3 hb hy
    go_wp2
    go_region_law ((first
     |(refine step_appM elBk (by rfl) _ _ (by rfl) (M51.out.adv (by(repeat' (first|exact Ext.refl _|(with_reducible assumption)|(with_reducible refine Ext.alloc ?_ _)|(with_reducible refine Ext.setCell ?_ (by first|exact Nat.le_refl _|(dsimp only;omega)|(simp;done)|(simp;omega)) _)|(with_reducible refine Ext.drew ?_)|(with_reducible refine Ext.drewN ?_ _)|(refine Ext.trans ?_ (by with_reducible assumption)))))) 0 (by rfl) (by rfl) (visitCells (id,a1,a2,a3)) (by rfl) (by first|exact sl_lit wi #[.int .i64 id,.int .i64 a1,.int .i64 a2,.int .i64 a3] _ 1 4 _ rfl (by simp) (by simp[maxLen])|exact(sl_lit wi #[.int .i64 id,.int .i64 a1,.int .i64 a2,.int .i64 a3] _ 1 4 _ rfl (by simp) (by simp[maxLen])).ext (Ext.drew (Ext.refl _))|exact sl_lit wi.drew #[.int .i64 id,.int .i64 a1,.int .i64 a2,.int .i64 a3] _ 1 4 _ rfl (by simp) (by simp[maxLen])) (book_one _) (by omega) ?_
       intro q7 c7 w6 M6
       have M7:=Lib.hid (show Mem w w6 [ownI w.heap.size TBk 4 (q7) (k+1) (c7) ((vs.take k).flatMap visitCells++visitCells (id,a1,a2,a3)),blkI w.heap.size (w.heap.size) TBk #[.int .i64 id,.int .i64 a1,.int .i64 a2,.int .i64 a3]]from M6)
       clear M6)
     |(refine step_appM elBk (by rfl) _ _ (by rfl) (M7.out.adv (by(repeat' (first|exact Ext.refl _|(with_reducible assumption)|(with_reducible refine Ext.alloc ?_ _)|(with_reducible refine Ext.setCell ?_ (by first|exact Nat.le_refl _|(dsimp only;omega)|(simp;done)|(simp;omega)) _)|(with_reducible refine Ext.drew ?_)|(with_reducible refine Ext.drewN ?_ _)|(refine Ext.trans ?_ (by with_reducible assumption)))))) 0 (by rfl) (by rfl) ((vs.drop k).flatMap visitCells) (by rfl) (drop_books k vs▸sl_dropZ (HS.out.ext (M7.out.ext.trans (by(repeat' (first|exact Ext.refl _|(with_reducible assumption)|(with_reducible refine Ext.alloc ?_ _)|(with_reducible refine Ext.setCell ?_ (by first|exact Nat.le_refl _|(dsimp only;omega)|(simp;done)|(simp;omega)) _)|(with_reducible refine Ext.drew ?_)|(with_reducible refine Ext.drewN ?_ _)|(refine Ext.trans ?_ (by with_reducible assumption))))))) (by omega)) (books_one _) (by omega) ?_
       intro q9 c9 w9 M9
       have M9:=Lib.hid (show Mem w w9 [ownI w.heap.size TBk 4 (q9) (k+1+(m-k)) (c9) (((vs.take k).flatMap visitCells++visitCells (id,a1,a2,a3))++(vs.drop k).flatMap visitCells),blkI w.heap.size (w.heap.size) TBk #[.int .i64 id,.int .i64 a1,.int .i64 a2,.int .i64 a3]]from M9))))
    all_goals (
     have e1:k+1+(m-k)=m+1:=by omega
     have e2:((vs.take k).flatMap visitCells++visitCells (id,a1,a2,a3))++(vs.drop k).flatMap visitCells=(vs.take k++(id,a1,a2,a3)::vs.drop k).flatMap visitCells:=by simp
     have MZ:=Lib.hid (show Mem w w9 [ownI w.heap.size TBk 4 (q9) (m+1) (c9) ((vs.take k++(id,a1,a2,a3)::vs.drop k).flatMap visitCells),blkI w.heap.size (w.heap.size) TBk #[.int .i64 id,.int .i64 a1,.int .i64 a2,.int .i64 a3]]from by have:=M9.out;rw[e2]at this;simpa only[e1]using this)
     clear e2 M9 M7)
    all_goals go_wp2
    all_goals exact bodyPost_ret (v:= .slice q9 (m+1) c9) (by simp[results,Tryd.results56,go_sem, *]) rfl ⟨q9,c9,rfl,by rw[hfin.out];exact MZ.out.own (i:=0) rfl,MZ.out.ext⟩
  ·obtain rfl:k=m:=by omega
   have lt0:w.heap.size<wr.heap.size:=(HM.out.lt (i:=1) rfl rfl).2
   have b0:wr.cell? ⟨w.heap.size,0,none⟩=some (.int .i64 id):=(HM.out.blk (i:=1) rfl).cell 0
   have b1:wr.cell? ⟨w.heap.size,1,none⟩=some (.int .i64 a1):=(HM.out.blk (i:=1) rfl).cell 1
   have b2:wr.cell? ⟨w.heap.size,2,none⟩=some (.int .i64 a2):=(HM.out.blk (i:=1) rfl).cell 2
   have b3:wr.cell? ⟨w.heap.size,3,none⟩=some (.int .i64 a3):=(HM.out.blk (i:=1) rfl).cell 3
   have hfin:Hid (putB (id,a1,a2,a3) vs=vs.take k++(id,a1,a2,a3)::vs.drop k):=putB_at _ vs k HL.out (fun z hz=>by rw[List.getElem?_eq_none (by rw[hl.out];exact Nat.le_refl _)]at hz;cases hz)
   have hdn:Hid (vs.drop k= []):=List.drop_eq_nil_of_le (by rw[hl.out];exact Nat.le_refl _)
   have i1:(0:Int)≤(k:Int):=by omega
   clear HL
   go_wp2
   go_quiet (fail)
   generalize hwi:World.drewN wr _=wi
   have hX:Ext wr wi:=by rw[←hwi];exact Ext.drewN (Ext.refl _) _
   clear hwi b0 b1 b2 b3 lt0
   have M51:=Lib.hid (HM.out.adv hX)
   clear HM
   have lt51_1:w.heap.size<wi.heap.size:=(M51.out.lt (i:=1) rfl rfl).2
   have d0:wi.cell? ⟨w.heap.size,0,none⟩=some (.int .i64 id):=(M51.out.blk (i:=1) rfl).cell 0
   have d1:wi.cell? ⟨w.heap.size,1,none⟩=some (.int .i64 a1):=(M51.out.blk (i:=1) rfl).cell 1
   have d2:wi.cell? ⟨w.heap.size,2,none⟩=some (.int .i64 a2):=(M51.out.blk (i:=1) rfl).cell 2
   have d3:wi.cell? ⟨w.heap.size,3,none⟩=some (.int .i64 a3):=(M51.out.blk (i:=1) rfl).cell 3
   clear hX
   go_wp2
   go_region_law ((first
    |(refine step_appM elBk (by rfl) _ _ (by rfl) (M51.out.adv (by(repeat' (first|exact Ext.refl _|(with_reducible assumption)|(with_reducible refine Ext.alloc ?_ _)|(with_reducible refine Ext.setCell ?_ (by first|exact Nat.le_refl _|(dsimp only;omega)|(simp;done)|(simp;omega)) _)|(with_reducible refine Ext.drew ?_)|(with_reducible refine Ext.drewN ?_ _)|(refine Ext.trans ?_ (by with_reducible assumption)))))) 0 (by rfl) (by rfl) (visitCells (id,a1,a2,a3)) (by rfl) (by first|exact sl_lit wi #[.int .i64 id,.int .i64 a1,.int .i64 a2,.int .i64 a3] _ 1 4 _ rfl (by simp) (by simp[maxLen])|exact(sl_lit wi #[.int .i64 id,.int .i64 a1,.int .i64 a2,.int .i64 a3] _ 1 4 _ rfl (by simp) (by simp[maxLen])).ext (Ext.drew (Ext.refl _))|exact sl_lit wi.drew #[.int .i64 id,.int .i64 a1,.int .i64 a2,.int .i64 a3] _ 1 4 _ rfl (by simp) (by simp[maxLen])) (book_one _) (by omega) ?_
      intro q7 c7 w6 M6
      have M7:=Lib.hid (show Mem w w6 [ownI w.heap.size TBk 4 (q7) (k+1) (c7) ((vs.take k).flatMap visitCells++visitCells (id,a1,a2,a3)),blkI w.heap.size (w.heap.size) TBk #[.int .i64 id,.int .i64 a1,.int .i64 a2,.int .i64 a3]]from M6)
      clear M6)
    |(refine step_appM elBk (by rfl) _ _ (by rfl) (M7.out.adv (by(repeat' (first|exact Ext.refl _|(with_reducible assumption)|(with_reducible refine Ext.alloc ?_ _)|(with_reducible refine Ext.setCell ?_ (by first|exact Nat.le_refl _|(dsimp only;omega)|(simp;done)|(simp;omega)) _)|(with_reducible refine Ext.drew ?_)|(with_reducible refine Ext.drewN ?_ _)|(refine Ext.trans ?_ (by with_reducible assumption)))))) 0 (by rfl) (by rfl) (([]:List Visit4).flatMap visitCells) (by rfl) (⟨by simp,Nat.zero_le _,by have:=HS.out.mx;omega,fun h=>absurd h (by omega)⟩) (books_one _) (by omega) ?_
      intro q9 c9 w9 M9
      have M9:=Lib.hid (show Mem w w9 [ownI w.heap.size TBk 4 (q9) (k+1+0) (c9) (((vs.take k).flatMap visitCells++visitCells (id,a1,a2,a3))++([]:List Visit4).flatMap visitCells),blkI w.heap.size (w.heap.size) TBk #[.int .i64 id,.int .i64 a1,.int .i64 a2,.int .i64 a3]]from M9))))
   all_goals (
    have e1:k+1+0=k+1:=by omega
    have e2:((vs.take k).flatMap visitCells++visitCells (id,a1,a2,a3))++([]:List Visit4).flatMap visitCells=(vs.take k++(id,a1,a2,a3)::vs.drop k).flatMap visitCells:=by simp[hdn.out]
    have MZ:=Lib.hid (show Mem w w9 [ownI w.heap.size TBk 4 (q9) (k+1) (c9) ((vs.take k++(id,a1,a2,a3)::vs.drop k).flatMap visitCells),blkI w.heap.size (w.heap.size) TBk #[.int .i64 id,.int .i64 a1,.int .i64 a2,.int .i64 a3]]from by have:=M9.out;rw[e2]at this;simpa only[e1]using this)
    clear e2 M9 M7)
   all_goals go_wp2
   all_goals exact bodyPost_ret (v:= .slice q9 (k+1) c9) (by simp[results,Tryd.results56,go_sem, *]) rfl ⟨q9,c9,rfl,by rw[hfin.out];exact MZ.out.own (i:=0) rfl,MZ.out.ext⟩
set_option maxRecDepth 100000 in
set_option maxHeartbeats 8000000 in
theorem clone_any (q:Option Addr)(m c2:Nat)(xs:List Value)(w:World)(hm:m≤1000)(hS:Sl w q m c2 4 xs)(h1: ∀u∈xs,u.oneCell'=true):
  Calls Tryd.prog 61 #[.slice q m c2] w fun e w'=> ∃q' c',e= .returned (.slice q' m c')∧w'.ownsRow w.heap.size TBk 4 (.slice q' m c') m xs∧Ext w w':=by
 cases q with
 |none=>
  have h0:m=0:=by
   by_cases h:0<m
   ·obtain⟨b,off,e,_⟩:=hS.rd h;cases e
   ·omega
  subst h0
  obtain rfl:xs= []:=List.eq_nil_of_length_eq_zero (by have:=hS.len;simpa using this)
  have q22: ∀(w:World) (a:Option Addr) (n c n' c':Nat),(binOp .eql 23 (.slice a n c) (.slice none n' c')).run Tryd.prog w= .ok (.bool a.isNone) w:=fun w a n c n' c'=>Lib.run_eql_slice_nil w _ _ a n c n' c' Tryd.underlying23
  clear hS
  go_enter Tryd.func61,Tryd.ntmps61
  go_wp2
  go_ret
  exact⟨none,0,rfl,World.ownsRow_nil _ _ _ _,Ext.refl _⟩
 |some a=>
  have HS:=Lib.hid hS
  have HO:=Lib.hid h1
  have MS:=Lib.hid ((Mem.start w).made0 TBk 4 (w.heap.size) (by simp))
  have q22: ∀(w:World) (a:Option Addr) (n c n' c':Nat),(binOp .eql 23 (.slice a n c) (.slice none n' c')).run Tryd.prog w= .ok (.bool a.isNone) w:=fun w a n c n' c'=>Lib.run_eql_slice_nil w _ _ a n c n' c' Tryd.underlying23
  clear hS h1
  go_enter Tryd.func61,Tryd.ntmps61
  go_wp2_with (at_builtin;go_loud (refine wpList_appM elBk rfl _ _ rfl MS.out 0 rfl rfl xs rfl (HS.out.ext ((Ext.refl _).alloc _)) HO.out (by omega) ?_;intro q7 c7 w6 M6))
  have M7:=Lib.hid (show Mem w w6 [ownI w.heap.size TBk 4 q7 m c7 xs]from by simpa using M6)
  clear M6
  go_wp2
  go_ret
  exact⟨q7,c7,rfl,M7.out.own (i:=0) rfl,M7.out.ext⟩
theorem Mem.ownOf0 {w0 w w':World}{L:List Item}{n c sz b:Nat}{e:TypeId}{q:Option Addr}{xs:List Value}(h:Mem w0 w L)(hx:Ext w w')(ho:w'.ownsRow b e sz (.slice q n c) n xs)(hb:w.heap.size≤b:=by first|exact Nat.le_refl _|simp):Mem w0 w' (ownI w0.heap.size e sz q n c xs::L):=h.ownNew hx ho hb
theorem sl_blk1 {w:World}{g:Nat}{t:TypeId}{a b c d:Value}(h:Blk w g t #[a,b,c,d]):Sl w (some ⟨g,0,none⟩) 1 1 4 [a,b,c,d]:=by
 refine⟨rfl,Nat.le_refl _,by simp[maxLen],fun _=>⟨g,0,rfl,h.lt,fun k hk=> ?_⟩⟩
 rw[Nat.zero_add,h.cell k]
 simp
theorem putBook_len (T:List Visit4)(b:Visit4):(putBook T b).length=T.length+1:=by rw[(put_perm T b).length_eq];simp
set_option maxRecDepth 100000 in
set_option maxHeartbeats 8000000 in
theorem withBook_any (q:Option Addr)(m c2:Nat)(T:List Visit4)(b0 b1 b2 b3:Int)(w:World)(hm:m≤11)(hS:Sl w q m c2 4 (T.flatMap visitCells))(hup:Hid ((T.map (·.1)).Pairwise (·< ·)))(hne:Hid (∀c∈T,(b0,b1,b2,b3).1≠c.1)):
  Calls Tryd.prog 54 #[.slice q m c2,bookV b0 b1 b2 b3] w (RetBooks (putBook T (b0,b1,b2,b3)) w):=by
 have hl:Hid (T.length=m):=by
  have:=hS.len;rw[flat_len visitCells 4 (fun _=>rfl)]at this;exact(by omega:T.length=m)
 have HS:=Lib.hid hS
 have hpl:Hid ((putBook T (b0,b1,b2,b3)).length=m+1):=by show _=_;rw[putBook_len,hl.out]
 have HCL:Hid (∀w',Ext w w'→Calls Tryd.prog 61 #[.slice q m c2] w' fun e w''=> ∃q' c',e= .returned (.slice q' m c')∧w''.ownsRow w'.heap.size TBk 4 (.slice q' m c') m (T.flatMap visitCells)∧Ext w' w''):=fun w' hx=>clone_any q m c2 _ w' (by omega) (hS.ext hx) (books_one _)
 clear hS
 go_enter Tryd.func54,Tryd.ntmps54
 go_wp2
 refine region_lin (gl [gEq (.slice q m c2),(fun v w'=> ∃q c,v= .slice q (m) c∧w'.ownsRow (w.heap.size) TBk 4 (.slice q (m) c) (m) (T.flatMap visitCells)),gEq (.agg #[.int .i64 b0,.int .i64 b1,.int .i64 b2,.int .i64 b3]),gLit (0) TBk #[.int .i64 b0,.int .i64 b1,.int .i64 b2,.int .i64 b3] 1]) 4 (by kernel_rfl) rfl (by kernel_rfl) (by kernel_rfl) (by kernel_rfl) (gl_mono (gl_cons (gEq_mono _) (gl_cons (fun v w w' ⟨q,c,he,ho⟩ hx=>⟨q,c,he,own_ext ho hx⟩) (gl_cons (gEq_mono _) (gl_cons (gLit_mono _ _ _ _) (gl_nil)))))) (k:=6) (by kernel_rfl) (by decide) (ls:= [(0,some 6),(1,some 7),(2,some 8),(3,some 9)]) (by kernel_rfl) (ir:= [0,1,2,3]) (by kernel_rfl) ?steps (tl:=#[true,true,true,true,false,false]) (by kernel_rfl) ?fin
 case steps=>
  refine StepsL.cons (ps:= []) rfl (by kernel_rfl) (fun wi hx=> ?_) ?_
  ·intro K hK
   go_simp
   exact hK _ _ ⟨.slice q m c2,rfl,rfl,Ext.refl _⟩
  refine StepsL.cons (ps:= [(0,some 6)]) rfl (by kernel_rfl) (fun wi hx=> ?_) ?_
  ·intro v0 h0 K hK
   obtain rfl:=h0
   have hX:Ext (w.alloc (.cells #[.int .i64 b0,.int .i64 b1,.int .i64 b2,.int .i64 b3] TBk)) wi:=by(repeat' (first|exact Ext.refl _|(with_reducible assumption)|(with_reducible refine Ext.alloc ?_ _)|(with_reducible refine Ext.setCell ?_ (by first|exact Nat.le_refl _|(dsimp only;omega)|(simp;done)|(simp;omega)) _)|(with_reducible refine Ext.drew ?_)|(with_reducible refine Ext.drewN ?_ _)|(refine Ext.trans ?_ (by with_reducible assumption))))
   go_simp
   refine(HCL.out _ (Ext.trans ((Ext.refl _).alloc _) hX)).mono ?_
   rintro e w5 ⟨q5,c5,rfl,o5,hx5⟩
   go_simp
   exact hK _ _ ⟨.slice q5 m c5,rfl,⟨q5,c5,rfl,own_base o5 (by have:=hX.sz;(try simp at this);omega)⟩,hx5⟩
  refine StepsL.cons (ps:= []) rfl (by kernel_rfl) (fun wi hx=> ?_) ?_
  ·intro K hK
   have hX:Ext (w.alloc (.cells #[.int .i64 b0,.int .i64 b1,.int .i64 b2,.int .i64 b3] TBk)) wi:=by(repeat' (first|exact Ext.refl _|(with_reducible assumption)|(with_reducible refine Ext.alloc ?_ _)|(with_reducible refine Ext.setCell ?_ (by first|exact Nat.le_refl _|(dsimp only;omega)|(simp;done)|(simp;omega)) _)|(with_reducible refine Ext.drew ?_)|(with_reducible refine Ext.drewN ?_ _)|(refine Ext.trans ?_ (by with_reducible assumption))))
   have cl0:wi.cell? ⟨w.heap.size,0,none⟩=some (.int .i64 b0):=((Blk.new w TBk #[.int .i64 b0,.int .i64 b1,.int .i64 b2,.int .i64 b3]).ext hX).cell 0
   have cl1:wi.cell? ⟨w.heap.size,1,none⟩=some (.int .i64 b1):=((Blk.new w TBk #[.int .i64 b0,.int .i64 b1,.int .i64 b2,.int .i64 b3]).ext hX).cell 1
   have cl2:wi.cell? ⟨w.heap.size,2,none⟩=some (.int .i64 b2):=((Blk.new w TBk #[.int .i64 b0,.int .i64 b1,.int .i64 b2,.int .i64 b3]).ext hX).cell 2
   have cl3:wi.cell? ⟨w.heap.size,3,none⟩=some (.int .i64 b3):=((Blk.new w TBk #[.int .i64 b0,.int .i64 b1,.int .i64 b2,.int .i64 b3]).ext hX).cell 3
   go_simp
   exact hK _ _ ⟨.agg #[.int .i64 b0,.int .i64 b1,.int .i64 b2,.int .i64 b3],rfl,rfl,Ext.refl _⟩
  refine StepsL.cons (ps:= [(2,some 8)]) rfl (by kernel_rfl) (fun wi hx=> ?_) StepsL.nil
  ·intro v2 h2 K hK
   obtain rfl:=h2
   go_simp
   exact hK _ _ ⟨.slice (some ⟨wi.heap.size,0,none⟩) 1 1,rfl,⟨wi.heap.size,rfl,Nat.zero_le _,Blk.new _ _ _⟩,(Ext.refl _).alloc _⟩
 case fin=>
  intro wi hx v0 h0 v1 h1 v2 h2 v3 h3
  obtain rfl:=h0
  obtain⟨q1,c1,rfl,ho1⟩:=h1
  obtain rfl:=h2
  obtain⟨g3,rfl,hg3,B3⟩:=h3
  have hX:Ext (w.alloc (.cells #[.int .i64 b0,.int .i64 b1,.int .i64 b2,.int .i64 b3] TBk)) wi:=hx.of_drew
  have M1:=Lib.hid ((Mem.start w).ownOf0 (Ext.trans ((Ext.refl _).alloc _) hX) ho1)
  clear hX hx hg3 ho1
  simp only[Act.put,List.setIfInBounds_toArray,List.set_cons_zero,List.set_cons_succ]
  refine wpAny_ready (rs:= [4]) (by kernel_rfl) (by simp) ?_
  refine AllReady.cons rfl (fun K hK=> ?_) AllReady.nil
  refine step_appM elBk rfl _ _ rfl M1.out 0 rfl rfl (visitCells (b0,b1,b2,b3)) rfl (sl_blk1 B3) (book_one _) (by omega) (fun q7 c7 w6 M6=>hK _ _ ?_)
  clear hK K
  have M7:=Lib.hid (show Mem w w6 [ownI w.heap.size TBk 4 (q7) (m+1) (c7) ((T++ [(b0,b1,b2,b3)]).flatMap visitCells)]from by rw[List.flatMap_append];simpa using M6)
  clear M6 M1 B3
  try simp only[Act.put,List.setIfInBounds_toArray,List.set_cons_zero,List.set_cons_succ]
  refine wpAny_ready (rs:= [5]) (by kernel_rfl) (by simp) ?_
  refine AllReady.cons rfl (fun K hK=> ?_) AllReady.nil
  go_simp
  refine hK _ _ ?_
  clear hK K
  refine wpAny_done (by kernel_rfl) ?_ _
  try simp only[Act.put,List.setIfInBounds_toArray,List.set_cons_zero,List.set_cons_succ]
  obtain⟨g,rfl,_,_⟩:=M7.out.some (i:=0) rfl (by omega)
  have HSO:=Lib.hid (sortBook g (m+1) c7 w.heap.size T (b0,b1,b2,b3) w6 (by omega) (by rw[hl.out]) hup.out hne.out (M7.out.own (i:=0) rfl))
  go_wp2_with fail
  refine HSO.out.mono ?_
  rintro e w8 ⟨rfl,h1,h2⟩
  have M8:=Lib.hid (M7.out.app (i:=0) rfl h1 h2 (.inl rfl))
  clear h1 h2 M7 HSO
  go_wp2
  go_ret
  exact ret_books (by rw[hpl.out]) (M8.out.own (i:=0) rfl) M8.out.ext
set_option maxRecDepth 100000 in
set_option maxHeartbeats 8000000 in
theorem canTake_any (P:Int)(q:Option Addr)(m c2:Nat)(q2:Option Addr)(m2 d2:Nat)(T:List Visit4)(b0 b1 b2 b3:Int)(w:World)(hm:m≤1000)(hS:Sl w q m c2 4 (T.flatMap visitCells))(hup:Hid ((T.map (·.1)).Pairwise (·< ·)))(hne:Hid (∀c∈T,(b0,b1,b2,b3).1≠c.1)):
  Calls Tryd.prog 43 #[.agg #[.int .i64 P,.slice q m c2,.slice q2 m2 d2],bookV b0 b1 b2 b3] w fun e w'=>e= .returned (.bool (deskFits P T (b0,b1,b2,b3)))∧Ext w w':=by
 have hl:Hid (T.length=m):=by
  have:=hS.len;rw[flat_len visitCells 4 (fun _=>rfl)]at this;exact(by omega:T.length=m)
 have hpl:Hid ((putBook T (b0,b1,b2,b3)).length=m+1):=by show _=_;rw[putBook_len,hl.out]
 by_cases h7:m<7
 ·have HWB:Hid (∀w',Ext w w'→Calls Tryd.prog 54 #[.slice q m c2,bookV b0 b1 b2 b3] w' fun e w''=> ∃q' c',e= .returned (.slice q' (m+1) c')∧w''.ownsRow w'.heap.size TBk 4 (.slice q' (m+1) c') (m+1) ((putBook T (b0,b1,b2,b3)).flatMap visitCells)∧Ext w' w''):=fun w' hx=>(withBook_any q m c2 T b0 b1 b2 b3 w' (by omega) (hS.ext hx) hup hne).mono (by rintro e w'' ⟨q',c',rfl,h1,h2⟩;rw[hpl.out]at h1⊢;exact⟨q',c',rfl,h1,h2⟩)
  obtain⟨M,hM⟩: ∃M,M=booksMost (T++ [(b0,b1,b2,b3)]):=⟨_,rfl⟩
  have HBM:Hid (∀q' c' w',Sl w' q' (m+1) c' 4 ((putBook T (b0,b1,b2,b3)).flatMap visitCells)→Calls Tryd.prog 13 #[.slice q' (m+1) c'] w' fun e w''=>e= .returned (.int .i64 M)∧Ext w' w''):=fun q' c' w' hs=>by rw[hM,←booksMost_perm (put_perm T (b0,b1,b2,b3))];exact implBm q' (m+1) c' _ w' hs
  have hfin:Hid (deskFits P T (b0,b1,b2,b3)=decide (M≤P)):=by
   show _=_
   unfold deskFits
   rw[hl.out,←hM];simp[h7]
  have t1:decide ((m:Int)<7)=true:=by simp;omega
  clear hS hM hup hne
  go_enter Tryd.func43,Tryd.ntmps43
  go_wp2
  refine region_lin (gl [gEq (.pointer (some ⟨w.heap.size,1,none⟩)),gEq (.slice q m c2),gEq (.int .i64 (m:Int)),gEq (.bool true),gEq (.bool true),gEq (.pointer (some ⟨w.heap.size,1,none⟩)),gEq (.slice q m c2),gEq (.agg #[.int .i64 b0,.int .i64 b1,.int .i64 b2,.int .i64 b3]),(fun v w'=> ∃q c,v= .slice q (m+1) c∧w'.ownsRow (w.heap.size) TBk 4 (.slice q (m+1) c) (m+1) ((putBook T (b0,b1,b2,b3)).flatMap visitCells)),gEq (.int .i64 M),gEq (.pointer (some ⟨w.heap.size,0,none⟩)),gEq (.int .i64 P),gEq (.bool (decide (M≤P))),gEq (.bool (decide (M≤P))),gEq (.bool (decide (M≤P)))]) 15 (by kernel_rfl) rfl (by kernel_rfl) (by kernel_rfl) (by kernel_rfl) (gl_mono (gl_cons (gEq_mono _) (gl_cons (gEq_mono _) (gl_cons (gEq_mono _) (gl_cons (gEq_mono _) (gl_cons (gEq_mono _) (gl_cons (gEq_mono _) (gl_cons (gEq_mono _) (gl_cons (gEq_mono _) (gl_cons (fun v w w' ⟨q,c,he,ho⟩ hx=>⟨q,c,he,own_ext ho hx⟩) (gl_cons (gEq_mono _) (gl_cons (gEq_mono _) (gl_cons (gEq_mono _) (gl_cons (gEq_mono _) (gl_cons (gEq_mono _) (gl_cons (gEq_mono _) (gl_nil))))))))))))))))) (k:=15) (by kernel_rfl) (by decide) (ls:= [(0,some 5),(1,some 6),(2,some 7),(3,some 8),(4,some 9),(5,some 10),(6,some 11),(7,some 12),(8,some 13),(9,some 14),(10,some 15),(11,some 16),(12,some 17),(13,some 18),(14,some 4)]) (by kernel_rfl) (ir:= [0,1,2,3,4,5,6,7,8,9,10,11,12,13,14]) (by kernel_rfl) ?steps (tl:=#[true,true,true,true,true,true,true,true,true,true,true,true,true,true,true]) (by kernel_rfl) ?fin
  case steps=>
   refine StepsL.cons (ps:= []) rfl (by kernel_rfl) (fun wi hx=> ?_) ?_
   ·intro K hK
    go_simp
    exact hK _ _ ⟨.pointer (some ⟨w.heap.size,1,none⟩),rfl,rfl,Ext.refl _⟩
   refine StepsL.cons (ps:= [(0,some 5)]) rfl (by kernel_rfl) (fun wi hx=> ?_) ?_
   ·intro v0 h0 K hK
    obtain rfl:=h0
    have hX:Ext ((w.alloc (.cells #[.int .i64 P,.slice q m c2,.slice q2 m2 d2] 25)).alloc (.cells #[.int .i64 b0,.int .i64 b1,.int .i64 b2,.int .i64 b3] TBk)) wi:=by(repeat' (first|exact Ext.refl _|(with_reducible assumption)|(with_reducible refine Ext.alloc ?_ _)|(with_reducible refine Ext.setCell ?_ (by first|exact Nat.le_refl _|(dsimp only;omega)|(simp;done)|(simp;omega)) _)|(with_reducible refine Ext.drew ?_)|(with_reducible refine Ext.drewN ?_ _)|(refine Ext.trans ?_ (by with_reducible assumption))))
    have cl0:wi.cell? ⟨w.heap.size,1,none⟩=some (.slice q m c2):=(((Blk.new w 25 #[.int .i64 P,.slice q m c2,.slice q2 m2 d2]).alloc (.cells #[.int .i64 b0,.int .i64 b1,.int .i64 b2,.int .i64 b3] TBk)).ext hX).cell 1
    go_simp
    exact hK _ _ ⟨.slice q m c2,rfl,rfl,Ext.refl _⟩
   refine StepsL.cons (ps:= [(1,some 6)]) rfl (by kernel_rfl) (fun wi hx=> ?_) ?_
   ·intro v1 h1 K hK
    obtain rfl:=h1
    go_simp
    exact hK _ _ ⟨.int .i64 (m:Int),rfl,rfl,Ext.refl _⟩
   refine StepsL.cons (ps:= [(2,some 7)]) rfl (by kernel_rfl) (fun wi hx=> ?_) ?_
   ·intro v2 h2 K hK
    obtain rfl:=h2
    go_simp
    exact hK _ _ ⟨.bool true,rfl,rfl,Ext.refl _⟩
   refine StepsL.cons (ps:= [(3,some 8)]) rfl (by kernel_rfl) (fun wi hx=> ?_) ?_
   ·intro v3 h3 K hK
    obtain rfl:=h3
    go_simp
    exact hK _ _ ⟨.bool true,rfl,rfl,Ext.refl _⟩
   refine StepsL.cons (ps:= [(4,some 9)]) rfl (by kernel_rfl) (fun wi hx=> ?_) ?_
   ·intro v4 h4 K hK
    obtain rfl:=h4
    go_simp
    exact hK _ _ ⟨.pointer (some ⟨w.heap.size,1,none⟩),rfl,rfl,Ext.refl _⟩
   refine StepsL.cons (ps:= [(4,some 9),(5,some 10)]) rfl (by kernel_rfl) (fun wi hx=> ?_) ?_
   ·intro v4 h4 v5 h5 K hK
    obtain rfl:=h4
    obtain rfl:=h5
    have hX:Ext ((w.alloc (.cells #[.int .i64 P,.slice q m c2,.slice q2 m2 d2] 25)).alloc (.cells #[.int .i64 b0,.int .i64 b1,.int .i64 b2,.int .i64 b3] TBk)) wi:=by(repeat' (first|exact Ext.refl _|(with_reducible assumption)|(with_reducible refine Ext.alloc ?_ _)|(with_reducible refine Ext.setCell ?_ (by first|exact Nat.le_refl _|(dsimp only;omega)|(simp;done)|(simp;omega)) _)|(with_reducible refine Ext.drew ?_)|(with_reducible refine Ext.drewN ?_ _)|(refine Ext.trans ?_ (by with_reducible assumption))))
    have cl0:wi.cell? ⟨w.heap.size,1,none⟩=some (.slice q m c2):=(((Blk.new w 25 #[.int .i64 P,.slice q m c2,.slice q2 m2 d2]).alloc (.cells #[.int .i64 b0,.int .i64 b1,.int .i64 b2,.int .i64 b3] TBk)).ext hX).cell 1
    go_simp
    exact hK _ _ ⟨.slice q m c2,rfl,rfl,Ext.refl _⟩
   refine StepsL.cons (ps:= [(4,some 9)]) rfl (by kernel_rfl) (fun wi hx=> ?_) ?_
   ·intro v4 h4 K hK
    obtain rfl:=h4
    have hX:Ext ((w.alloc (.cells #[.int .i64 P,.slice q m c2,.slice q2 m2 d2] 25)).alloc (.cells #[.int .i64 b0,.int .i64 b1,.int .i64 b2,.int .i64 b3] TBk)) wi:=by(repeat' (first|exact Ext.refl _|(with_reducible assumption)|(with_reducible refine Ext.alloc ?_ _)|(with_reducible refine Ext.setCell ?_ (by first|exact Nat.le_refl _|(dsimp only;omega)|(simp;done)|(simp;omega)) _)|(with_reducible refine Ext.drew ?_)|(with_reducible refine Ext.drewN ?_ _)|(refine Ext.trans ?_ (by with_reducible assumption))))
    have cl0:wi.cell? ⟨w.heap.size+1,0,none⟩=some (.int .i64 b0):=((show Blk ((w.alloc (.cells #[.int .i64 P,.slice q m c2,.slice q2 m2 d2] 25)).alloc (.cells #[.int .i64 b0,.int .i64 b1,.int .i64 b2,.int .i64 b3] TBk)) (w.heap.size+1) TBk #[.int .i64 b0,.int .i64 b1,.int .i64 b2,.int .i64 b3] by have:=Blk.new (w.alloc (.cells #[.int .i64 P,.slice q m c2,.slice q2 m2 d2] 25)) TBk #[.int .i64 b0,.int .i64 b1,.int .i64 b2,.int .i64 b3];simpa using this).ext hX).cell 0
    have cl1:wi.cell? ⟨w.heap.size+1,1,none⟩=some (.int .i64 b1):=((show Blk ((w.alloc (.cells #[.int .i64 P,.slice q m c2,.slice q2 m2 d2] 25)).alloc (.cells #[.int .i64 b0,.int .i64 b1,.int .i64 b2,.int .i64 b3] TBk)) (w.heap.size+1) TBk #[.int .i64 b0,.int .i64 b1,.int .i64 b2,.int .i64 b3] by have:=Blk.new (w.alloc (.cells #[.int .i64 P,.slice q m c2,.slice q2 m2 d2] 25)) TBk #[.int .i64 b0,.int .i64 b1,.int .i64 b2,.int .i64 b3];simpa using this).ext hX).cell 1
    have cl2:wi.cell? ⟨w.heap.size+1,2,none⟩=some (.int .i64 b2):=((show Blk ((w.alloc (.cells #[.int .i64 P,.slice q m c2,.slice q2 m2 d2] 25)).alloc (.cells #[.int .i64 b0,.int .i64 b1,.int .i64 b2,.int .i64 b3] TBk)) (w.heap.size+1) TBk #[.int .i64 b0,.int .i64 b1,.int .i64 b2,.int .i64 b3] by have:=Blk.new (w.alloc (.cells #[.int .i64 P,.slice q m c2,.slice q2 m2 d2] 25)) TBk #[.int .i64 b0,.int .i64 b1,.int .i64 b2,.int .i64 b3];simpa using this).ext hX).cell 2
    have cl3:wi.cell? ⟨w.heap.size+1,3,none⟩=some (.int .i64 b3):=((show Blk ((w.alloc (.cells #[.int .i64 P,.slice q m c2,.slice q2 m2 d2] 25)).alloc (.cells #[.int .i64 b0,.int .i64 b1,.int .i64 b2,.int .i64 b3] TBk)) (w.heap.size+1) TBk #[.int .i64 b0,.int .i64 b1,.int .i64 b2,.int .i64 b3] by have:=Blk.new (w.alloc (.cells #[.int .i64 P,.slice q m c2,.slice q2 m2 d2] 25)) TBk #[.int .i64 b0,.int .i64 b1,.int .i64 b2,.int .i64 b3];simpa using this).ext hX).cell 3
    go_simp
    exact hK _ _ ⟨.agg #[.int .i64 b0,.int .i64 b1,.int .i64 b2,.int .i64 b3],rfl,rfl,Ext.refl _⟩
   refine StepsL.cons (ps:= [(4,some 9),(6,some 11),(7,some 12)]) rfl (by kernel_rfl) (fun wi hx=> ?_) ?_
   ·intro v4 h4 v6 h6 v7 h7 K hK
    obtain rfl:=h4
    obtain rfl:=h6
    obtain rfl:=h7
    have hX:Ext ((w.alloc (.cells #[.int .i64 P,.slice q m c2,.slice q2 m2 d2] 25)).alloc (.cells #[.int .i64 b0,.int .i64 b1,.int .i64 b2,.int .i64 b3] TBk)) wi:=by(repeat' (first|exact Ext.refl _|(with_reducible assumption)|(with_reducible refine Ext.alloc ?_ _)|(with_reducible refine Ext.setCell ?_ (by first|exact Nat.le_refl _|(dsimp only;omega)|(simp;done)|(simp;omega)) _)|(with_reducible refine Ext.drew ?_)|(with_reducible refine Ext.drewN ?_ _)|(refine Ext.trans ?_ (by with_reducible assumption))))
    go_simp
    refine(HWB.out _ (Ext.trans (by(repeat' (first|exact Ext.refl _|(with_reducible assumption)|(with_reducible refine Ext.alloc ?_ _)|(with_reducible refine Ext.setCell ?_ (by first|exact Nat.le_refl _|(dsimp only;omega)|(simp;done)|(simp;omega)) _)|(with_reducible refine Ext.drew ?_)|(with_reducible refine Ext.drewN ?_ _)|(refine Ext.trans ?_ (by with_reducible assumption))))) hX)).mono ?_
    rintro e w5 ⟨q5,c5,rfl,o5,hx5⟩
    go_simp
    exact hK _ _ ⟨.slice q5 (m+1) c5,rfl,⟨q5,c5,rfl,own_base o5 (by have:=hX.sz;(try simp at this);omega)⟩,hx5⟩
   refine StepsL.cons (ps:= [(4,some 9),(8,some 13)]) rfl (by kernel_rfl) (fun wi hx=> ?_) ?_
   ·intro v4 h4 v8 h8 K hK
    obtain rfl:=h4
    obtain⟨q8,c8,rfl,ho8⟩:=h8
    go_simp
    refine(HBM.out q8 c8 wi (Sl.own ho8)).mono ?_
    rintro e w5 ⟨rfl,hx5⟩
    go_simp
    exact hK _ _ ⟨.int .i64 M,rfl,rfl,hx5⟩
   refine StepsL.cons (ps:= [(4,some 9)]) rfl (by kernel_rfl) (fun wi hx=> ?_) ?_
   ·intro v4 h4 K hK
    obtain rfl:=h4
    go_simp
    exact hK _ _ ⟨.pointer (some ⟨w.heap.size,0,none⟩),rfl,rfl,Ext.refl _⟩
   refine StepsL.cons (ps:= [(4,some 9),(10,some 15)]) rfl (by kernel_rfl) (fun wi hx=> ?_) ?_
   ·intro v4 h4 v10 h10 K hK
    obtain rfl:=h4
    obtain rfl:=h10
    have hX:Ext ((w.alloc (.cells #[.int .i64 P,.slice q m c2,.slice q2 m2 d2] 25)).alloc (.cells #[.int .i64 b0,.int .i64 b1,.int .i64 b2,.int .i64 b3] TBk)) wi:=by(repeat' (first|exact Ext.refl _|(with_reducible assumption)|(with_reducible refine Ext.alloc ?_ _)|(with_reducible refine Ext.setCell ?_ (by first|exact Nat.le_refl _|(dsimp only;omega)|(simp;done)|(simp;omega)) _)|(with_reducible refine Ext.drew ?_)|(with_reducible refine Ext.drewN ?_ _)|(refine Ext.trans ?_ (by with_reducible assumption))))
    have cl0:wi.cell? ⟨w.heap.size,0,none⟩=some (.int .i64 P):=(((Blk.new w 25 #[.int .i64 P,.slice q m c2,.slice q2 m2 d2]).alloc (.cells #[.int .i64 b0,.int .i64 b1,.int .i64 b2,.int .i64 b3] TBk)).ext hX).cell 0
    go_simp
    exact hK _ _ ⟨.int .i64 P,rfl,rfl,Ext.refl _⟩
   refine StepsL.cons (ps:= [(4,some 9),(9,some 14),(11,some 16)]) rfl (by kernel_rfl) (fun wi hx=> ?_) ?_
   ·intro v4 h4 v9 h9 v11 h11 K hK
    obtain rfl:=h4
    obtain rfl:=h9
    obtain rfl:=h11
    go_simp
    exact hK _ _ ⟨.bool (decide (M≤P)),rfl,rfl,Ext.refl _⟩
   refine StepsL.cons (ps:= [(4,some 9),(12,some 17)]) rfl (by kernel_rfl) (fun wi hx=> ?_) ?_
   ·intro v4 h4 v12 h12 K hK
    obtain rfl:=h4
    obtain rfl:=h12
    go_simp
    exact hK _ _ ⟨.bool (decide (M≤P)),rfl,rfl,Ext.refl _⟩
   refine StepsL.cons (ps:= [(13,some 18)]) rfl (by kernel_rfl) (fun wi hx=> ?_) StepsL.nil
   ·intro v13 h13 K hK
    obtain rfl:=h13
    go_simp
    exact hK _ _ ⟨.bool (decide (M≤P)),rfl,rfl,Ext.refl _⟩
  case fin=>
   intro wi hx v0 h0 v1 h1 v2 h2 v3 h3 v4 h4 v5 h5 v6 h6 v7 h7 v8 h8 v9 h9 v10 h10 v11 h11 v12 h12 v13 h13 v14 h14
   obtain rfl:=h0
   obtain rfl:=h1
   obtain rfl:=h2
   obtain rfl:=h3
   obtain rfl:=h4
   obtain rfl:=h5
   obtain rfl:=h6
   obtain rfl:=h7
   obtain⟨q8,c8,rfl,ho8⟩:=h8
   obtain rfl:=h9
   obtain rfl:=h10
   obtain rfl:=h11
   obtain rfl:=h12
   obtain rfl:=h13
   obtain rfl:=h14
   refine wpAny_done (by kernel_rfl) ?_ _
   try simp only[Act.put,List.setIfInBounds_toArray,List.set_cons_zero,List.set_cons_succ]
   have hx':=hx.of_drew
   go_wp2
   go_ret
   exact⟨by rw[hfin.out];rfl,Ext.trans (by(repeat' (first|exact Ext.refl _|(with_reducible assumption)|(with_reducible refine Ext.alloc ?_ _)|(with_reducible refine Ext.setCell ?_ (by first|exact Nat.le_refl _|(dsimp only;omega)|(simp;done)|(simp;omega)) _)|(with_reducible refine Ext.drew ?_)|(with_reducible refine Ext.drewN ?_ _)|(refine Ext.trans ?_ (by with_reducible assumption))))) hx'⟩
 ·have hfin:Hid (deskFits P T (b0,b1,b2,b3)=false):=by
   show _=_
   unfold deskFits
   rw[hl.out];simp[h7]
  have t1:decide ((m:Int)<7)=false:=by simp;omega
  clear hS hup hne
  go_enter Tryd.func43,Tryd.ntmps43
  go_wp2
  refine region_lin (gl [gEq (.pointer (some ⟨w.heap.size,1,none⟩)),gEq (.slice q m c2),gEq (.int .i64 (m:Int)),gEq (.bool false),gEq (.bool false),gEq (undef),gEq (undef),gEq (undef),gEq (undef),gEq (undef),gEq (undef),gEq (undef),gEq (undef),gEq (.bool false),gEq (.bool false)]) 15 (by kernel_rfl) rfl (by kernel_rfl) (by kernel_rfl) (by kernel_rfl) (gl_mono (gl_cons (gEq_mono _) (gl_cons (gEq_mono _) (gl_cons (gEq_mono _) (gl_cons (gEq_mono _) (gl_cons (gEq_mono _) (gl_cons (gEq_mono _) (gl_cons (gEq_mono _) (gl_cons (gEq_mono _) (gl_cons (gEq_mono _) (gl_cons (gEq_mono _) (gl_cons (gEq_mono _) (gl_cons (gEq_mono _) (gl_cons (gEq_mono _) (gl_cons (gEq_mono _) (gl_cons (gEq_mono _) (gl_nil))))))))))))))))) (k:=15) (by kernel_rfl) (by decide) (ls:= [(0,some 5),(1,some 6),(2,some 7),(3,some 8),(4,some 9),(5,some 10),(6,some 11),(7,some 12),(8,some 13),(9,some 14),(10,some 15),(11,some 16),(12,some 17),(13,some 18),(14,some 4)]) (by kernel_rfl) (ir:= [0,1,2,3,4,5,6,7,8,9,10,11,12,13,14]) (by kernel_rfl) ?steps (tl:=#[true,true,true,true,true,true,true,true,true,true,true,true,true,true,true]) (by kernel_rfl) ?fin
  case steps=>
   refine StepsL.cons (ps:= []) rfl (by kernel_rfl) (fun wi hx=> ?_) ?_
   ·intro K hK
    go_simp
    exact hK _ _ ⟨.pointer (some ⟨w.heap.size,1,none⟩),rfl,rfl,Ext.refl _⟩
   refine StepsL.cons (ps:= [(0,some 5)]) rfl (by kernel_rfl) (fun wi hx=> ?_) ?_
   ·intro v0 h0 K hK
    obtain rfl:=h0
    have hX:Ext ((w.alloc (.cells #[.int .i64 P,.slice q m c2,.slice q2 m2 d2] 25)).alloc (.cells #[.int .i64 b0,.int .i64 b1,.int .i64 b2,.int .i64 b3] TBk)) wi:=by(repeat' (first|exact Ext.refl _|(with_reducible assumption)|(with_reducible refine Ext.alloc ?_ _)|(with_reducible refine Ext.setCell ?_ (by first|exact Nat.le_refl _|(dsimp only;omega)|(simp;done)|(simp;omega)) _)|(with_reducible refine Ext.drew ?_)|(with_reducible refine Ext.drewN ?_ _)|(refine Ext.trans ?_ (by with_reducible assumption))))
    have cl0:wi.cell? ⟨w.heap.size,1,none⟩=some (.slice q m c2):=(((Blk.new w 25 #[.int .i64 P,.slice q m c2,.slice q2 m2 d2]).alloc (.cells #[.int .i64 b0,.int .i64 b1,.int .i64 b2,.int .i64 b3] TBk)).ext hX).cell 1
    go_simp
    exact hK _ _ ⟨.slice q m c2,rfl,rfl,Ext.refl _⟩
   refine StepsL.cons (ps:= [(1,some 6)]) rfl (by kernel_rfl) (fun wi hx=> ?_) ?_
   ·intro v1 h1 K hK
    obtain rfl:=h1
    go_simp
    exact hK _ _ ⟨.int .i64 (m:Int),rfl,rfl,Ext.refl _⟩
   refine StepsL.cons (ps:= [(2,some 7)]) rfl (by kernel_rfl) (fun wi hx=> ?_) ?_
   ·intro v2 h2 K hK
    obtain rfl:=h2
    go_simp
    exact hK _ _ ⟨.bool false,rfl,rfl,Ext.refl _⟩
   refine StepsL.cons (ps:= [(3,some 8)]) rfl (by kernel_rfl) (fun wi hx=> ?_) ?_
   ·intro v3 h3 K hK
    obtain rfl:=h3
    go_simp
    exact hK _ _ ⟨.bool false,rfl,rfl,Ext.refl _⟩
   refine StepsL.cons (ps:= [(4,some 9)]) rfl (by kernel_rfl) (fun wi hx=> ?_) ?_
   ·intro v4 h4 K hK
    obtain rfl:=h4
    go_simp
    exact hK _ _ ⟨undef,rfl,rfl,Ext.refl _⟩
   refine StepsL.cons (ps:= [(4,some 9),(5,some 10)]) rfl (by kernel_rfl) (fun wi hx=> ?_) ?_
   ·intro v4 h4 v5 h5 K hK
    obtain rfl:=h4
    obtain rfl:=h5
    go_simp
    exact hK _ _ ⟨undef,rfl,rfl,Ext.refl _⟩
   refine StepsL.cons (ps:= [(4,some 9)]) rfl (by kernel_rfl) (fun wi hx=> ?_) ?_
   ·intro v4 h4 K hK
    obtain rfl:=h4
    go_simp
    exact hK _ _ ⟨undef,rfl,rfl,Ext.refl _⟩
   refine StepsL.cons (ps:= [(4,some 9),(6,some 11),(7,some 12)]) rfl (by kernel_rfl) (fun wi hx=> ?_) ?_
   ·intro v4 h4 v6 h6 v7 h7 K hK
    obtain rfl:=h4
    obtain rfl:=h6
    obtain rfl:=h7
    go_simp
    exact hK _ _ ⟨undef,rfl,rfl,Ext.refl _⟩
   refine StepsL.cons (ps:= [(4,some 9),(8,some 13)]) rfl (by kernel_rfl) (fun wi hx=> ?_) ?_
   ·intro v4 h4 v8 h8 K hK
    obtain rfl:=h4
    obtain rfl:=h8
    go_simp
    exact hK _ _ ⟨undef,rfl,rfl,Ext.refl _⟩
   refine StepsL.cons (ps:= [(4,some 9)]) rfl (by kernel_rfl) (fun wi hx=> ?_) ?_
   ·intro v4 h4 K hK
    obtain rfl:=h4
    go_simp
    exact hK _ _ ⟨undef,rfl,rfl,Ext.refl _⟩
   refine StepsL.cons (ps:= [(4,some 9),(10,some 15)]) rfl (by kernel_rfl) (fun wi hx=> ?_) ?_
   ·intro v4 h4 v10 h10 K hK
    obtain rfl:=h4
    obtain rfl:=h10
    go_simp
    exact hK _ _ ⟨undef,rfl,rfl,Ext.refl _⟩
   refine StepsL.cons (ps:= [(4,some 9),(9,some 14),(11,some 16)]) rfl (by kernel_rfl) (fun wi hx=> ?_) ?_
   ·intro v4 h4 v9 h9 v11 h11 K hK
    obtain rfl:=h4
    obtain rfl:=h9
    obtain rfl:=h11
    go_simp
    exact hK _ _ ⟨undef,rfl,rfl,Ext.refl _⟩
   refine StepsL.cons (ps:= [(4,some 9),(12,some 17)]) rfl (by kernel_rfl) (fun wi hx=> ?_) ?_
   ·intro v4 h4 v12 h12 K hK
    obtain rfl:=h4
    obtain rfl:=h12
    go_simp
    exact hK _ _ ⟨.bool false,rfl,rfl,Ext.refl _⟩
   refine StepsL.cons (ps:= [(13,some 18)]) rfl (by kernel_rfl) (fun wi hx=> ?_) StepsL.nil
   ·intro v13 h13 K hK
    obtain rfl:=h13
    go_simp
    exact hK _ _ ⟨.bool false,rfl,rfl,Ext.refl _⟩
  case fin=>
   intro wi hx v0 h0 v1 h1 v2 h2 v3 h3 v4 h4 v5 h5 v6 h6 v7 h7 v8 h8 v9 h9 v10 h10 v11 h11 v12 h12 v13 h13 v14 h14
   obtain rfl:=h0
   obtain rfl:=h1
   obtain rfl:=h2
   obtain rfl:=h3
   obtain rfl:=h4
   obtain rfl:=h5
   obtain rfl:=h6
   obtain rfl:=h7
   obtain rfl:=h8
   obtain rfl:=h9
   obtain rfl:=h10
   obtain rfl:=h11
   obtain rfl:=h12
   obtain rfl:=h13
   obtain rfl:=h14
   refine wpAny_done (by kernel_rfl) ?_ _
   try simp only[Act.put,List.setIfInBounds_toArray,List.set_cons_zero,List.set_cons_succ]
   have hx':=hx.of_drew
   go_wp2
   go_ret
   exact⟨by rw[hfin.out];rfl,Ext.trans (by(repeat' (first|exact Ext.refl _|(with_reducible assumption)|(with_reducible refine Ext.alloc ?_ _)|(with_reducible refine Ext.setCell ?_ (by first|exact Nat.le_refl _|(dsimp only;omega)|(simp;done)|(simp;omega)) _)|(with_reducible refine Ext.drew ?_)|(with_reducible refine Ext.drewN ?_ _)|(refine Ext.trans ?_ (by with_reducible assumption))))) hx'⟩
theorem Mem.blkOf1 {w0 w:World}{g:Nat}{t:TypeId}{cs:Array Value}{n c sz:Nat}{e:TypeId}{q:Option Addr}{xs:List Value}{B:Nat}(h:Mem w0 w [ownI B e sz q n c xs])(hb:Blk w g t cs)(hg:w0.heap.size≤g:=by first|exact Nat.le_refl _|simp)(ht:e≠t:=by decide):Mem w0 w [ownI B e sz q n c xs,blkI w0.heap.size g t cs]:=
 ⟨h.ext,fun it hi=>by
   rcases List.mem_cons.1 hi with rfl|hi
   ·exact h.good _ (by simp)
   ·obtain rfl:=List.mem_singleton.1 hi;exact blkI_good _ _ _ _,
  fun it hi=>by
   rcases List.mem_cons.1 hi with rfl|hi
   ·exact h.ok _ (by simp)
   ·obtain rfl:=List.mem_singleton.1 hi;exact⟨hg,hb⟩,
  by
   rw[List.pairwise_cons]
   refine⟨fun b hbm g' hg'=> ?_,by simp⟩
   obtain rfl:=List.mem_singleton.1 hbm
   have ho:=Mem.own (i:=0) h rfl
   intro e2
   have e2:g=g':=e2
   subst e2
   have hg2:(Value.slice q n c).ownBlock=Option.some g:=hg'
   rcases ho.2 with⟨h1,h2⟩|⟨g2,cap',cur,h1,hb',hgg,_⟩
   ·injection h1 with e1;subst e1;simp[Value.ownBlock]at hg2
   ·injection h1 with e1 e2 e3
    subst e1
    simp[Value.ownBlock]at hg2
    subst hg2
    unfold Blk at hb
    rw[hb]at hgg
    injection hgg with e;injection e with e1 e2
    exact ht e2.symm⟩
set_option maxRecDepth 100000 in
set_option maxHeartbeats 8000000 in
theorem l6Fits_any (P:Int)(q:Option Addr)(m c2:Nat)(q2:Option Addr)(m2 d2:Nat)(T:List Visit4)(b0 b1 b2 b3:Int)(w:World)(hm:m≤1000)(hS:Sl w q m c2 4 (T.flatMap visitCells)):
  Calls Tryd.prog 48 #[.agg #[.int .i64 P,.slice q m c2,.slice q2 m2 d2],bookV b0 b1 b2 b3] w fun e w'=>e= .returned (.bool (deskFits P T (b0,b1,b2,b3)))∧Ext w w':=by
 have hl:Hid (T.length=m):=by
  have:=hS.len;rw[flat_len visitCells 4 (fun _=>rfl)]at this;exact(by omega:T.length=m)
 have HS:=Lib.hid hS
 obtain⟨Mx,hMx⟩: ∃M,M=booksMost (T++ [(b0,b1,b2,b3)]):=⟨_,rfl⟩
 have HBM:Hid (∀q' c' w',Sl w' q' (m+1) c' 4 ((T++ [(b0,b1,b2,b3)]).flatMap visitCells)→Calls Tryd.prog 45 #[.slice q' (m+1) c'] w' fun e w''=>e= .returned (.int .i64 Mx)∧Ext w' w''):=fun q' c' w' hs=>by rw[hMx];exact specBm q' (m+1) c' _ w' hs
 have HMX:=Lib.hid hMx
 clear hS hMx
 go_enter Tryd.func48,Tryd.ntmps48
 go_wp2
 refine region_lin (gl [gLit (w.heap.size+1+1) TBk #[] 0,gEq (.pointer (some ⟨w.heap.size,1,none⟩)),gEq (.slice q m c2),(fun v w'=> ∃q c,v= .slice q (m) c∧w'.ownsRow (w.heap.size+1+1) TBk 4 (.slice q (m) c) (m) (T.flatMap visitCells)),gEq (.agg #[.int .i64 b0,.int .i64 b1,.int .i64 b2,.int .i64 b3]),gLit (0) TBk #[.int .i64 b0,.int .i64 b1,.int .i64 b2,.int .i64 b3] 1]) 6 (by kernel_rfl) rfl (by kernel_rfl) (by kernel_rfl) (by kernel_rfl) (gl_mono (gl_cons (gLit_mono _ _ _ _) (gl_cons (gEq_mono _) (gl_cons (gEq_mono _) (gl_cons (fun v w w' ⟨q,c,he,ho⟩ hx=>⟨q,c,he,own_ext ho hx⟩) (gl_cons (gEq_mono _) (gl_cons (gLit_mono _ _ _ _) (gl_nil)))))))) (k:=8) (by kernel_rfl) (by decide) (ls:= [(0,some 6),(1,some 7),(2,some 8),(3,some 9),(4,some 10),(5,some 11)]) (by kernel_rfl) (ir:= [0,1,2,3,4,5]) (by kernel_rfl) ?steps (tl:=#[true,true,true,true,true,true,false,false]) (by kernel_rfl) ?fin
 case steps=>
  refine StepsL.cons (ps:= []) rfl (by kernel_rfl) (fun wi hx=> ?_) ?_
  ·intro K hK
   go_simp
   exact hK _ _ ⟨.slice (some ⟨wi.heap.size,0,none⟩) 0 0,rfl,⟨wi.heap.size,rfl,by have:=hx.sz;simp at this;omega,Blk.new _ _ _⟩,(Ext.refl _).alloc _⟩
  refine StepsL.cons (ps:= []) rfl (by kernel_rfl) (fun wi hx=> ?_) ?_
  ·intro K hK
   go_simp
   exact hK _ _ ⟨.pointer (some ⟨w.heap.size,1,none⟩),rfl,rfl,Ext.refl _⟩
  refine StepsL.cons (ps:= [(1,some 7)]) rfl (by kernel_rfl) (fun wi hx=> ?_) ?_
  ·intro v1 h1 K hK
   obtain rfl:=h1
   have hX:Ext ((w.alloc (.cells #[.int .i64 P,.slice q m c2,.slice q2 m2 d2] 25)).alloc (.cells #[.int .i64 b0,.int .i64 b1,.int .i64 b2,.int .i64 b3] TBk)) wi:=by(repeat' (first|exact Ext.refl _|(with_reducible assumption)|(with_reducible refine Ext.alloc ?_ _)|(with_reducible refine Ext.setCell ?_ (by first|exact Nat.le_refl _|(dsimp only;omega)|(simp;done)|(simp;omega)) _)|(with_reducible refine Ext.drew ?_)|(with_reducible refine Ext.drewN ?_ _)|(refine Ext.trans ?_ (by with_reducible assumption))))
   have cl0:wi.cell? ⟨w.heap.size,1,none⟩=some (.slice q m c2):=(((Blk.new w 25 #[.int .i64 P,.slice q m c2,.slice q2 m2 d2]).alloc (.cells #[.int .i64 b0,.int .i64 b1,.int .i64 b2,.int .i64 b3] TBk)).ext hX).cell 1
   go_simp
   exact hK _ _ ⟨.slice q m c2,rfl,rfl,Ext.refl _⟩
  refine StepsL.cons (ps:= [(0,some 6),(2,some 8)]) rfl (by kernel_rfl) (fun wi hx=> ?_) ?_
  ·intro v0 h0 v2 h2
   obtain⟨g0,rfl,hg0,B0⟩:=h0
   obtain rfl:=h2
   refine step_append_full _ elBk rfl (.tmp 6) (.tmp 8) rfl (w.heap.size+1+1) g0 0 #[] rfl B0 hg0 (by simp) q m c2 (T.flatMap visitCells) rfl (HS.out.ext (Ext.trans (by(repeat' (first|exact Ext.refl _|(with_reducible assumption)|(with_reducible refine Ext.alloc ?_ _)|(with_reducible refine Ext.setCell ?_ (by first|exact Nat.le_refl _|(dsimp only;omega)|(simp;done)|(simp;omega)) _)|(with_reducible refine Ext.drew ?_)|(with_reducible refine Ext.drewN ?_ _)|(refine Ext.trans ?_ (by with_reducible assumption))))) hx.of_drew)) (books_one _) (by omega) (fun p' cap' w' h2=>⟨p',cap',by rw[Nat.zero_add],by simpa using h2⟩)
  refine StepsL.cons (ps:= []) rfl (by kernel_rfl) (fun wi hx=> ?_) ?_
  ·intro K hK
   have hX:Ext ((w.alloc (.cells #[.int .i64 P,.slice q m c2,.slice q2 m2 d2] 25)).alloc (.cells #[.int .i64 b0,.int .i64 b1,.int .i64 b2,.int .i64 b3] TBk)) wi:=by(repeat' (first|exact Ext.refl _|(with_reducible assumption)|(with_reducible refine Ext.alloc ?_ _)|(with_reducible refine Ext.setCell ?_ (by first|exact Nat.le_refl _|(dsimp only;omega)|(simp;done)|(simp;omega)) _)|(with_reducible refine Ext.drew ?_)|(with_reducible refine Ext.drewN ?_ _)|(refine Ext.trans ?_ (by with_reducible assumption))))
   have cl0:wi.cell? ⟨w.heap.size+1,0,none⟩=some (.int .i64 b0):=((show Blk ((w.alloc (.cells #[.int .i64 P,.slice q m c2,.slice q2 m2 d2] 25)).alloc (.cells #[.int .i64 b0,.int .i64 b1,.int .i64 b2,.int .i64 b3] TBk)) (w.heap.size+1) TBk #[.int .i64 b0,.int .i64 b1,.int .i64 b2,.int .i64 b3] by have:=Blk.new (w.alloc (.cells #[.int .i64 P,.slice q m c2,.slice q2 m2 d2] 25)) TBk #[.int .i64 b0,.int .i64 b1,.int .i64 b2,.int .i64 b3];simpa using this).ext hX).cell 0
   have cl1:wi.cell? ⟨w.heap.size+1,1,none⟩=some (.int .i64 b1):=((show Blk ((w.alloc (.cells #[.int .i64 P,.slice q m c2,.slice q2 m2 d2] 25)).alloc (.cells #[.int .i64 b0,.int .i64 b1,.int .i64 b2,.int .i64 b3] TBk)) (w.heap.size+1) TBk #[.int .i64 b0,.int .i64 b1,.int .i64 b2,.int .i64 b3] by have:=Blk.new (w.alloc (.cells #[.int .i64 P,.slice q m c2,.slice q2 m2 d2] 25)) TBk #[.int .i64 b0,.int .i64 b1,.int .i64 b2,.int .i64 b3];simpa using this).ext hX).cell 1
   have cl2:wi.cell? ⟨w.heap.size+1,2,none⟩=some (.int .i64 b2):=((show Blk ((w.alloc (.cells #[.int .i64 P,.slice q m c2,.slice q2 m2 d2] 25)).alloc (.cells #[.int .i64 b0,.int .i64 b1,.int .i64 b2,.int .i64 b3] TBk)) (w.heap.size+1) TBk #[.int .i64 b0,.int .i64 b1,.int .i64 b2,.int .i64 b3] by have:=Blk.new (w.alloc (.cells #[.int .i64 P,.slice q m c2,.slice q2 m2 d2] 25)) TBk #[.int .i64 b0,.int .i64 b1,.int .i64 b2,.int .i64 b3];simpa using this).ext hX).cell 2
   have cl3:wi.cell? ⟨w.heap.size+1,3,none⟩=some (.int .i64 b3):=((show Blk ((w.alloc (.cells #[.int .i64 P,.slice q m c2,.slice q2 m2 d2] 25)).alloc (.cells #[.int .i64 b0,.int .i64 b1,.int .i64 b2,.int .i64 b3] TBk)) (w.heap.size+1) TBk #[.int .i64 b0,.int .i64 b1,.int .i64 b2,.int .i64 b3] by have:=Blk.new (w.alloc (.cells #[.int .i64 P,.slice q m c2,.slice q2 m2 d2] 25)) TBk #[.int .i64 b0,.int .i64 b1,.int .i64 b2,.int .i64 b3];simpa using this).ext hX).cell 3
   go_simp
   exact hK _ _ ⟨.agg #[.int .i64 b0,.int .i64 b1,.int .i64 b2,.int .i64 b3],rfl,rfl,Ext.refl _⟩
  refine StepsL.cons (ps:= [(4,some 10)]) rfl (by kernel_rfl) (fun wi hx=> ?_) StepsL.nil
  ·intro v4 h4 K hK
   obtain rfl:=h4
   go_simp
   exact hK _ _ ⟨.slice (some ⟨wi.heap.size,0,none⟩) 1 1,rfl,⟨wi.heap.size,rfl,Nat.zero_le _,Blk.new _ _ _⟩,(Ext.refl _).alloc _⟩
 case fin=>
  intro wi hx v0 h0 v1 h1 v2 h2 v3 h3 v4 h4 v5 h5
  obtain⟨g0,rfl,hg0,B0⟩:=h0
  obtain rfl:=h1
  obtain rfl:=h2
  obtain⟨q3,c3,rfl,ho3⟩:=h3
  obtain rfl:=h4
  obtain⟨g5,rfl,hg5,B5⟩:=h5
  have hX:Ext ((w.alloc (.cells #[.int .i64 P,.slice q m c2,.slice q2 m2 d2] 25)).alloc (.cells #[.int .i64 b0,.int .i64 b1,.int .i64 b2,.int .i64 b3] TBk)) wi:=hx.of_drew
  have M1:=Lib.hid (((Mem.start w).adv (((Ext.refl _).alloc _).alloc _)).ownOf0 hX ho3)
  have BD1:=Lib.hid (((Blk.new w 25 #[.int .i64 P,.slice q m c2,.slice q2 m2 d2]).alloc (.cells #[.int .i64 b0,.int .i64 b1,.int .i64 b2,.int .i64 b3] TBk)).ext hX)
  have lt1:w.heap.size<wi.heap.size:=BD1.out.lt
  clear hX hx hg5 hg0 B0 ho3
  simp only[Act.put,List.setIfInBounds_toArray,List.set_cons_zero,List.set_cons_succ]
  refine wpAny_ready (rs:= [6]) (by kernel_rfl) (by simp) ?_
  refine AllReady.cons rfl (fun K hK=> ?_) AllReady.nil
  refine step_appM elBk rfl _ _ rfl (M1.out.blkOf1 BD1.out) 0 rfl rfl (visitCells (b0,b1,b2,b3)) rfl (sl_blk1 B5) (book_one _) (by omega) (fun q7 c7 w6 M6=>hK _ _ ?_)
  clear hK K
  have M7:=Lib.hid (show Mem w w6 [ownI w.heap.size TBk 4 (q7) (m+1) (c7) ((T++ [(b0,b1,b2,b3)]).flatMap visitCells),blkI w.heap.size (w.heap.size) 25 #[.int .i64 P,.slice q m c2,.slice q2 m2 d2]]from by rw[List.flatMap_append];simpa using M6)
  clear M6 M1 B5 BD1 lt1
  try simp only[Act.put,List.setIfInBounds_toArray,List.set_cons_zero,List.set_cons_succ]
  refine wpAny_ready (rs:= [7]) (by kernel_rfl) (by simp) ?_
  refine AllReady.cons rfl (fun K hK=> ?_) AllReady.nil
  go_simp
  refine hK _ _ ?_
  clear hK K
  refine wpAny_done (by kernel_rfl) ?_ _
  try simp only[Act.put,List.setIfInBounds_toArray,List.set_cons_zero,List.set_cons_succ]
  have BD:=Lib.hid (M7.out.blk (i:=1) rfl)
  by_cases h7:m<7
  ·have hfin:Hid (deskFits P T (b0,b1,b2,b3)=decide (Mx≤P)):=by
    show _=_
    unfold deskFits
    rw[hl.out,←HMX.out];simp[h7]
   have t1:decide ((m:Int)+1≤7)=true:=by simp;omega
   have t2:(m:Int)+1≤7:=by omega
   go_wp2
   refine region_lin (gl [gEq (.slice q7 (m+1) c7),gEq (.int .i64 ((m:Int)+1)),gEq (.bool true),gEq (.bool true),gEq (.slice q7 (m+1) c7),gEq (.int .i64 Mx),gEq (.pointer (some ⟨w.heap.size,0,none⟩)),gEq (.int .i64 P),gEq (.bool (decide (Mx≤P))),gEq (.bool (decide (Mx≤P))),gEq (.bool (decide (Mx≤P)))]) 11 (by kernel_rfl) rfl (by kernel_rfl) (by kernel_rfl) (by kernel_rfl) (gl_mono (gl_cons (gEq_mono _) (gl_cons (gEq_mono _) (gl_cons (gEq_mono _) (gl_cons (gEq_mono _) (gl_cons (gEq_mono _) (gl_cons (gEq_mono _) (gl_cons (gEq_mono _) (gl_cons (gEq_mono _) (gl_cons (gEq_mono _) (gl_cons (gEq_mono _) (gl_cons (gEq_mono _) (gl_nil))))))))))))) (k:=11) (by kernel_rfl) (by decide) (ls:= [(0,some 13),(1,some 14),(2,some 15),(3,some 16),(4,some 17),(5,some 18),(6,some 19),(7,some 20),(8,some 21),(9,some 22),(10,some 4)]) (by kernel_rfl) (ir:= [0,1,2,3,4,5,6,7,8,9,10]) (by kernel_rfl) ?steps (tl:=#[true,true,true,true,true,true,true,true,true,true,true]) (by kernel_rfl) ?fin
   case steps=>
    refine StepsL.cons (ps:= []) rfl (by kernel_rfl) (fun wi hx=> ?_) ?_
    ·intro K hK
     go_simp
     exact hK _ _ ⟨.slice q7 (m+1) c7,rfl,rfl,Ext.refl _⟩
    refine StepsL.cons (ps:= [(0,some 13)]) rfl (by kernel_rfl) (fun wi hx=> ?_) ?_
    ·intro v0 h0 K hK
     obtain rfl:=h0
     go_simp
     exact hK _ _ ⟨.int .i64 ((m:Int)+1),rfl,rfl,Ext.refl _⟩
    refine StepsL.cons (ps:= [(1,some 14)]) rfl (by kernel_rfl) (fun wi hx=> ?_) ?_
    ·intro v1 h1 K hK
     obtain rfl:=h1
     go_simp
     exact hK _ _ ⟨.bool true,rfl,rfl,Ext.refl _⟩
    refine StepsL.cons (ps:= [(2,some 15)]) rfl (by kernel_rfl) (fun wi hx=> ?_) ?_
    ·intro v2 h2 K hK
     obtain rfl:=h2
     go_simp
     exact hK _ _ ⟨.bool true,rfl,rfl,Ext.refl _⟩
    refine StepsL.cons (ps:= [(3,some 16)]) rfl (by kernel_rfl) (fun wi hx=> ?_) ?_
    ·intro v3 h3 K hK
     obtain rfl:=h3
     go_simp
     exact hK _ _ ⟨.slice q7 (m+1) c7,rfl,rfl,Ext.refl _⟩
    refine StepsL.cons (ps:= [(3,some 16),(4,some 17)]) rfl (by kernel_rfl) (fun wi hx=> ?_) ?_
    ·intro v3 h3 v4 h4 K hK
     obtain rfl:=h3
     obtain rfl:=h4
     go_simp
     refine(HBM.out q7 c7 wi ((M7.out.sl (i:=0) rfl).ext hx.of_drew)).mono ?_
     rintro e w5 ⟨rfl,hx5⟩
     go_simp
     exact hK _ _ ⟨.int .i64 Mx,rfl,rfl,hx5⟩
    refine StepsL.cons (ps:= [(3,some 16)]) rfl (by kernel_rfl) (fun wi hx=> ?_) ?_
    ·intro v3 h3 K hK
     obtain rfl:=h3
     go_simp
     exact hK _ _ ⟨.pointer (some ⟨w.heap.size,0,none⟩),rfl,rfl,Ext.refl _⟩
    refine StepsL.cons (ps:= [(3,some 16),(6,some 19)]) rfl (by kernel_rfl) (fun wi hx=> ?_) ?_
    ·intro v3 h3 v6 h6 K hK
     obtain rfl:=h3
     obtain rfl:=h6
     have hX:Ext w6 wi:=by(repeat' (first|exact Ext.refl _|(with_reducible assumption)|(with_reducible refine Ext.alloc ?_ _)|(with_reducible refine Ext.setCell ?_ (by first|exact Nat.le_refl _|(dsimp only;omega)|(simp;done)|(simp;omega)) _)|(with_reducible refine Ext.drew ?_)|(with_reducible refine Ext.drewN ?_ _)|(refine Ext.trans ?_ (by with_reducible assumption))))
     have cl0:wi.cell? ⟨w.heap.size,0,none⟩=some (.int .i64 P):=(BD.out.ext hX).cell 0
     go_simp
     exact hK _ _ ⟨.int .i64 P,rfl,rfl,Ext.refl _⟩
    refine StepsL.cons (ps:= [(3,some 16),(5,some 18),(7,some 20)]) rfl (by kernel_rfl) (fun wi hx=> ?_) ?_
    ·intro v3 h3 v5 h5 v7 h7 K hK
     obtain rfl:=h3
     obtain rfl:=h5
     obtain rfl:=h7
     go_simp
     exact hK _ _ ⟨.bool (decide (Mx≤P)),rfl,rfl,Ext.refl _⟩
    refine StepsL.cons (ps:= [(3,some 16),(8,some 21)]) rfl (by kernel_rfl) (fun wi hx=> ?_) ?_
    ·intro v3 h3 v8 h8 K hK
     obtain rfl:=h3
     obtain rfl:=h8
     go_simp
     exact hK _ _ ⟨.bool (decide (Mx≤P)),rfl,rfl,Ext.refl _⟩
    refine StepsL.cons (ps:= [(9,some 22)]) rfl (by kernel_rfl) (fun wi hx=> ?_) StepsL.nil
    ·intro v9 h9 K hK
     obtain rfl:=h9
     go_simp
     exact hK _ _ ⟨.bool (decide (Mx≤P)),rfl,rfl,Ext.refl _⟩
   case fin=>
    intro wi hx v0 h0 v1 h1 v2 h2 v3 h3 v4 h4 v5 h5 v6 h6 v7 h7 v8 h8 v9 h9 v10 h10
    obtain rfl:=h0
    obtain rfl:=h1
    obtain rfl:=h2
    obtain rfl:=h3
    obtain rfl:=h4
    obtain rfl:=h5
    obtain rfl:=h6
    obtain rfl:=h7
    obtain rfl:=h8
    obtain rfl:=h9
    obtain rfl:=h10
    refine wpAny_done (by kernel_rfl) ?_ _
    try simp only[Act.put,List.setIfInBounds_toArray,List.set_cons_zero,List.set_cons_succ]
    have hx':=hx.of_drew
    go_wp2
    go_ret
    exact⟨by rw[hfin.out];rfl,M7.out.ext.trans hx'⟩
  ·have hfin:Hid (deskFits P T (b0,b1,b2,b3)=false):=by
    show _=_
    unfold deskFits
    rw[hl.out];simp[h7]
   have t1:decide ((m:Int)+1≤7)=false:=by simp;omega
   go_wp2
   refine region_lin (gl [gEq (.slice q7 (m+1) c7),gEq (.int .i64 ((m:Int)+1)),gEq (.bool false),gEq (.bool false),gEq (undef),gEq (undef),gEq (undef),gEq (undef),gEq (undef),gEq (.bool false),gEq (.bool false)]) 11 (by kernel_rfl) rfl (by kernel_rfl) (by kernel_rfl) (by kernel_rfl) (gl_mono (gl_cons (gEq_mono _) (gl_cons (gEq_mono _) (gl_cons (gEq_mono _) (gl_cons (gEq_mono _) (gl_cons (gEq_mono _) (gl_cons (gEq_mono _) (gl_cons (gEq_mono _) (gl_cons (gEq_mono _) (gl_cons (gEq_mono _) (gl_cons (gEq_mono _) (gl_cons (gEq_mono _) (gl_nil))))))))))))) (k:=11) (by kernel_rfl) (by decide) (ls:= [(0,some 13),(1,some 14),(2,some 15),(3,some 16),(4,some 17),(5,some 18),(6,some 19),(7,some 20),(8,some 21),(9,some 22),(10,some 4)]) (by kernel_rfl) (ir:= [0,1,2,3,4,5,6,7,8,9,10]) (by kernel_rfl) ?steps (tl:=#[true,true,true,true,true,true,true,true,true,true,true]) (by kernel_rfl) ?fin
   case steps=>
    refine StepsL.cons (ps:= []) rfl (by kernel_rfl) (fun wi hx=> ?_) ?_
    ·intro K hK
     go_simp
     exact hK _ _ ⟨.slice q7 (m+1) c7,rfl,rfl,Ext.refl _⟩
    refine StepsL.cons (ps:= [(0,some 13)]) rfl (by kernel_rfl) (fun wi hx=> ?_) ?_
    ·intro v0 h0 K hK
     obtain rfl:=h0
     go_simp
     exact hK _ _ ⟨.int .i64 ((m:Int)+1),rfl,rfl,Ext.refl _⟩
    refine StepsL.cons (ps:= [(1,some 14)]) rfl (by kernel_rfl) (fun wi hx=> ?_) ?_
    ·intro v1 h1 K hK
     obtain rfl:=h1
     go_simp
     exact hK _ _ ⟨.bool false,rfl,rfl,Ext.refl _⟩
    refine StepsL.cons (ps:= [(2,some 15)]) rfl (by kernel_rfl) (fun wi hx=> ?_) ?_
    ·intro v2 h2 K hK
     obtain rfl:=h2
     go_simp
     exact hK _ _ ⟨.bool false,rfl,rfl,Ext.refl _⟩
    refine StepsL.cons (ps:= [(3,some 16)]) rfl (by kernel_rfl) (fun wi hx=> ?_) ?_
    ·intro v3 h3 K hK
     obtain rfl:=h3
     go_simp
     exact hK _ _ ⟨undef,rfl,rfl,Ext.refl _⟩
    refine StepsL.cons (ps:= [(3,some 16),(4,some 17)]) rfl (by kernel_rfl) (fun wi hx=> ?_) ?_
    ·intro v3 h3 v4 h4 K hK
     obtain rfl:=h3
     obtain rfl:=h4
     go_simp
     exact hK _ _ ⟨undef,rfl,rfl,Ext.refl _⟩
    refine StepsL.cons (ps:= [(3,some 16)]) rfl (by kernel_rfl) (fun wi hx=> ?_) ?_
    ·intro v3 h3 K hK
     obtain rfl:=h3
     go_simp
     exact hK _ _ ⟨undef,rfl,rfl,Ext.refl _⟩
    refine StepsL.cons (ps:= [(3,some 16),(6,some 19)]) rfl (by kernel_rfl) (fun wi hx=> ?_) ?_
    ·intro v3 h3 v6 h6 K hK
     obtain rfl:=h3
     obtain rfl:=h6
     go_simp
     exact hK _ _ ⟨undef,rfl,rfl,Ext.refl _⟩
    refine StepsL.cons (ps:= [(3,some 16),(5,some 18),(7,some 20)]) rfl (by kernel_rfl) (fun wi hx=> ?_) ?_
    ·intro v3 h3 v5 h5 v7 h7 K hK
     obtain rfl:=h3
     obtain rfl:=h5
     obtain rfl:=h7
     go_simp
     exact hK _ _ ⟨undef,rfl,rfl,Ext.refl _⟩
    refine StepsL.cons (ps:= [(3,some 16),(8,some 21)]) rfl (by kernel_rfl) (fun wi hx=> ?_) ?_
    ·intro v3 h3 v8 h8 K hK
     obtain rfl:=h3
     obtain rfl:=h8
     go_simp
     exact hK _ _ ⟨.bool false,rfl,rfl,Ext.refl _⟩
    refine StepsL.cons (ps:= [(9,some 22)]) rfl (by kernel_rfl) (fun wi hx=> ?_) StepsL.nil
    ·intro v9 h9 K hK
     obtain rfl:=h9
     go_simp
     exact hK _ _ ⟨.bool false,rfl,rfl,Ext.refl _⟩
   case fin=>
    intro wi hx v0 h0 v1 h1 v2 h2 v3 h3 v4 h4 v5 h5 v6 h6 v7 h7 v8 h8 v9 h9 v10 h10
    obtain rfl:=h0
    obtain rfl:=h1
    obtain rfl:=h2
    obtain rfl:=h3
    obtain rfl:=h4
    obtain rfl:=h5
    obtain rfl:=h6
    obtain rfl:=h7
    obtain rfl:=h8
    obtain rfl:=h9
    obtain rfl:=h10
    refine wpAny_done (by kernel_rfl) ?_ _
    try simp only[Act.put,List.setIfInBounds_toArray,List.set_cons_zero,List.set_cons_succ]
    have hx':=hx.of_drew
    go_wp2
    go_ret
    exact⟨by rw[hfin.out];rfl,M7.out.ext.trans hx'⟩
end Go.Proofs.YtndcnflchkfaeaaDoor

