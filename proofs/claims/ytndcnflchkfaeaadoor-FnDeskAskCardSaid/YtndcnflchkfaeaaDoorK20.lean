/-
  Texts of this proof, packed (@packed).
-/
import Derived.Test.YtndcnflchkfaeaaDoorK10
import Derived.Test.YtndcnflchkfaeaaDoorK15
import Derived.Test.YtndcnflchkfaeaaDoorK16
import Derived.Test.YtndcnflchkfaeaaDoorK17
import Derived.Test.YtndcnflchkfaeaaDoorK19
namespace Go.Proofs.YtndcnflchkfaeaaDoor
open Go.RowKit
set_option linter.unusedVariables false
set_option linter.unusedSimpArgs false
theorem idxOf_none {id:Int}{bs:List Visit4}(h:noBook id bs=true):idxOf id bs=none:=by
 unfold idxOf
 rw[List.findIdx?_eq_none_iff]
 intro x hx
 have:=noBook_iff.1 h x hx
 simpa using fun e=>this e.symm
def RetFree (D:DeskD×List Int)(w:World)(e:Ending)(w':World):Prop:=
 ∃qa na ca qb nb cb qc nc cc,e= .returned (.tuple #[.agg #[.int .i64 D.1.places,.slice qa na ca,.slice qb nb cb],.slice qc nc cc])∧na=D.1.taken.length∧nb=D.1.row.length∧nc=D.2.length∧Mem w w' [ownI w.heap.size TBk 4 (qa) (na) (ca) (D.1.taken.flatMap visitCells),ownI w.heap.size TBk 4 (qb) (nb) (cb) (D.1.row.flatMap visitCells),ownI w.heap.size TI 1 (qc) (nc) (cc) (ivs D.2)]
theorem implFree (P:Int)(q:Option Addr)(m c2:Nat)(q2:Option Addr)(m2 d2:Nat)(id:Int)(T R:List Visit4)(w:World)(hS:Sl w q m c2 4 (T.flatMap visitCells))(hS2:Sl w q2 m2 d2 4 (R.flatMap visitCells)):
  Calls Tryd.prog 20 #[.agg #[.int .i64 P,.slice q m c2,.slice q2 m2 d2],.int .i64 id] w (RetFree (deskFree ⟨P,T,R⟩ id) w):=by
 have hl:T.length=m:=by
  have:=hS.len;rw[flat_len visitCells 4 (fun _=>rfl)]at this;omega
 have hl2:R.length=m2:=by
  have:=hS2.len;rw[flat_len visitCells 4 (fun _=>rfl)]at this;omega
 cases hv:deskValid ⟨P,T,R⟩with
 |false=>
  have hf:deskFree ⟨P,T,R⟩ id=(⟨0,[],[]⟩,[]):=by unfold deskFree;rw[if_neg (by rw[hv];decide)]
  rw[hf]
  refine(implDf_bad P q m c2 q2 m2 d2 id T R w (Lib.hid (fun w' hx=>by have h:=implDv P q m c2 q2 m2 d2 T R w' (hS.ext hx) (hS2.ext hx);rw[hv]at h;exact h))).mono ?_
  rintro e w' ⟨rfl,hx⟩
  exact⟨none,0,0,none,0,0,none,0,0,rfl,rfl,rfl,rfl,((((Mem.start w).adv hx).call (Ext.refl _) (World.ownsRow_nil _ _ TI 1)).call (Ext.refl _) (World.ownsRow_nil _ _ TBk 4)).call (Ext.refl _) (World.ownsRow_nil _ _ TBk 4)⟩
 |true=>
  have hlen:=desk_len hv
  have hlT:T.length≤7:=hlen.1
  have hlR:R.length≤5:=hlen.2
  have HV:Hid (∀w',Ext w w'→Calls Tryd.prog 10 #[.agg #[.int .i64 P,.slice q m c2,.slice q2 m2 d2]] w' fun e w''=>e= .returned (.bool true)∧Ext w' w''):=Lib.hid (fun w' hx=>by have h:=implDv P q m c2 q2 m2 d2 T R w' (hS.ext hx) (hS2.ext hx);rw[hv]at h;exact h)
  have HC:Hid (∀w',Ext w w'→Calls Tryd.prog 53 #[.agg #[.int .i64 P,.slice q m c2,.slice q2 m2 d2]] w' fun e w''=> ∃q5 c5 q6 c6,e= .returned (.agg #[.int .i64 P,.slice q5 m c5,.slice q6 m2 c6])∧Mem w' w'' [ownI w'.heap.size TBk 4 (q5) (m) (c5) (T.flatMap visitCells),ownI w'.heap.size TBk 4 (q6) (m2) (c6) (R.flatMap visitCells)]):=Lib.hid (fun w' hx=>copyDesk_o P q m c2 q2 m2 d2 T R w' (Lib.hid (fun w2 hy=>clone_any q m c2 _ w2 (by omega) (hS.ext (hx.trans hy)) (books_one _))) (Lib.hid (fun w2 hy=>clone_any q2 m2 d2 _ w2 (by omega) (hS2.ext (hx.trans hy)) (books_one _))))
  cases hr:noBook id R with
  |false=>
   obtain⟨k,hk,hvk,hik⟩:=vix_pos hr
   have hf:deskFree ⟨P,T,R⟩ id=(⟨P,T,R.eraseIdx k⟩,[]):=by unfold deskFree;rw[if_pos hv];simp only[hik]
   rw[hf]
   have HF2:Hid (∀w',Ext w w'→Calls Tryd.prog 42 #[.slice q2 m2 d2,.int .i64 id] w' fun e w''=>e= .returned (.int .i64 (k:Int))∧Ext w' w''):=Lib.hid (fun w' hx=>by have h:=bookIndex_any id q2 m2 d2 R w' (hS2.ext hx);rw[hvk]at h;exact h)
   ·refine(implDf_row P q m c2 q2 m2 d2 id T R w k (by omega) (by omega) HV HC HF2).mono ?_
    rintro e w' ⟨qa,ca,qb,cb,qc,cc,rfl,hM⟩
    exact⟨qa,m,ca,qb,m2-1,cb,qc,0,cc,rfl,hl.symm,by show _=(R.eraseIdx k).length;have h:=List.length_eraseIdx_of_lt hk;omega,rfl,hM⟩
  |true=>
   have hn:=vix_neg hr
   have HF2:Hid (∀w',Ext w w'→Calls Tryd.prog 42 #[.slice q2 m2 d2,.int .i64 id] w' fun e w''=>e= .returned (.int .i64 (-1))∧Ext w' w''):=Lib.hid (fun w' hx=>by have h:=bookIndex_any id q2 m2 d2 R w' (hS2.ext hx);rw[hn]at h;exact h)
   cases ht:noBook id T with
   |true=>
    have hn1:=vix_neg ht
    have hf:deskFree ⟨P,T,R⟩ id=(⟨P,T,R⟩,[]):=by unfold deskFree;rw[if_pos hv];simp only[idxOf_none hr,idxOf_none ht]
    rw[hf]
    have HF1:Hid (∀w',Ext w w'→Calls Tryd.prog 42 #[.slice q m c2,.int .i64 id] w' fun e w''=>e= .returned (.int .i64 (-1))∧Ext w' w''):=Lib.hid (fun w' hx=>by have h:=bookIndex_any id q m c2 T w' (hS.ext hx);rw[hn1]at h;exact h)
    refine(implDf_no P q m c2 q2 m2 d2 id T R w HV HC HF2 HF1).mono ?_
    rintro e w' ⟨qa,ca,qb,cb,qc,cc,rfl,hM⟩
    exact⟨qa,m,ca,qb,m2,cb,qc,0,cc,rfl,hl.symm,hl2.symm,rfl,hM⟩
   |false=>
    obtain⟨k,hk,hvk,hik⟩:=vix_pos ht
    have hf:deskFree ⟨P,T,R⟩ id=(⟨P,(freeRun P (T.eraseIdx k) R).1,(freeRun P (T.eraseIdx k) R).2.1⟩,(freeRun P (T.eraseIdx k) R).2.2):=by unfold deskFree;rw[if_pos hv];simp only[idxOf_none hr,hik]
    rw[hf]
    have HF1:Hid (∀w',Ext w w'→Calls Tryd.prog 42 #[.slice q m c2,.int .i64 id] w' fun e w''=>e= .returned (.int .i64 (k:Int))∧Ext w' w''):=Lib.hid (fun w' hx=>by have h:=bookIndex_any id q m c2 T w' (hS.ext hx);rw[hvk]at h;exact h)
    ·refine(implDf_taken P q m c2 q2 m2 d2 id T R w k (by omega) (by omega) (by omega) (Lib.hid hl) (Lib.hid hl2) (Lib.hid hS2) (Lib.hid (freeAt_inv (desk_iff.1 hv) k)) HV HC HF2 HF1).mono ?_
     rintro e w' ⟨qa,na,ca,qb,nb,cb,qc,nc,cc,rfl,h1,h2,h3,hM⟩
     exact⟨qa,na,ca,qb,nb,cb,qc,nc,cc,rfl,h1,h2,h3,hM⟩
theorem specFree (P:Int)(q:Option Addr)(m c2:Nat)(q2:Option Addr)(m2 d2:Nat)(id:Int)(T R:List Visit4)(w:World)(hS:Sl w q m c2 4 (T.flatMap visitCells))(hS2:Sl w q2 m2 d2 4 (R.flatMap visitCells)):
  Calls Tryd.prog 21 #[.agg #[.int .i64 P,.slice q m c2,.slice q2 m2 d2],.int .i64 id] w (RetFree (deskFree ⟨P,T,R⟩ id) w):=by
 have hl:T.length=m:=by
  have:=hS.len;rw[flat_len visitCells 4 (fun _=>rfl)]at this;omega
 have hl2:R.length=m2:=by
  have:=hS2.len;rw[flat_len visitCells 4 (fun _=>rfl)]at this;omega
 cases hv:deskValid ⟨P,T,R⟩with
 |false=>
  have hf:deskFree ⟨P,T,R⟩ id=(⟨0,[],[]⟩,[]):=by unfold deskFree;rw[if_neg (by rw[hv];decide)]
  rw[hf]
  refine(specDf_bad P q m c2 q2 m2 d2 id T R w (Lib.hid (fun w' hx=>by have h:=specDv P q m c2 q2 m2 d2 T R w' (hS.ext hx) (hS2.ext hx);rw[hv]at h;exact h))).mono ?_
  rintro e w' ⟨qc,cc,rfl,hM⟩
  exact⟨none,0,0,none,0,0,qc,0,cc,rfl,rfl,rfl,rfl,(hM.call (Ext.refl _) (World.ownsRow_nil _ _ TBk 4)).call (Ext.refl _) (World.ownsRow_nil _ _ TBk 4)⟩
 |true=>
  have hlen:=desk_len hv
  have hlT:T.length≤7:=hlen.1
  have hlR:R.length≤5:=hlen.2
  have HV:Hid (∀w',Ext w w'→Calls Tryd.prog 11 #[.agg #[.int .i64 P,.slice q m c2,.slice q2 m2 d2]] w' fun e w''=>e= .returned (.bool true)∧Ext w' w''):=Lib.hid (fun w' hx=>by have h:=specDv P q m c2 q2 m2 d2 T R w' (hS.ext hx) (hS2.ext hx);rw[hv]at h;exact h)
  have HC:Hid (∀w',Ext w w'→Calls Tryd.prog 55 #[.agg #[.int .i64 P,.slice q m c2,.slice q2 m2 d2]] w' fun e w''=> ∃q5 c5 q6 c6,e= .returned (.agg #[.int .i64 P,.slice q5 m c5,.slice q6 m2 c6])∧Mem w' w'' [ownI w'.heap.size TBk 4 (q5) (m) (c5) (T.flatMap visitCells),ownI w'.heap.size TBk 4 (q6) (m2) (c6) (R.flatMap visitCells)]):=Lib.hid (fun w' hx=>l6Copy_o P q m c2 q2 m2 d2 T R w' (by omega) (by omega) (Lib.hid (hS.ext hx)) (Lib.hid (hS2.ext hx)))
  cases hr:noBook id R with
  |false=>
   obtain⟨k,hk,hvk,hik⟩:=vix_pos hr
   have hf:deskFree ⟨P,T,R⟩ id=(⟨P,T,R.eraseIdx k⟩,[]):=by unfold deskFree;rw[if_pos hv];simp only[hik]
   rw[hf]
   have HF2:Hid (∀w',Ext w w'→Calls Tryd.prog 47 #[.slice q2 m2 d2,.int .i64 id] w' fun e w''=>e= .returned (.int .i64 (k:Int))∧Ext w' w''):=Lib.hid (fun w' hx=>by have h:=l6Find_any id q2 m2 d2 R w' (hS2.ext hx);rw[hvk]at h;exact h)
   ·obtain⟨b,off,rfl,_,_⟩:=hS2.rd (by omega)
    have hle:=hS2.le
    have hmx:=hS2.mx
    by_cases hc:k+1<d2
    ·refine(specDf_row P q m c2 b off m2 d2 id T R w k (by omega) (by omega) hc hle hmx (Lib.hid hl2) (Lib.hid hS2) HV HC HF2).mono ?_
     rintro e w' ⟨qa,ca,qb,cb,qc,cc,rfl,hM⟩
     exact⟨qa,m,ca,qb,m2-1,cb,qc,0,cc,rfl,hl.symm,by show _=(R.eraseIdx k).length;have h:=List.length_eraseIdx_of_lt hk;omega,rfl,hM⟩
    ·obtain rfl:d2=k+1:=by omega
     obtain rfl:m2=k+1:=by omega
     refine(specDf_row_end P q m c2 b off k id T R w (by omega) (by omega) (Lib.hid hl2) (Lib.hid hS2) HV HC HF2).mono ?_
     rintro e w' ⟨qa,ca,qb,cb,qc,cc,rfl,hM⟩
     exact⟨qa,m,ca,qb,k,cb,qc,0,cc,rfl,hl.symm,by show _=(R.eraseIdx k).length;have h:=List.length_eraseIdx_of_lt hk;omega,rfl,hM⟩
  |true=>
   have hn:=vix_neg hr
   have HF2:Hid (∀w',Ext w w'→Calls Tryd.prog 47 #[.slice q2 m2 d2,.int .i64 id] w' fun e w''=>e= .returned (.int .i64 (-1))∧Ext w' w''):=Lib.hid (fun w' hx=>by have h:=l6Find_any id q2 m2 d2 R w' (hS2.ext hx);rw[hn]at h;exact h)
   cases ht:noBook id T with
   |true=>
    have hn1:=vix_neg ht
    have hf:deskFree ⟨P,T,R⟩ id=(⟨P,T,R⟩,[]):=by unfold deskFree;rw[if_pos hv];simp only[idxOf_none hr,idxOf_none ht]
    rw[hf]
    have HF1:Hid (∀w',Ext w w'→Calls Tryd.prog 47 #[.slice q m c2,.int .i64 id] w' fun e w''=>e= .returned (.int .i64 (-1))∧Ext w' w''):=Lib.hid (fun w' hx=>by have h:=l6Find_any id q m c2 T w' (hS.ext hx);rw[hn1]at h;exact h)
    refine(specDf_no P q m c2 q2 m2 d2 id T R w HV HC HF2 HF1).mono ?_
    rintro e w' ⟨qa,ca,qb,cb,qc,cc,rfl,hM⟩
    exact⟨qa,m,ca,qb,m2,cb,qc,0,cc,rfl,hl.symm,hl2.symm,rfl,hM⟩
   |false=>
    obtain⟨k,hk,hvk,hik⟩:=vix_pos ht
    have hf:deskFree ⟨P,T,R⟩ id=(⟨P,(freeRun P (T.eraseIdx k) R).1,(freeRun P (T.eraseIdx k) R).2.1⟩,(freeRun P (T.eraseIdx k) R).2.2):=by unfold deskFree;rw[if_pos hv];simp only[idxOf_none hr,hik]
    rw[hf]
    have HF1:Hid (∀w',Ext w w'→Calls Tryd.prog 47 #[.slice q m c2,.int .i64 id] w' fun e w''=>e= .returned (.int .i64 (k:Int))∧Ext w' w''):=Lib.hid (fun w' hx=>by have h:=l6Find_any id q m c2 T w' (hS.ext hx);rw[hvk]at h;exact h)
    ·obtain⟨b,off,rfl,_,_⟩:=hS.rd (by omega)
     have hle:=hS.le
     have hmx:=hS.mx
     by_cases hc:k+1<c2
     ·refine(specDf_taken P b off m c2 q2 m2 d2 id T R w k (by omega) (by omega) (by omega) hc hle hmx (Lib.hid hl) (Lib.hid hl2) (Lib.hid hS) (Lib.hid hS2) (Lib.hid (freeAt_inv (desk_iff.1 hv) k)) HV HC HF2 HF1).mono ?_
      rintro e w' ⟨qa,na,ca,qb,nb,cb,qc,nc,cc,rfl,h1,h2,h3,hM⟩
      exact⟨qa,na,ca,qb,nb,cb,qc,nc,cc,rfl,h1,h2,h3,hM⟩
     ·obtain rfl:c2=k+1:=by omega
      obtain rfl:m=k+1:=by omega
      refine(specDf_taken_end P b off k q2 m2 d2 id T R w (by omega) (by omega) (by omega) (Lib.hid hl) (Lib.hid hl2) (Lib.hid hS) (Lib.hid hS2) (Lib.hid (freeAt_inv (desk_iff.1 hv) k)) HV HC HF2 HF1).mono ?_
      rintro e w' ⟨qa,na,ca,qb,nb,cb,qc,nc,cc,rfl,h1,h2,h3,hM⟩
      exact⟨qa,na,ca,qb,nb,cb,qc,nc,cc,rfl,h1,h2,h3,hM⟩
end Go.Proofs.YtndcnflchkfaeaaDoor

namespace Go.Proofs.YtndcnflchkfaeaaDoor
open Go.RowKit
set_option linter.unusedVariables false
set_option linter.unusedSimpArgs false
theorem Mem.call3 {w0 w w':World}{L:List Item}{e e2 e3:TypeId}{sz sz2 sz3 n c n2 c2 n3 c3:Nat}{q q2 q3:Option Addr}{xs ys zs:List Value}(h:Mem w0 w L)(hc:Mem w w' [ownI w.heap.size e sz q n c xs,ownI w.heap.size e2 sz2 q2 n2 c2 ys,ownI w.heap.size e3 sz3 q3 n3 c3 zs]):
  Mem w0 w' (ownI w0.heap.size e sz q n c xs::ownI w0.heap.size e2 sz2 q2 n2 c2 ys::ownI w0.heap.size e3 sz3 q3 n3 c3 zs::L):=by
 have hsz:=h.ext.sz
 have ho1:=Mem.own (i:=0) hc rfl
 have ho2:=Mem.own (i:=1) hc rfl
 have ho3:=Mem.own (i:=2) hc rfl
 have h3:=h.ownNew hc.ext ho3 (Nat.le_refl _)
 have hap:=List.pairwise_cons.1 hc.apart
 have hap2:=List.pairwise_cons.1 hap.2
 have h2:Mem w0 w' (ownI w0.heap.size e2 sz2 q2 n2 c2 ys::ownI w0.heap.size e3 sz3 q3 n3 c3 zs::L):=by
  refine h3.cons (ownI_good _ _ _ _ _ _ _) (own_low ho2 hsz) ?_
  intro g hg j hj hjg
  rcases List.mem_cons.1 hj with rfl|hj
  ·exact hap2.1 (ownI w.heap.size e3 sz3 q3 n3 c3 zs) (by simp) g hg hjg
  ·have h4:=(h.good j hj).lt w (h.ok j hj) g hjg
   have h5:=ho2.lt g hg
   omega
 refine h2.cons (ownI_good _ _ _ _ _ _ _) (own_low ho1 hsz) ?_
 intro g hg j hj hjg
 rcases List.mem_cons.1 hj with rfl|hj
 ·exact hap.1 (ownI w.heap.size e2 sz2 q2 n2 c2 ys) (by simp) g hg hjg
 ·rcases List.mem_cons.1 hj with rfl|hj
  ·exact hap.1 (ownI w.heap.size e3 sz3 q3 n3 c3 zs) (by simp) g hg hjg
  ·have h4:=(h.good j hj).lt w (h.ok j hj) g hjg
   have h5:=ho1.lt g hg
   omega
def runAt (d:DeskD)(bs:List Visit4)(k:Nat):DeskD:=(bs.take k).foldl runStep d
theorem runAt_zero (d:DeskD)(bs:List Visit4):runAt d bs 0=d:=by simp[runAt]
theorem runAt_succ {d:DeskD}{bs:List Visit4}{k:Nat}{b:Visit4}(h:bs[k]? =some b):runAt d bs (k+1)=runStep (runAt d bs k) b:=by
 unfold runAt
 rw[take_snocL h,List.foldl_append,List.foldl_cons,List.foldl_nil]
theorem runAt_end (d:DeskD)(bs:List Visit4){k:Nat}(h:bs.length≤k):runAt d bs k=bs.foldl runStep d:=by unfold runAt;rw[List.take_of_length_le h]
def RetRun (D:DeskD)(w:World)(e:Ending)(w':World):Prop:=
 ∃qa na ca qb nb cb,e= .returned (.agg #[.int .i64 D.places,.slice qa na ca,.slice qb nb cb])∧na=D.taken.length∧nb=D.row.length∧Mem w w' [ownI w.heap.size TBk 4 (qa) (na) (ca) (D.taken.flatMap visitCells),ownI w.heap.size TBk 4 (qb) (nb) (cb) (D.row.flatMap visitCells)]
set_option maxRecDepth 100000 in
set_option maxHeartbeats 8000000 in
theorem implDr_bad (P:Int)(q:Option Addr)(m c2:Nat)(q2:Option Addr)(m2 d2:Nat)(q3:Option Addr)(n3 c3:Nat)(T R bs:List Visit4)(w:World)(HV:Hid (∀w',Ext w w'→Calls Tryd.prog 10 #[.agg #[.int .i64 P,.slice q m c2,.slice q2 m2 d2]] w' fun e w''=>e= .returned (.bool false)∧Ext w' w'')):
  Calls Tryd.prog 35 #[.agg #[.int .i64 P,.slice q m c2,.slice q2 m2 d2],.slice q3 n3 c3] w fun e w'=>e= .returned (.agg #[.int .i64 0,.slice none 0 0,.slice none 0 0])∧Ext w w':=by
 go_enter Tryd.func35,Tryd.ntmps35
 go_wp2_with fail
 refine(HV.out _ (((((Mem.start w).blkNew TDk #[.int .i64 P,.slice q m c2,.slice q2 m2 d2] (w.heap.size) (by simp))).blkNew TDk #[.int .i64 0,.slice none 0 0,.slice none 0 0] (w.heap.size+1) (by simp))).ext).mono ?_
 rintro e w1 ⟨rfl,hx1⟩
 have M1:=Lib.hid ((((((Mem.start w).blkNew TDk #[.int .i64 P,.slice q m c2,.slice q2 m2 d2] (w.heap.size) (by simp))).blkNew TDk #[.int .i64 0,.slice none 0 0,.slice none 0 0] (w.heap.size+1) (by simp))).adv hx1)
 have lt1_0:w.heap.size+1<w1.heap.size:=(M1.out.lt (i:=0) rfl rfl).2
 have lt1_1:w.heap.size<w1.heap.size:=(M1.out.lt (i:=1) rfl rfl).2
 clear hx1
 clear HV
 obtain⟨cz0,czf0,cz1,czf1,cz2,czf2⟩:=(M1.out.blk (i:=0) rfl).trif
 go_wp2
 clear cz0 czf0 cz1 czf1 cz2 czf2 lt1_0 lt1_1
 have M2:=Lib.hid (((M1.out).put3 (i:=0) rfl (.int .i64 0) (.slice none 0 0) (.slice none 0 0)))
 generalize hwz:World.setCell _ _ _=wz
 rw[hwz]at M2
 clear hwz M1
 obtain⟨y0,y1,y2⟩:=(M2.out.blk (i:=0) rfl).tri
 exact bodyPost_ret (v:= .agg #[.int .i64 0,.slice none 0 0,.slice none 0 0]) (by simp[results,Tryd.results35,go_sem, *]) rfl ⟨rfl,M2.out.ext⟩
set_option maxRecDepth 100000 in
set_option maxHeartbeats 8000000 in
theorem implDr_ok (P:Int)(q:Option Addr)(m c2:Nat)(q2:Option Addr)(m2 d2:Nat)(q3:Option Addr)(n3 c3:Nat)(T R bs:List Visit4)(w:World)(hl:Hid (T.length=m))(hl2:Hid (R.length=m2))(hl3:Hid (bs.length=n3))(hn3:n3≤1099511627776)(HB:Hid (Sl w q3 n3 c3 4 (bs.flatMap visitCells)))
  (HV:Hid (∀w',Ext w w'→Calls Tryd.prog 10 #[.agg #[.int .i64 P,.slice q m c2,.slice q2 m2 d2]] w' fun e w''=>e= .returned (.bool true)∧Ext w' w''))
  (HC:Hid (∀w',Ext w w'→Calls Tryd.prog 53 #[.agg #[.int .i64 P,.slice q m c2,.slice q2 m2 d2]] w' fun e w''=> ∃q5 c5 q6 c6,e= .returned (.agg #[.int .i64 P,.slice q5 m c5,.slice q6 m2 c6])∧Mem w' w'' [ownI w'.heap.size TBk 4 (q5) (m) (c5) (T.flatMap visitCells),ownI w'.heap.size TBk 4 (q6) (m2) (c6) (R.flatMap visitCells)])):
  Calls Tryd.prog 35 #[.agg #[.int .i64 P,.slice q m c2,.slice q2 m2 d2],.slice q3 n3 c3] w (RetRun (bs.foldl runStep ⟨P,T,R⟩) w):=by
 unfold RetRun
 go_enter Tryd.func35,Tryd.ntmps35
 go_wp2_with fail
 refine(HV.out _ (((((Mem.start w).blkNew TDk #[.int .i64 P,.slice q m c2,.slice q2 m2 d2] (w.heap.size) (by simp))).blkNew TDk #[.int .i64 0,.slice none 0 0,.slice none 0 0] (w.heap.size+1) (by simp))).ext).mono ?_
 rintro e w1 ⟨rfl,hx1⟩
 have M1:=Lib.hid ((((((Mem.start w).blkNew TDk #[.int .i64 P,.slice q m c2,.slice q2 m2 d2] (w.heap.size) (by simp))).blkNew TDk #[.int .i64 0,.slice none 0 0,.slice none 0 0] (w.heap.size+1) (by simp))).adv hx1)
 have lt1_0:w.heap.size+1<w1.heap.size:=(M1.out.lt (i:=0) rfl rfl).2
 have lt1_1:w.heap.size<w1.heap.size:=(M1.out.lt (i:=1) rfl rfl).2
 clear hx1
 clear HV
 obtain⟨ca0,ca1,ca2⟩:=(M1.out.blk (i:=1) rfl).tri
 go_wp2_with fail
 clear ca0 ca1 ca2
 refine(HC.out _ (M1.out).ext).mono ?_
 rintro e w2 ⟨q5,c5,q6,c6,rfl,hm2⟩
 have M2:=Lib.hid ((M1.out).call2 hm2)
 clear M1
 clear lt1_0 lt1_1
 have lt2_2:w.heap.size+1<w2.heap.size:=(M2.out.lt (i:=2) rfl rfl).2
 have lt2_3:w.heap.size<w2.heap.size:=(M2.out.lt (i:=3) rfl rfl).2
 clear hm2
 clear HC
 go_wp2
 have MS:=Lib.hid (show Mem w (w2.alloc (.cells #[.int .i64 P,.slice q5 m c5,.slice q6 m2 c6] TDk)) [ownI w.heap.size TBk 4 (q5) (m) (c5) ((runAt ⟨P,T,R⟩ bs 0).taken.flatMap visitCells),ownI w.heap.size TBk 4 (q6) (m2) (c6) ((runAt ⟨P,T,R⟩ bs 0).row.flatMap visitCells),blkI w.heap.size (w2.heap.size) TDk #[.int .i64 (runAt ⟨P,T,R⟩ bs 0).places,.slice q5 m c5,.slice q6 m2 c6],blkI w.heap.size (w.heap.size+1) TDk #[.int .i64 0,.slice none 0 0,.slice none 0 0],blkI w.heap.size (w.heap.size) TDk #[.int .i64 P,.slice q m c2,.slice q2 m2 d2]]from by
  rw[runAt_zero]
  exact(((M2.out).blkNew TDk #[.int .i64 P,.slice q5 m c5,.slice q6 m2 c6] (w2.heap.size) (by simp))).pick [1,2,0,3,4] (by decide) rfl)
 clear M2 lt2_2 lt2_3
 generalize w2.heap.size=a at MS
 go_loopw [16] (fun x wr=> ∃(k:Nat) (q7:Option Addr) (l7 c7:Nat) (q8:Option Addr) (l8 c8:Nat),k≤n3∧x= .int .i64 (k:Int)∧l7=(runAt ⟨P,T,R⟩ bs k).taken.length∧l8=(runAt ⟨P,T,R⟩ bs k).row.length∧Mem w wr [ownI w.heap.size TBk 4 (q7) (l7) (c7) ((runAt ⟨P,T,R⟩ bs k).taken.flatMap visitCells),ownI w.heap.size TBk 4 (q8) (l8) (c8) ((runAt ⟨P,T,R⟩ bs k).row.flatMap visitCells),blkI w.heap.size (a) TDk #[.int .i64 (runAt ⟨P,T,R⟩ bs k).places,.slice q7 l7 c7,.slice q8 l8 c8],blkI w.heap.size (w.heap.size+1) TDk #[.int .i64 0,.slice none 0 0,.slice none 0 0],blkI w.heap.size (w.heap.size) TDk #[.int .i64 P,.slice q m c2,.slice q2 m2 d2]]) (fun x _=>n3-(intOf x).toNat)
 case atStart=>exact⟨0,q5,m,c5,q6,m2,c6,Nat.zero_le _,rfl,by rw[runAt_zero];exact hl.out.symm,by rw[runAt_zero];exact hl2.out.symm,MS.out⟩
 case round=>
  clear MS
  obtain⟨k,q7,l7,c7,q8,l8,c8,hk,rfl,hl7,hl8,hM⟩:=hrel
  have HM:=Lib.hid hM
  have HL7:=Lib.hid hl7
  have HL8:=Lib.hid hl8
  clear hM hl7 hl8
  by_cases hlt:k<n3
  ·obtain⟨b,off,x0,x1,x2,x3,rfl,hv,hb,g0,g1,g2,g3⟩:=visit_at (HB.out.ext HM.out.ext) hlt
   have hst:=Lib.hid (runAt_succ (d:=⟨P,T,R⟩) hv)
   clear hv
   have i1:(0:Int)≤(k:Int):=by omega
   have i2:(k:Int)<(n3:Int):=by omega
   by_cases hx2:0<x2
   ·have lt20_2:a<wr.heap.size:=(HM.out.lt (i:=2) rfl rfl).2
    have lt20_3:w.heap.size+1<wr.heap.size:=(HM.out.lt (i:=3) rfl rfl).2
    have lt20_4:w.heap.size<wr.heap.size:=(HM.out.lt (i:=4) rfl rfl).2
    obtain⟨ca0,ca1,ca2⟩:=(HM.out.blk (i:=2) rfl).tri
    have hd:decide (0<x2)=true:=by simp;omega
    have hs3:Hid ((runAt ⟨P,T,R⟩ bs (k+1))=(deskAsk ⟨(runAt ⟨P,T,R⟩ bs k).places,(runAt ⟨P,T,R⟩ bs k).taken,(runAt ⟨P,T,R⟩ bs k).row⟩ (x0,x1,x2,x3)).1):=by show _=_;rw[hst.out];unfold runStep;rw[if_pos hx2]
    clear hst hx2
    go_wp2_with fail
    clear ca0 ca1 ca2 g0 g1 g2 g3 hb hd
    refine(implAsk (runAt ⟨P,T,R⟩ bs k).places q7 l7 c7 q8 l8 c8 x0 x1 x2 x3 (runAt ⟨P,T,R⟩ bs k).taken (runAt ⟨P,T,R⟩ bs k).row _ ((((HM.out).blkNew TBk #[.int .i64 x0,.int .i64 x1,.int .i64 x2,.int .i64 x3] (wr.heap.size) (by simp))).sl (i:=1) rfl) ((((HM.out).blkNew TBk #[.int .i64 x0,.int .i64 x1,.int .i64 x2,.int .i64 x3] (wr.heap.size) (by simp))).sl (i:=2) rfl)).mono ?_
    rintro e w21 ⟨qa,na,ka,qb,nb,kb,rfl,hna,hnb,hm21⟩
    have M21:=Lib.hid ((((HM.out).blkNew TBk #[.int .i64 x0,.int .i64 x1,.int .i64 x2,.int .i64 x3] (wr.heap.size) (by simp))).call2 hm21)
    clear HM
    clear lt20_2 lt20_3 lt20_4
    have lt21_2:wr.heap.size<w21.heap.size:=(M21.out.lt (i:=2) rfl rfl).2
    have lt21_5:a<w21.heap.size:=(M21.out.lt (i:=5) rfl rfl).2
    have lt21_6:w.heap.size+1<w21.heap.size:=(M21.out.lt (i:=6) rfl rfl).2
    have lt21_7:w.heap.size<w21.heap.size:=(M21.out.lt (i:=7) rfl rfl).2
    have HNA:=Lib.hid hna
    have HNB:=Lib.hid hnb
    clear hm21 hna hnb
    obtain⟨ca0,caf0,ca1,caf1,ca2,caf2⟩:=(M21.out.blk (i:=5) rfl).trif
    go_wp2
    clear ca0 caf0 ca1 caf1 ca2 caf2 lt21_2 lt21_5 lt21_6 lt21_7
    have M22:=Lib.hid (((M21.out).put3 (i:=5) rfl (.int .i64 (deskAsk ⟨(runAt ⟨P,T,R⟩ bs k).places,(runAt ⟨P,T,R⟩ bs k).taken,(runAt ⟨P,T,R⟩ bs k).row⟩ (x0,x1,x2,x3)).1.places) (.slice qa na ka) (.slice qb nb kb)))
    generalize hwz:World.setCell _ _ _=wz
    rw[hwz]at M22
    clear hwz M21
    have MZ:=Lib.hid (show Mem w wz [ownI w.heap.size TBk 4 (qa) (na) (ka) ((runAt ⟨P,T,R⟩ bs (k+1)).taken.flatMap visitCells),ownI w.heap.size TBk 4 (qb) (nb) (kb) ((runAt ⟨P,T,R⟩ bs (k+1)).row.flatMap visitCells),blkI w.heap.size (a) TDk #[.int .i64 (runAt ⟨P,T,R⟩ bs (k+1)).places,.slice qa na ka,.slice qb nb kb],blkI w.heap.size (w.heap.size+1) TDk #[.int .i64 0,.slice none 0 0,.slice none 0 0],blkI w.heap.size (w.heap.size) TDk #[.int .i64 P,.slice q m c2,.slice q2 m2 d2]]from by rw[hs3.out];exact M22.out.pick [0,1,5,6,7] (by decide) rfl)
    go_roundw
    case rel=>exact⟨k+1,qa,na,ka,qb,nb,kb,by omega,by go_num,by rw[hs3.out];exact HNA.out,by rw[hs3.out];exact HNB.out,MZ.out⟩
    case measure=>simp[intOf];omega
   ·have lt20_2:a<wr.heap.size:=(HM.out.lt (i:=2) rfl rfl).2
    have lt20_3:w.heap.size+1<wr.heap.size:=(HM.out.lt (i:=3) rfl rfl).2
    have lt20_4:w.heap.size<wr.heap.size:=(HM.out.lt (i:=4) rfl rfl).2
    obtain⟨ca0,ca1,ca2⟩:=(HM.out.blk (i:=2) rfl).tri
    have hd:decide (0<x2)=false:=by simp;omega
    have hs3:Hid ((runAt ⟨P,T,R⟩ bs (k+1))=(deskFree ⟨(runAt ⟨P,T,R⟩ bs k).places,(runAt ⟨P,T,R⟩ bs k).taken,(runAt ⟨P,T,R⟩ bs k).row⟩ x0).1):=by show _=_;rw[hst.out];unfold runStep;rw[if_neg hx2]
    clear hst hx2
    go_wp2_with fail
    clear ca0 ca1 ca2 g0 g1 g2 g3 hb hd
    refine(implFree (runAt ⟨P,T,R⟩ bs k).places q7 l7 c7 q8 l8 c8 x0 (runAt ⟨P,T,R⟩ bs k).taken (runAt ⟨P,T,R⟩ bs k).row _ ((((HM.out).blkNew TBk #[.int .i64 x0,.int .i64 x1,.int .i64 x2,.int .i64 x3] (wr.heap.size) (by simp))).sl (i:=1) rfl) ((((HM.out).blkNew TBk #[.int .i64 x0,.int .i64 x1,.int .i64 x2,.int .i64 x3] (wr.heap.size) (by simp))).sl (i:=2) rfl)).mono ?_
    rintro e w21 ⟨qa,na,ka,qb,nb,kb,qc,nc,kc,rfl,hna,hnb,hnc,hm21⟩
    have M21:=Lib.hid ((((HM.out).blkNew TBk #[.int .i64 x0,.int .i64 x1,.int .i64 x2,.int .i64 x3] (wr.heap.size) (by simp))).call3 hm21)
    clear HM
    clear lt20_2 lt20_3 lt20_4
    have lt21_3:wr.heap.size<w21.heap.size:=(M21.out.lt (i:=3) rfl rfl).2
    have lt21_6:a<w21.heap.size:=(M21.out.lt (i:=6) rfl rfl).2
    have lt21_7:w.heap.size+1<w21.heap.size:=(M21.out.lt (i:=7) rfl rfl).2
    have lt21_8:w.heap.size<w21.heap.size:=(M21.out.lt (i:=8) rfl rfl).2
    have HNA:=Lib.hid hna
    have HNB:=Lib.hid hnb
    clear hm21 hna hnb
    obtain⟨ca0,caf0,ca1,caf1,ca2,caf2⟩:=(M21.out.blk (i:=6) rfl).trif
    go_wp2
    clear ca0 caf0 ca1 caf1 ca2 caf2 lt21_3 lt21_6 lt21_7 lt21_8
    have M22:=Lib.hid (((M21.out).put3 (i:=6) rfl (.int .i64 (deskFree ⟨(runAt ⟨P,T,R⟩ bs k).places,(runAt ⟨P,T,R⟩ bs k).taken,(runAt ⟨P,T,R⟩ bs k).row⟩ x0).1.places) (.slice qa na ka) (.slice qb nb kb)))
    generalize hwz:World.setCell _ _ _=wz
    rw[hwz]at M22
    clear hwz M21
    have MZ:=Lib.hid (show Mem w wz [ownI w.heap.size TBk 4 (qa) (na) (ka) ((runAt ⟨P,T,R⟩ bs (k+1)).taken.flatMap visitCells),ownI w.heap.size TBk 4 (qb) (nb) (kb) ((runAt ⟨P,T,R⟩ bs (k+1)).row.flatMap visitCells),blkI w.heap.size (a) TDk #[.int .i64 (runAt ⟨P,T,R⟩ bs (k+1)).places,.slice qa na ka,.slice qb nb kb],blkI w.heap.size (w.heap.size+1) TDk #[.int .i64 0,.slice none 0 0,.slice none 0 0],blkI w.heap.size (w.heap.size) TDk #[.int .i64 P,.slice q m c2,.slice q2 m2 d2]]from by rw[hs3.out];exact M22.out.pick [0,1,6,7,8] (by decide) rfl)
    go_roundw
    case rel=>exact⟨k+1,qa,na,ka,qb,nb,kb,by omega,by go_num,by rw[hs3.out];exact HNA.out,by rw[hs3.out];exact HNB.out,MZ.out⟩
    case measure=>simp[intOf];omega
  ·obtain rfl:k=n3:=by omega
   have lt20_2:a<wr.heap.size:=(HM.out.lt (i:=2) rfl rfl).2
   have lt20_3:w.heap.size+1<wr.heap.size:=(HM.out.lt (i:=3) rfl rfl).2
   have lt20_4:w.heap.size<wr.heap.size:=(HM.out.lt (i:=4) rfl rfl).2
   obtain⟨ca0,ca1,ca2⟩:=(HM.out.blk (i:=2) rfl).tri
   obtain⟨cz0,czf0,cz1,czf1,cz2,czf2⟩:=(HM.out.blk (i:=3) rfl).trif
   have ne0_1a: ¬(a=w.heap.size+1):=HM.out.ne (i:=2) (j:=3) (by omega) rfl rfl rfl rfl
   have ne0_1b: ¬(w.heap.size+1=a):=fun h=>ne0_1a h.symm
   have hfin:=Lib.hid (runAt_end ⟨P,T,R⟩ bs (k:=k) (by rw[hl3.out];exact Nat.le_refl _))
   go_wp2
   clear ca0 ca1 ca2 cz0 czf0 cz1 czf1 cz2 czf2 ne0_1a ne0_1b lt20_2 lt20_3 lt20_4
   have M21:=Lib.hid (((HM.out).put3 (i:=3) rfl (.int .i64 (runAt ⟨P,T,R⟩ bs k).places) (.slice q7 l7 c7) (.slice q8 l8 c8)))
   generalize hwz:World.setCell _ _ _=wz
   rw[hwz]at M21
   clear hwz HM
   obtain⟨y0,y1,y2⟩:=(M21.out.blk (i:=3) rfl).tri
   exact bodyPost_ret (v:= .agg #[.int .i64 (runAt ⟨P,T,R⟩ bs k).places,.slice q7 l7 c7,.slice q8 l8 c8]) (by simp[results,Tryd.results35,go_sem, *]) rfl (by rw[←hfin.out];exact⟨q7,l7,c7,q8,l8,c8,rfl,HL7.out,HL8.out,M21.out.pick [0,1] (by decide) rfl⟩)
end Go.Proofs.YtndcnflchkfaeaaDoor

