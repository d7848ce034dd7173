/-
  Texts of this proof, packed (@packed).
-/
import Derived.Test.YteejdnmmpmcmeaaGreatDoorK23
import Derived.Test.YteejdnmmpmcmeaaGreatDoorK24
import Derived.Test.YteejdnmmpmcmeaaGreatDoorK25
import Derived.Test.YteejdnmmpmcmeaaGreatDoorK26
import Derived.Test.YteejdnmmpmcmeaaGreatDoorK27
namespace Go.Proofs.YteejdnmmpmcmeaaGreatDoor
open Go.RowKit
set_option linter.unusedVariables false
set_option linter.unusedSimpArgs false
def RetDo (h:HouseD)(r:Option (HouseD×Int))(w:World)(e:Ending)(w':World):Prop:=
 match r with
 |none=> ∃p cap q c2,e= .returned (.tuple #[houseV h p h.cells.length cap q h.vs.length c2,.int .i64 (-1),.bool false])∧w'.ownsRow w.heap.size TI 1 (.slice p h.cells.length cap) h.cells.length (ivs h.cells)∧w'.ownsRow w.heap.size TV 4 (.slice q h.vs.length c2) h.vs.length (h.vs.flatMap visitCells)∧Ext w w'
 |some (h',n)=> ∃p cap q c2,e= .returned (.tuple #[houseV h' p h'.cells.length cap q h'.vs.length c2,.int .i64 n,.bool true])∧w'.ownsRow w.heap.size TI 1 (.slice p h'.cells.length cap) h'.cells.length (ivs h'.cells)∧w'.ownsRow w.heap.size TV 4 (.slice q h'.vs.length c2) h'.vs.length (h'.vs.flatMap visitCells)∧Ext w w'
theorem house_small {h:HouseD}(hok:houseOk h=true):h.cells.length≤12∧h.vs.length≤12∧4≤h.cells.length:=by
 obtain⟨q1,q2,q3,q4,q5⟩:=(house_iff h).1 hok
 have hb:=shape_bd (hall_shape q1)
 have:=congrArg List.length q4
 rw[carsOf_len,List.length_map]at this
 have:=posOfL_le h.cells
 omega
theorem specHouseDo_bad (h:HouseD)(k a b:Int)(p:Option Addr)(n cap:Nat)(q:Option Addr)(m c2:Nat)(w:World)(hi:IsHouse w h p n cap q m c2)(hok:houseOk h=false):
  Calls Tryz.prog 116 #[houseV h p n cap q m c2,deedV k a b] w fun e w'=>e= .returned (.tuple #[.agg #[.int .i64 0,.int .i64 0,.slice none 0 0,.int .i64 0,.int .i64 0,.int .i64 0,.int .i64 0,.int .i64 0,.int .i64 0,.slice none 0 0],.int .i64 (-1),.bool false])∧Ext w w':=
 specDo_bad h.wide h.deep h.free h.step h.price h.capp h.clock h.bank k a b p n cap q m c2 h.cells h.vs w (Lib.hid fun w' hx=>by have:=specHouse h p n cap q m c2 w' (hi.ext hx);rwa[hok]at this)
theorem specHouseDo (h:HouseD)(k a b:Int)(p:Option Addr)(n cap:Nat)(q:Option Addr)(m c2:Nat)(w:World)(hi:IsHouse w h p n cap q m c2)(hok:houseOk h=true):
  Calls Tryz.prog 116 #[houseV h p n cap q m c2,deedV k a b] w (RetDo h (houseDo h k a b) w):=by
 obtain⟨q1,q2,q3,q4,q5⟩:=(house_iff h).1 hok
 have hsm:=house_small hok
 have hl:=hi.clen
 have hvl:=hi.vlen
 have hS:=hi.cells
 have hV:=hi.vs
 subst hl hvl
 have HVd:=Lib.hid fun(w':World) (hx:Ext w w')=>(by have:=specHouse h p _ cap q _ c2 w' (hi.ext hx);rwa[hok]at this:Calls Tryz.prog 17 #[houseV h p h.cells.length cap q h.vs.length c2] w' fun e w''=>e= .returned (.bool true)∧Ext w' w'')
 have HL:=Lib.hid fun(w':World) (hx:Ext w w')=>l7Copy_any h p _ cap q _ c2 w' (by omega) (by omega) (hi.ext hx)
 unfold RetHouse at HL
 by_cases k0:k=0
 ·subst k0
  have HP:=Lib.hid fun(w':World) (hx:Ext w w')=>storeDo_any h.wide h.deep a p _ cap h.cells w' (hS.ext hx) q1
  have e0:houseDo h 0 a b=(if 0≤(storeI h.wide h.deep h.cells a).2 then some ({h with cells:=(storeI h.wide h.deep h.cells a).1,vs:=putV (a,h.clock,0,h.clock) h.vs},(storeI h.wide h.deep h.cells a).2)else none):=by unfold houseDo;rw[if_pos rfl]
  have el:(storeI h.wide h.deep h.cells a).1.length=h.cells.length:=by
   by_cases h0:0≤(storeI h.wide h.deep h.cells a).2
   ·obtain⟨zs,s1,_,_,s4,_⟩:=storeI_yes q1 h0
    rw[s4,List.length_set,s1.length_eq]
   ·unfold storeI at h0⊢
    split at h0
    ·rfl
    ·dsimp only at h0;omega
  unfold RetHallI at HP
  rw[el]at HP
  rw[e0]
  by_cases h0:0≤(storeI h.wide h.deep h.cells a).2
  ·rw[if_pos h0]
   have HQ:=Lib.hid fun(w':World) (hx:Ext w w')=>l7Put_any a h.clock 0 h.clock q _ c2 h.vs w' (by omega) (hV.ext hx)
   refine(specDo_store_yes h.wide h.deep h.free h.step h.price h.capp h.clock h.bank (storeI h.wide h.deep h.cells a).2 a b p _ cap q _ c2 h.cells (storeI h.wide h.deep h.cells a).1 h.vs (putV (a,h.clock,0,h.clock) h.vs) w h0 HVd HL HP HQ).mono ?_
   rintro e w' ⟨p',cap',q',c2',rfl,o1,o2,hx⟩
   refine⟨p',cap',q',c2',?_,?_,?_,hx⟩
   ·simp[houseV,el,putV_len]
   ·dsimp only;rw[el];exact o1
   ·dsimp only;rw[putV_len];exact o2
  ·rw[if_neg h0]
   exact specDo_store_no h.wide h.deep h.free h.step h.price h.capp h.clock h.bank (storeI h.wide h.deep h.cells a).2 a b p _ cap q _ c2 h.cells (storeI h.wide h.deep h.cells a).1 h.vs w (by omega) HVd HL HP
 by_cases k1:k=1
 ·subst k1
  have HP:=Lib.hid fun(w':World) (hx:Ext w w')=>l7Pay_any h a b p _ cap q _ c2 w' (by omega) (by omega) (hi.ext hx) q2 (fun v hv=>(visit_iff _ _).1 (q5 v hv)) q3.2.1 q3.2.2.1 q3.2.2.2
  have e0:houseDo h 1 a b=payH h a b:=by unfold houseDo;rw[if_neg (by omega),if_pos rfl]
  rw[e0]
  cases hp:payH h a b with
  |none=>
   rw[hp]at HP
   exact specDo_pay_no h.wide h.deep h.free h.step h.price h.capp h.clock h.bank a b p _ cap q _ c2 h.cells h.vs w HVd HL HP
  |some r=>
   obtain⟨h',bk⟩:=r
   rw[hp]at HP
   have hd:=houseDo_ok hok (e0.trans hp)
   have hv:h'.vs.length=h.vs.length∧h'.cells=h.cells∧h'.clock=h.clock:=by
    unfold payH at hp
    split at hp
    ·cases hp
    ·split at hp
     ·injection hp with hp
      simp only[Prod.mk.injEq]at hp
      obtain⟨rfl,_⟩:=hp
      exact⟨by simp,rfl,rfl⟩
     ·cases hp
   obtain⟨t1,t2,t3,t4,t5,t6,t7,t8,t9⟩:=hd
   obtain⟨v1,v2,v3⟩:=hv
   obtain⟨hw,hde,hc,hf,hs,hpr,hca,hcl,hba,hvs⟩:=h'
   dsimp only at t4 t5 t6 t7 t8 t9 v1 v2 v3
   subst t4 t5 t6 t7 t8 t9 v2 v3
   unfold RetPay at HP
   dsimp only at HP
   rw[v1]at HP
   refine(specDo_pay_yes h.wide h.deep h.free h.step h.price h.capp h.clock h.bank hba bk a b p _ cap q _ c2 h.cells h.vs hvs w t2.1 HVd HL HP).mono ?_
   rintro e w' ⟨p',cap',q',c2',rfl,o1,o2,hx⟩
   refine⟨p',cap',q',c2',?_,o1,?_,hx⟩
   ·simp[houseV,v1]
   ·dsimp only;rw[v1];exact o2
 by_cases k2:k=2
 ·subst k2
  have HP:=Lib.hid fun(w':World) (hx:Ext w w')=>fetchDo_any h.wide h.deep a p _ cap h.cells w' (hS.ext hx) q1
  have HF:=Lib.hid fun(w':World) (hx:Ext w w')=>l7Find_any h.wide h.deep h.free h.step h.price h.capp h.clock h.bank a p h.cells.length cap q _ c2 h.vs w' (hV.ext hx)
  have HM:=Lib.hid fun(w':World) (hx:Ext w w')=>specHouseMay h a p _ cap q _ c2 w' (hi.ext hx)
  have e0:houseDo h 2 a b=(if houseMay h a=true∧0≤(fetchI h.wide h.deep h.cells a).2 then some ({h with cells:=(fetchI h.wide h.deep h.cells a).1,vs:=h.vs.eraseIdx (vix a h.vs).toNat},(fetchI h.wide h.deep h.cells a).2)else none):=by unfold houseDo;rw[if_neg (by omega),if_neg (by omega),if_pos rfl]
  have el:(fetchI h.wide h.deep h.cells a).1.length=h.cells.length:=by
   by_cases h0:0≤(fetchI h.wide h.deep h.cells a).2
   ·obtain⟨zs,s1,_,_,s4,_⟩:=fetchI_yes q1 h0
    rw[s4,List.length_set,s1.length_eq]
   ·unfold fetchI at h0⊢
    split at h0
    ·rfl
    ·dsimp only at h0;omega
  unfold RetHallI at HP
  rw[el]at HP
  rw[e0]
  by_cases h0:houseMay h a=true∧0≤(fetchI h.wide h.deep h.cells a).2
  ·rw[if_pos h0]
   have hv: ∃v,visitAt a h.vs=some v:=by
    have:=h0.1
    unfold houseMay houseStay at this
    rw[if_pos hok]at this
    cases hv:visitAt a h.vs with
    |none=>rw[hv]at this;simp at this
    |some v=>exact⟨v,rfl⟩
   obtain⟨v,hv⟩:=hv
   obtain⟨v1,v2,v3,v4,v5,v6⟩:=visitAt_any hv
   generalize hk:(vix a h.vs).toNat=kk at*
   rw[v5]at HF
   rw[h0.1]at HM
   obtain⟨bb,off,rfl,hbb,_⟩:=hV.rd (by omega)
   have ee:h.vs.eraseIdx kk=h.vs.take kk++h.vs.drop (kk+1):=List.eraseIdx_eq_take_drop_succ _ _
   have eln:(h.vs.eraseIdx kk).length=h.vs.length-1:=by rw[List.length_eraseIdx,if_pos v4]
   by_cases hcc:kk+1<c2
   ·refine(specDo_fetch_yes h.wide h.deep h.free h.step h.price h.capp h.clock h.bank (fetchI h.wide h.deep h.cells a).2 a b p _ cap bb off _ c2 kk h.cells (fetchI h.wide h.deep h.cells a).1 h.vs w h0.2 v4 (by omega) hcc (Lib.hid hV) HVd HL HP HF HM).mono ?_
    rintro e w' ⟨p',cap',q',c2',rfl,o1,o2,hx⟩
    refine⟨p',cap',q',c2',?_,?_,?_,hx⟩
    ·simp only[houseV,el,eln]
    ·dsimp only;rw[el];exact o1
    ·dsimp only;rw[eln,ee];exact o2
   ·have hle:=hV.le
    have e1:c2=kk+1:=by omega
    have e2:h.vs.length=kk+1:=by omega
    subst e1
    rw[e2]at hV HVd HL HF HM eln⊢
    refine(specDo_fetch_last h.wide h.deep h.free h.step h.price h.capp h.clock h.bank (fetchI h.wide h.deep h.cells a).2 a b p _ cap bb off kk h.cells (fetchI h.wide h.deep h.cells a).1 h.vs w h0.2 (by omega) (Lib.hid (List.drop_eq_nil_of_le (by omega))) (Lib.hid hV) HVd HL HP HF HM).mono ?_
    rintro e w' ⟨p',cap',q',c2',rfl,o1,o2,hx⟩
    refine⟨p',cap',q',c2',?_,?_,?_,hx⟩
    ·simp[houseV,el,eln]
    ·dsimp only;rw[el];exact o1
    ·dsimp only;rw[eln,ee,Nat.add_sub_cancel];exact o2
  ·rw[if_neg h0]
   exact specDo_fetch_no h.wide h.deep h.free h.step h.price h.capp h.clock h.bank (fetchI h.wide h.deep h.cells a).2 (vix a h.vs) a b p _ cap q _ c2 h.cells (fetchI h.wide h.deep h.cells a).1 h.vs w (houseMay h a) (fun e=>by
    by_cases hx:0≤(fetchI h.wide h.deep h.cells a).2
    ·exact absurd ⟨e,hx⟩ h0
    ·omega) HVd HL HP HF HM
 by_cases k3:k=3
 ·subst k3
  have e0:houseDo h 3 a b=(if 1≤a∧a≤9999-h.clock then some ({h with clock:=h.clock+a},h.clock+a)else none):=by unfold houseDo;rw[if_neg (by omega),if_neg (by omega),if_neg (by omega),if_pos rfl]
  rw[e0]
  by_cases h0:1≤a∧a≤9999-h.clock
  ·rw[if_pos h0]
   exact specDo_wait_yes h.wide h.deep h.free h.step h.price h.capp h.clock h.bank a b p _ cap q _ c2 h.cells h.vs w q3.1 q3.2.1 h0.1 h0.2 HVd HL (Lib.hid fun w'=>l1In_yes a 1 (9999-h.clock) w' h0.1 h0.2)
  ·rw[if_neg h0]
   exact specDo_wait_no h.wide h.deep h.free h.step h.price h.capp h.clock h.bank a b p _ cap q _ c2 h.cells h.vs w q3.1 q3.2.1 HVd HL (Lib.hid fun w'=>l1In_no a 1 (9999-h.clock) w' (by omega))
 by_cases k4:k=4
 ·subst k4
  have HP:=Lib.hid fun(w':World) (hx:Ext w w')=>slideDo_any h.wide h.deep a b p _ cap h.cells w' (hS.ext hx) q1
  have e0:houseDo h 4 a b=(if slideMay h.wide h.deep h.cells a b=true then some ({h with cells:=slideDo h.wide h.deep h.cells a b},0)else none):=by unfold houseDo;rw[if_neg (by omega),if_neg (by omega),if_neg (by omega),if_neg (by omega),if_pos rfl]
  unfold RetHallOk at HP
  rw[slideDo_len]at HP
  rw[e0]
  cases hm:slideMay h.wide h.deep h.cells a b with
  |true=>
   rw[hm]at HP
   rw[if_pos rfl]
   refine(specDo_slide_yes h.wide h.deep h.free h.step h.price h.capp h.clock h.bank a b p _ cap q _ c2 h.cells (slideDo h.wide h.deep h.cells a b) h.vs w HVd HL HP).mono ?_
   rintro e w' ⟨p',cap',q',c2',rfl,o1,o2,hx⟩
   refine⟨p',cap',q',c2',?_,?_,o2,hx⟩
   ·simp only[houseV,slideDo_len]
   ·dsimp only;rw[slideDo_len];exact o1
  |false=>
   rw[hm]at HP
   rw[if_neg (by simp)]
   exact specDo_slide_no h.wide h.deep h.free h.step h.price h.capp h.clock h.bank a b p _ cap q _ c2 h.cells (slideDo h.wide h.deep h.cells a b) h.vs w HVd HL HP
 have e0:houseDo h k a b=none:=by unfold houseDo;rw[if_neg k0,if_neg k1,if_neg k2,if_neg k3,if_neg k4]
 rw[e0]
 exact specDo_other h.wide h.deep h.free h.step h.price h.capp h.clock h.bank k a b p _ cap q _ c2 h.cells h.vs w k0 k1 k2 k3 k4 HVd HL
end Go.Proofs.YteejdnmmpmcmeaaGreatDoor

