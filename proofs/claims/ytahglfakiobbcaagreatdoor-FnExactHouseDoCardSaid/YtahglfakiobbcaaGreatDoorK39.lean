/-
  Texts of this proof, packed (@packed).
-/
import Derived.Test.YtahglfakiobbcaaGreatDoorK1
import Derived.Test.YtahglfakiobbcaaGreatDoorK22
import Derived.Test.YtahglfakiobbcaaGreatDoorK35
import Derived.Test.YtahglfakiobbcaaGreatDoorK36
import Derived.Test.YtahglfakiobbcaaGreatDoorK37
import Derived.Test.YtahglfakiobbcaaGreatDoorK38
namespace Go.Proofs.YtahglfakiobbcaaGreatDoor
open Go.RowKit
set_option linter.unusedVariables false
set_option linter.unusedSimpArgs false
def aAw (h:bJ)(r:Option (bJ×Int))(w:World)(e:Ending)(w':World):Prop:=
 match r with
 |none=> ∃p cap q c2,e= .returned (.tuple #[cC h p h.cells.length cap q h.vs.length c2,.int .i64 (-1),.bool false])∧w'.ownsRow w.heap.size TI 1 (.slice p h.cells.length cap) h.cells.length (ivs h.cells)∧w'.ownsRow w.heap.size TV 4 (.slice q h.vs.length c2) h.vs.length (h.vs.flatMap aC)∧Ext w w'
 |some (h',n)=> ∃p cap q c2,e= .returned (.tuple #[cC h' p h'.cells.length cap q h'.vs.length c2,.int .i64 n,.bool true])∧w'.ownsRow w.heap.size TI 1 (.slice p h'.cells.length cap) h'.cells.length (ivs h'.cells)∧w'.ownsRow w.heap.size TV 4 (.slice q h'.vs.length c2) h'.vs.length (h'.vs.flatMap aC)∧Ext w w'
theorem jB {h:bJ}(hok:cV h=true):h.cells.length≤12∧h.vs.length≤12∧4≤h.cells.length:=by
 obtain⟨q1,q2,q3,q4,q5⟩:=(eZ h).1 hok
 have hb:=bU (bW q1)
 have:=congrArg List.length q4
 rw[mD,List.length_map]at this
 have:=nR h.cells
 omega
theorem oV (h:bJ)(k a b:Int)(p:Option Addr)(n cap:Nat)(q:Option Addr)(m c2:Nat)(w:World)(hi:IsHouse w h p n cap q m c2)(hok:cV h=false):
  Calls Tryz.prog 7 #[cC h p n cap q m c2,xF k a b] w fun e w'=>e= .returned (.tuple #[.agg #[.int .i64 0,.int .i64 0,.slice none 0 0,.int .i64 0,.int .i64 0,.int .i64 0,.int .i64 0,.int .i64 0,.int .i64 0,.slice none 0 0],.int .i64 (-1),.bool false])∧Ext w w':=
 yI h.aA h.aB h.free h.step h.aE h.aG h.aD h.aH k a b p n cap q m c2 h.cells h.vs w (xQ fun w' hx=>by have:=nL h p n cap q m c2 w' (hi.ext hx);rwa[hok]at this)
theorem vA (h:bJ)(k a b:Int)(p:Option Addr)(n cap:Nat)(q:Option Addr)(m c2:Nat)(w:World)(hi:IsHouse w h p n cap q m c2)(hok:cV h=true):
  Calls Tryz.prog 7 #[cC h p n cap q m c2,xF k a b] w (aAw h (bX h k a b) w):=by
 obtain⟨q1,q2,q3,q4,q5⟩:=(eZ h).1 hok
 have hsm:=jB hok
 have hl:=hi.clen
 have hvl:=hi.vlen
 have hS:=hi.cells
 have hV:=hi.vs
 subst hl hvl
 have HVd:=xQ fun(w':World) (hx:Ext w w')=>(by have:=nL h p _ cap q _ c2 w' (hi.ext hx);rwa[hok]at this:Calls Tryz.prog 27 #[cC h p h.cells.length cap q h.vs.length c2] w' fun e w''=>e= .returned (.bool true)∧Ext w' w'')
 have HL:=xQ fun(w':World) (hx:Ext w w')=>qF h p _ cap q _ c2 w' (by omega) (by omega) (hi.ext hx)
 unfold RetHouse at HL
 by_cases k0:k=0
 ·subst k0
  have HP:=xQ fun(w':World) (hx:Ext w w')=>uR h.aA h.aB a p _ cap h.cells w' (hS.ext hx) q1
  have e0:bX h 0 a b=(if 0≤(bT h.aA h.aB h.cells a).2 then some ({h with cells:=(bT h.aA h.aB h.cells a).1,vs:=hU (a,h.aD,0,h.aD) h.vs},(bT h.aA h.aB h.cells a).2)else none):=by unfold bX;rw[if_pos rfl]
  have el:(bT h.aA h.aB h.cells a).1.length=h.cells.length:=by
   by_cases h0:0≤(bT h.aA h.aB h.cells a).2
   ·obtain⟨zs,s1,_,_,s4,_⟩:=lU q1 h0
    rw[s4,List.length_set,s1.length_eq]
   ·unfold bT at h0⊢
    split at h0
    ·rfl
    ·dsimp only at h0;omega
  unfold bY at HP
  rw[el]at HP
  rw[e0]
  by_cases h0:0≤(bT h.aA h.aB h.cells a).2
  ·rw[if_pos h0]
   have HQ:=xQ fun(w':World) (hx:Ext w w')=>aBp a h.aD 0 h.aD q _ c2 h.vs w' (by omega) (hV.ext hx)
   refine(nN h.aA h.aB h.free h.step h.aE h.aG h.aD h.aH (bT h.aA h.aB h.cells a).2 a b p _ cap q _ c2 h.cells (bT h.aA h.aB h.cells a).1 h.vs (hU (a,h.aD,0,h.aD) h.vs) w h0 HVd HL HP HQ).mono ?_
   rintro e w' ⟨p',cap',q',c2',rfl,o1,o2,hx⟩
   refine⟨p',cap',q',c2',?_,?_,?_,hx⟩
   ·simp[cC,el,mK]
   ·dsimp only;rw[el];exact o1
   ·dsimp only;rw[mK];exact o2
  ·rw[if_neg h0]
   exact oX h.aA h.aB h.free h.step h.aE h.aG h.aD h.aH (bT h.aA h.aB h.cells a).2 a b p _ cap q _ c2 h.cells (bT h.aA h.aB h.cells a).1 h.vs w (by omega) HVd HL HP
 by_cases k1:k=1
 ·subst k1
  have HP:=xQ fun(w':World) (hx:Ext w w')=>aBq h a b p _ cap q _ c2 w' (by omega) (by omega) (hi.ext hx) q2 (fun v hv=>(gO _ _).1 (q5 v hv)) q3.2.1 q3.2.2.1 q3.2.2.2
  have e0:bX h 1 a b=lV h a b:=by unfold bX;rw[if_neg (by omega),if_pos rfl]
  rw[e0]
  cases hp:lV h a b with
  |none=>
   rw[hp]at HP
   exact rD h.aA h.aB h.free h.step h.aE h.aG h.aD h.aH a b p _ cap q _ c2 h.cells h.vs w HVd HL HP
  |some r=>
   obtain⟨h',bk⟩:=r
   rw[hp]at HP
   have hd:=qM hok (e0.trans hp)
   have hv:h'.vs.length=h.vs.length∧h'.cells=h.cells∧h'.aD=h.aD:=by
    unfold lV at hp
    split at hp
    ·cases hp
    ·split at hp
     ·injection hp with hp
      simp only[Prod.mk.injEq]at hp
      obtain⟨rfl,_⟩:=hp
      exact⟨by simp,rfl,rfl⟩
     ·cases hp
   obtain⟨t1,t2,t3,t4,t5,t6,t7,t8,t9⟩:=hd
   obtain⟨v1,v2,v3⟩:=hv
   obtain⟨hw,hde,hc,hf,hs,hpr,hca,hcl,hba,hvs⟩:=h'
   dsimp only at t4 t5 t6 t7 t8 t9 v1 v2 v3
   subst t4 t5 t6 t7 t8 t9 v2 v3
   unfold aF2 at HP
   dsimp only at HP
   rw[v1]at HP
   refine(pU h.aA h.aB h.free h.step h.aE h.aG h.aD h.aH hba bk a b p _ cap q _ c2 h.cells h.vs hvs w t2.1 HVd HL HP).mono ?_
   rintro e w' ⟨p',cap',q',c2',rfl,o1,o2,hx⟩
   refine⟨p',cap',q',c2',?_,o1,?_,hx⟩
   ·simp[cC,v1]
   ·dsimp only;rw[v1];exact o2
 by_cases k2:k=2
 ·subst k2
  have HP:=xQ fun(w':World) (hx:Ext w w')=>xA h.aA h.aB a p _ cap h.cells w' (hS.ext hx) q1
  have HF:=xQ fun(w':World) (hx:Ext w w')=>lY h.aA h.aB h.free h.step h.aE h.aG h.aD h.aH a p h.cells.length cap q _ c2 h.vs w' (hV.ext hx)
  have HM:=xQ fun(w':World) (hx:Ext w w')=>tJ h a p _ cap q _ c2 w' (hi.ext hx)
  have e0:bX h 2 a b=(if dO h a=true∧0≤(bN h.aA h.aB h.cells a).2 then some ({h with cells:=(bN h.aA h.aB h.cells a).1,vs:=h.vs.eraseIdx (vix a h.vs).toNat},(bN h.aA h.aB h.cells a).2)else none):=by unfold bX;rw[if_neg (by omega),if_neg (by omega),if_pos rfl]
  have el:(bN h.aA h.aB h.cells a).1.length=h.cells.length:=by
   by_cases h0:0≤(bN h.aA h.aB h.cells a).2
   ·obtain⟨zs,s1,_,_,s4,_⟩:=kF q1 h0
    rw[s4,List.length_set,s1.length_eq]
   ·unfold bN at h0⊢
    split at h0
    ·rfl
    ·dsimp only at h0;omega
  unfold bY at HP
  rw[el]at HP
  rw[e0]
  by_cases h0:dO h a=true∧0≤(bN h.aA h.aB h.cells a).2
  ·rw[if_pos h0]
   have hv: ∃v,eD a h.vs=some v:=by
    have:=h0.1
    unfold dO eB at this
    rw[if_pos hok]at this
    cases hv:eD a h.vs with
    |none=>rw[hv]at this;simp at this
    |some v=>exact⟨v,rfl⟩
   obtain⟨v,hv⟩:=hv
   obtain⟨v1,v2,v3,v4,v5,v6⟩:=iW hv
   generalize hk:(vix a h.vs).toNat=kk at*
   rw[v5]at HF
   rw[h0.1]at HM
   obtain⟨bb,off,rfl,hbb,_⟩:=hV.rd (by omega)
   have ee:h.vs.eraseIdx kk=h.vs.take kk++h.vs.drop (kk+1):=List.eraseIdx_eq_take_drop_succ _ _
   have eln:(h.vs.eraseIdx kk).length=h.vs.length-1:=by rw[List.length_eraseIdx,if_pos v4]
   by_cases hcc:kk+1<c2
   ·refine(nP h.aA h.aB h.free h.step h.aE h.aG h.aD h.aH (bN h.aA h.aB h.cells a).2 a b p _ cap bb off _ c2 kk h.cells (bN h.aA h.aB h.cells a).1 h.vs w h0.2 v4 (by omega) hcc (xQ hV) HVd HL HP HF HM).mono ?_
    rintro e w' ⟨p',cap',q',c2',rfl,o1,o2,hx⟩
    refine⟨p',cap',q',c2',?_,?_,?_,hx⟩
    ·simp only[cC,el,eln]
    ·dsimp only;rw[el];exact o1
    ·dsimp only;rw[eln,ee];exact o2
   ·have hle:=hV.le
    have e1:c2=kk+1:=by omega
    have e2:h.vs.length=kk+1:=by omega
    subst e1
    rw[e2]at hV HVd HL HF HM eln⊢
    refine(mI h.aA h.aB h.free h.step h.aE h.aG h.aD h.aH (bN h.aA h.aB h.cells a).2 a b p _ cap bb off kk h.cells (bN h.aA h.aB h.cells a).1 h.vs w h0.2 (by omega) (xQ (List.drop_eq_nil_of_le (by omega))) (xQ hV) HVd HL HP HF HM).mono ?_
    rintro e w' ⟨p',cap',q',c2',rfl,o1,o2,hx⟩
    refine⟨p',cap',q',c2',?_,?_,?_,hx⟩
    ·simp[cC,el,eln]
    ·dsimp only;rw[el];exact o1
    ·dsimp only;rw[eln,ee,Nat.add_sub_cancel];exact o2
  ·rw[if_neg h0]
   exact oZ h.aA h.aB h.free h.step h.aE h.aG h.aD h.aH (bN h.aA h.aB h.cells a).2 (vix a h.vs) a b p _ cap q _ c2 h.cells (bN h.aA h.aB h.cells a).1 h.vs w (dO h a) (fun e=>by
    by_cases hx:0≤(bN h.aA h.aB h.cells a).2
    ·exact absurd ⟨e,hx⟩ h0
    ·omega) HVd HL HP HF HM
 by_cases k3:k=3
 ·subst k3
  have e0:bX h 3 a b=(if 1≤a∧a≤9999-h.aD then some ({h with aD:=h.aD+a},h.aD+a)else none):=by unfold bX;rw[if_neg (by omega),if_neg (by omega),if_neg (by omega),if_pos rfl]
  rw[e0]
  by_cases h0:1≤a∧a≤9999-h.aD
  ·rw[if_pos h0]
   exact oW h.aA h.aB h.free h.step h.aE h.aG h.aD h.aH a b p _ cap q _ c2 h.cells h.vs w q3.1 q3.2.1 h0.1 h0.2 HVd HL (xQ fun w'=>jN a 1 (9999-h.aD) w' h0.1 h0.2)
  ·rw[if_neg h0]
   exact pS h.aA h.aB h.free h.step h.aE h.aG h.aD h.aH a b p _ cap q _ c2 h.cells h.vs w q3.1 q3.2.1 HVd HL (xQ fun w'=>pH a 1 (9999-h.aD) w' (by omega))
 by_cases k4:k=4
 ·subst k4
  have HP:=xQ fun(w':World) (hx:Ext w w')=>iY h.aA h.aB a b p _ cap h.cells w' (hS.ext hx) q1
  have e0:bX h 4 a b=(if aZ h.aA h.aB h.cells a b=true then some ({h with cells:=bA h.aA h.aB h.cells a b},0)else none):=by unfold bX;rw[if_neg (by omega),if_neg (by omega),if_neg (by omega),if_neg (by omega),if_pos rfl]
  unfold bZ at HP
  rw[cE]at HP
  rw[e0]
  cases hm:aZ h.aA h.aB h.cells a b with
  |true=>
   rw[hm]at HP
   rw[if_pos rfl]
   refine(nO h.aA h.aB h.free h.step h.aE h.aG h.aD h.aH a b p _ cap q _ c2 h.cells (bA h.aA h.aB h.cells a b) h.vs w HVd HL HP).mono ?_
   rintro e w' ⟨p',cap',q',c2',rfl,o1,o2,hx⟩
   refine⟨p',cap',q',c2',?_,?_,o2,hx⟩
   ·simp only[cC,cE]
   ·dsimp only;rw[cE];exact o1
  |false=>
   rw[hm]at HP
   rw[if_neg (by simp)]
   exact oY h.aA h.aB h.free h.step h.aE h.aG h.aD h.aH a b p _ cap q _ c2 h.cells (bA h.aA h.aB h.cells a b) h.vs w HVd HL HP
 have e0:bX h k a b=none:=by unfold bX;rw[if_neg k0,if_neg k1,if_neg k2,if_neg k3,if_neg k4]
 rw[e0]
 exact tL h.aA h.aB h.free h.step h.aE h.aG h.aD h.aH k a b p _ cap q _ c2 h.cells h.vs w k0 k1 k2 k3 k4 HVd HL
theorem pB (h:bJ)(k a b:Int)(p:Option Addr)(n cap:Nat)(q:Option Addr)(m c2:Nat)(w:World)(hi:IsHouse w h p n cap q m c2)(hok:cV h=false):
  Calls Tryz.prog 10 #[cC h p n cap q m c2,xF k a b] w fun e w'=>e= .returned (.tuple #[.agg #[.int .i64 0,.int .i64 0,.slice none 0 0,.int .i64 0,.int .i64 0,.int .i64 0,.int .i64 0,.int .i64 0,.int .i64 0,.slice none 0 0],.int .i64 (-1),.bool false])∧Ext w w':=
 zQ h.aA h.aB h.free h.step h.aE h.aG h.aD h.aH k a b p n cap q m c2 h.cells h.vs w (xQ fun w' hx=>by have:=nV h p n cap q m c2 w' (hi.ext hx);rwa[hok]at this)
theorem wL (h:bJ)(k a b:Int)(p:Option Addr)(n cap:Nat)(q:Option Addr)(m c2:Nat)(w:World)(hi:IsHouse w h p n cap q m c2)(hok:cV h=true)(hE:BitTab w):
  Calls Tryz.prog 10 #[cC h p n cap q m c2,xF k a b] w (aAw h (bX h k a b) w):=by
 obtain⟨q1,q2,q3,q4,q5⟩:=(eZ h).1 hok
 have hsm:=jB hok
 have hl:=hi.clen
 have hvl:=hi.vlen
 have hS:=hi.cells
 have hV:=hi.vs
 subst hl hvl
 have HVd:=xQ fun(w':World) (hx:Ext w w')=>(by have:=nV h p _ cap q _ c2 w' (hi.ext hx);rwa[hok]at this:Calls Tryz.prog 40 #[cC h p h.cells.length cap q h.vs.length c2] w' fun e w''=>e= .returned (.bool true)∧Ext w' w'')
 have HL:=xQ fun(w':World) (hx:Ext w w')=>rK h p _ cap q _ c2 w' (by omega) (by omega) (hi.ext hx)
 unfold RetHouse at HL
 by_cases k0:k=0
 ·subst k0
  have e0:bX h 0 a b=(if 0≤(bT h.aA h.aB h.cells a).2 then some ({h with cells:=(bT h.aA h.aB h.cells a).1,vs:=hU (a,h.aD,0,h.aD) h.vs},(bT h.aA h.aB h.cells a).2)else none):=by unfold bX;rw[if_pos rfl]
  have el:(bT h.aA h.aB h.cells a).1.length=h.cells.length:=by
   by_cases h0:0≤(bT h.aA h.aB h.cells a).2
   ·obtain⟨zs,s1,_,_,s4,_⟩:=lU q1 h0
    rw[s4,List.length_set,s1.length_eq]
   ·unfold bT at h0⊢
    split at h0
    ·rfl
    ·dsimp only at h0;omega
  have HP: ∀(w':World) (p1:Option Addr) (cp1:Nat),Sl w' p1 h.cells.length cp1 1 (ivs h.cells)→Calls Tryz.prog 79 #[aK h.aA h.aB p1 h.cells.length cp1,.int .i64 a] w' fun e w''=> ∃q c,e= .returned (.tuple #[aK h.aA h.aB q h.cells.length c,.int .i64 (bT h.aA h.aB h.cells a).2])∧w''.ownsRow w'.heap.size TI 1 (.slice q h.cells.length c) h.cells.length (ivs (bT h.aA h.aB h.cells a).1)∧Ext w' w'':=fun w' p1 cp1 hs=>by
   have:=aBt h.aA h.aB a p1 _ cp1 h.cells w' hs q1
   unfold bY at this
   rw[el]at this
   exact this
  rw[e0]
  by_cases h0:0≤(bT h.aA h.aB h.cells a).2
  ·rw[if_pos h0]
   refine(nX h.aA h.aB h.free h.step h.aE h.aG h.aD h.aH h.aH (bT h.aA h.aB h.cells a).2 a b p _ cap q _ c2 (h.vs.length+1) h.cells (bT h.aA h.aB h.cells a).1 h.vs (hU (a,h.aD,0,h.aD) h.vs) w HVd HL (xQ fun w' R gA p1 cp1 q1 cq1 hM=> ?_)).mono ?_
   ·exact zT w w' R gA h.aA h.aB h.free h.step h.aE h.aG h.aD h.aH a _ p1 _ cp1 q1 _ cq1 h.cells _ h.vs (by omega) h0 rfl hM (fun w2 hx=>HP w2 p1 cp1 ((Mem.sl hM (i:=0) rfl).ext hx))
   ·rintro e w' ⟨p',cap',q',c2',rfl,o1,o2,hx⟩
    refine⟨p',cap',q',c2',?_,?_,?_,hx⟩
    ·simp[cC,el,mK]
    ·dsimp only;rw[el];exact o1
    ·dsimp only;rw[mK];exact o2
  ·rw[if_neg h0]
   exact pE h.aA h.aB h.free h.step h.aE h.aG h.aD h.aH a b p _ cap q _ c2 h.cells h.vs w HVd HL (xQ fun w' R gA p1 cp1 q1 cq1 hM=>aC8 w' gA h.aA h.aB h.free h.step h.aE h.aG h.aD h.aH a _ p1 _ cp1 q1 _ cq1 _ (by omega) (Mem.blk hM (i:=2) rfl) (fun w2 hx2=>HP w2 p1 cp1 ((Mem.sl hM (i:=0) rfl).ext hx2)))
 by_cases k1:k=1
 ·subst k1
  have e0:bX h 1 a b=lV h a b:=by unfold bX;rw[if_neg (by omega),if_pos rfl]
  rw[e0]
  rcases jL a h.vs with⟨h1,h2⟩|⟨kk,a1,a2,a3,hk,h1,hx,h2⟩
  ·have hr:lV h a b=none:=by unfold lV;rw[h2]
   rw[hr]
   exact jP h.aA h.aB h.free h.step h.aE h.aG h.aD h.aH a b p _ cap q _ c2 h.cells h.vs w HVd HL (xQ fun w' R gA p1 cp1 q1 cq1 hM=>wU w' gA h.aA h.aB h.free h.step h.aE h.aG h.aD h.aH a b p1 _ cp1 q1 _ cq1 (Mem.blk hM (i:=2) rfl) (fun w2 hx2=>by
    have:=fX h.aA h.aB h.free h.step h.aE h.aG h.aD h.aH a p1 h.cells.length cp1 q1 _ cq1 h.vs w2 ((Mem.sl hM (i:=1) rfl).ext hx2)
    rwa[h1]at this))
  ·obtain⟨s1,s2⟩:=(gO _ _).1 (q5 _ (List.mem_of_getElem? hx))
   dsimp only at s1 s2
   have hD:=(iM q2 s1 s2 q3.2.1).1
   have HP:=fun(w':World)=>wG h.free h.step h.aE h.aG a1 a2 a3 h.aD b w' q2 s1 s2 q3.2.1
   have hok':=tP (amt:=b) hD
   have hr:lV h a b=if(eY h.free h.step h.aE h.aG a1 a2 a3 h.aD b).2.2=true∧h.aH+b-(eY h.free h.step h.aE h.aG a1 a2 a3 h.aD b).2.1≤99999 then some ({h with aH:=h.aH+b-(eY h.free h.step h.aE h.aG a1 a2 a3 h.aD b).2.1,vs:=h.vs.set kk (a,(eY h.free h.step h.aE h.aG a1 a2 a3 h.aD b).1)},(eY h.free h.step h.aE h.aG a1 a2 a3 h.aD b).2.1)else none:=by
    unfold lV
    rw[h2,h1]
    rfl
   rw[hr]
   generalize eY h.free h.step h.aE h.aG a1 a2 a3 h.aD b=r at*
   obtain⟨⟨S1,S2,S3⟩,bk,okb⟩:=r
   dsimp only at HP hok'⊢
   have HVX: ∀(w':World) (p1:Option Addr) (cp1:Nat) (q1:Option Addr) (cq1:Nat),Sl w' q1 h.vs.length cq1 4 (h.vs.flatMap aC)→Calls Tryz.prog 81 #[.agg #[.int .i64 h.aA,.int .i64 h.aB,.slice p1 h.cells.length cp1,.int .i64 h.free,.int .i64 h.step,.int .i64 h.aE,.int .i64 h.aG,.int .i64 h.aD,.int .i64 h.aH,.slice q1 h.vs.length cq1],.int .i64 a] w' fun e w''=>e= .returned (.int .i64 (kk:Int))∧Ext w' w'':=fun w' p1 cp1 q1 cq1 hs=>by
    have:=fX h.aA h.aB h.free h.step h.aE h.aG h.aD h.aH a p1 h.cells.length cp1 q1 _ cq1 h.vs w' hs
    rwa[h1]at this
   by_cases hq:okb=true∧h.aH+b-bk≤99999
   ·rw[if_pos hq]
    refine(mS h.aA h.aB h.free h.step h.aE h.aG h.aD h.aH (h.aH+b-bk) bk a b p _ cap q _ c2 h.vs.length h.cells h.cells h.vs (h.vs.set kk (a,S1,S2,S3)) w HVd HL (xQ fun w' R gA p1 cp1 q1 cq1 hM=> ?_)).mono ?_
    ·obtain⟨gq,rfl,_,_⟩:=Mem.some hM (i:=1) rfl (by omega)
     refine(wT w w' R gA gq h.aA h.aB h.free h.step h.aE h.aG h.aD h.aH a b p1 _ cp1 _ cq1 kk h.cells h.vs a a1 a2 a3 S1 S2 S3 bk okb hk (by omega) q3.2.2.1 q3.2.2.2 hok' hx hM (fun w2 hx2=>HVX w2 p1 cp1 _ cq1 ((Mem.sl hM (i:=1) rfl).ext hx2)) HP).mono ?_
     rintro e w2 (⟨_,hno,_⟩|⟨_,_,rfl,hM2⟩)
     ·exact absurd hq hno
     ·exact⟨p1,cp1,_,cq1,rfl,hM2⟩
    ·rintro e w' ⟨p',cap',q',c2',rfl,o1,o2,hx⟩
     refine⟨p',cap',q',c2',?_,o1,?_,hx⟩
     ·simp[cC]
     ·simpa using o2
   ·rw[if_neg hq]
    refine jP h.aA h.aB h.free h.step h.aE h.aG h.aD h.aH a b p _ cap q _ c2 h.cells h.vs w HVd HL (xQ fun w' R gA p1 cp1 q1 cq1 hM=> ?_)
    obtain⟨gq,rfl,_,_⟩:=Mem.some hM (i:=1) rfl (by omega)
    refine(wT w w' R gA gq h.aA h.aB h.free h.step h.aE h.aG h.aD h.aH a b p1 _ cp1 _ cq1 kk h.cells h.vs a a1 a2 a3 S1 S2 S3 bk okb hk (by omega) q3.2.2.1 q3.2.2.2 hok' hx hM (fun w2 hx2=>HVX w2 p1 cp1 _ cq1 ((Mem.sl hM (i:=1) rfl).ext hx2)) HP).mono ?_
    rintro e w2 (⟨rfl,_,hx2⟩|⟨e1,e2,_,_⟩)
    ·exact⟨rfl,hx2⟩
    ·exact absurd ⟨e1,e2⟩ hq
 by_cases k2:k=2
 ·subst k2
  have HP: ∀(w':World) (p1:Option Addr) (cp1:Nat),Ext w w'→Sl w' p1 h.cells.length cp1 1 (ivs h.cells)→Calls Tryz.prog 84 #[aK h.aA h.aB p1 h.cells.length cp1,.int .i64 a] w' fun e w''=> ∃q c,e= .returned (.tuple #[aK h.aA h.aB q h.cells.length c,.int .i64 (bN h.aA h.aB h.cells a).2])∧w''.ownsRow w'.heap.size TI 1 (.slice q h.cells.length c) h.cells.length (ivs (bN h.aA h.aB h.cells a).1)∧Ext w' w'':=fun w' p1 cp1 hx hs=>by
   have:=aC5 h.aA h.aB a p1 _ cp1 h.cells w' hs q1 (hE.ext hx)
   have el:(bN h.aA h.aB h.cells a).1.length=h.cells.length:=by
    by_cases h0:0≤(bN h.aA h.aB h.cells a).2
    ·obtain⟨zs,s1,_,_,s4,_⟩:=kF q1 h0
     rw[s4,List.length_set,s1.length_eq]
    ·unfold bN at h0⊢
     split at h0
     ·rfl
     ·dsimp only at h0;omega
   unfold bY at this
   rw[el]at this
   exact this
  have el:(bN h.aA h.aB h.cells a).1.length=h.cells.length:=by
   by_cases h0:0≤(bN h.aA h.aB h.cells a).2
   ·obtain⟨zs,s1,_,_,s4,_⟩:=kF q1 h0
    rw[s4,List.length_set,s1.length_eq]
   ·unfold bN at h0⊢
    split at h0
    ·rfl
    ·dsimp only at h0;omega
  have HM: ∀(w':World) (p1:Option Addr) (cp1:Nat) (q1:Option Addr) (cq1:Nat),Sl w' p1 h.cells.length cp1 1 (ivs h.cells)→Sl w' q1 h.vs.length cq1 4 (h.vs.flatMap aC)→Calls Tryz.prog 83 #[.agg #[.int .i64 h.aA,.int .i64 h.aB,.slice p1 h.cells.length cp1,.int .i64 h.free,.int .i64 h.step,.int .i64 h.aE,.int .i64 h.aG,.int .i64 h.aD,.int .i64 h.aH,.slice q1 h.vs.length cq1],.int .i64 a] w' fun e w''=>e= .returned (.bool (dO h a))∧Ext w' w'':=fun w' p1 cp1 q1 cq1 hs hv=>tX h a p1 _ cp1 q1 _ cq1 w' ⟨hs,hv⟩
  have e0:bX h 2 a b=(if dO h a=true∧0≤(bN h.aA h.aB h.cells a).2 then some ({h with cells:=(bN h.aA h.aB h.cells a).1,vs:=h.vs.eraseIdx (vix a h.vs).toNat},(bN h.aA h.aB h.cells a).2)else none):=by unfold bX;rw[if_neg (by omega),if_neg (by omega),if_pos rfl]
  rw[e0]
  by_cases hmy:dO h a=true
  ·rw[hmy]at HM
   by_cases h0:0≤(bN h.aA h.aB h.cells a).2
   ·rw[if_pos ⟨hmy,h0⟩]
    have hv: ∃v,eD a h.vs=some v:=by
     have:=hmy
     unfold dO eB at this
     rw[if_pos hok]at this
     cases hv:eD a h.vs with
     |none=>rw[hv]at this;simp at this
     |some v=>exact⟨v,rfl⟩
    obtain⟨v,hv⟩:=hv
    obtain⟨v1,v2,v3,v4,v5,v6⟩:=iW hv
    generalize hk:(vix a h.vs).toNat=kk at*
    have eln:(h.vs.eraseIdx kk).length=h.vs.length-1:=by rw[List.length_eraseIdx,if_pos v4]
    refine(mT h.aA h.aB h.free h.step h.aE h.aG h.aD h.aH h.aH (bN h.aA h.aB h.cells a).2 a b p _ cap q _ c2 (h.vs.length-1) h.cells (bN h.aA h.aB h.cells a).1 h.vs (h.vs.eraseIdx kk) w HVd HL (xQ fun w' R gA p1 cp1 q1 cq1 hM=> ?_)).mono ?_
    ·obtain⟨gq,rfl,_,_⟩:=Mem.some hM (i:=1) rfl (by omega)
     refine(zR w w' R gA h.aA h.aB h.free h.step h.aE h.aG h.aD h.aH a _ p1 _ cp1 gq _ cq1 kk h.cells _ h.vs v4 (by omega) h0 hM (fun w2 hx2=>HM w2 p1 cp1 _ cq1 ((Mem.sl hM (i:=0) rfl).ext hx2) ((Mem.sl hM (i:=1) rfl).ext hx2)) (fun w2 hx2=>HP w2 p1 cp1 (hM.ext.trans hx2) ((Mem.sl hM (i:=0) rfl).ext hx2)) (fun w2 p' cap' hs=> ?_)).mono ?_
     ·have:=fX h.aA h.aB h.free h.step h.aE h.aG h.aD h.aH a p' h.cells.length cap' _ _ cq1 h.vs w2 hs
      rwa[v5]at this
     ·rintro e w2 ⟨p5,c5,rfl,hM2⟩
      exact⟨p5,c5,_,cq1,rfl,hM2⟩
    ·rintro e w' ⟨p',cap',q',c2',rfl,o1,o2,hx⟩
     refine⟨p',cap',q',c2',?_,?_,?_,hx⟩
     ·simp only[cC,el,eln]
     ·dsimp only;rw[el];exact o1
     ·dsimp only;rw[eln];exact o2
   ·rw[if_neg (by intro e;exact h0 e.2)]
    exact jQ h.aA h.aB h.free h.step h.aE h.aG h.aD h.aH a b p _ cap q _ c2 h.cells h.vs w HVd HL (xQ fun w' R gA p1 cp1 q1 cq1 hM=>aC7 w' gA h.aA h.aB h.free h.step h.aE h.aG h.aD h.aH a _ p1 _ cp1 q1 _ cq1 _ (by omega) (Mem.blk hM (i:=2) rfl) (fun w2 hx2=>HM w2 p1 cp1 _ cq1 ((Mem.sl hM (i:=0) rfl).ext hx2) ((Mem.sl hM (i:=1) rfl).ext hx2)) (fun w2 hx2=>HP w2 p1 cp1 (hM.ext.trans hx2) ((Mem.sl hM (i:=0) rfl).ext hx2)))
  ·rw[if_neg (by intro e;exact hmy e.1)]
   have hmf:dO h a=false:=by simpa using hmy
   rw[hmf]at HM
   exact jQ h.aA h.aB h.free h.step h.aE h.aG h.aD h.aH a b p _ cap q _ c2 h.cells h.vs w HVd HL (xQ fun w' R gA p1 cp1 q1 cq1 hM=>zS w' gA h.aA h.aB h.free h.step h.aE h.aG h.aD h.aH a 0 p1 _ cp1 q1 _ cq1 (Mem.blk hM (i:=2) rfl) (fun w2 hx2=>HM w2 p1 cp1 _ cq1 ((Mem.sl hM (i:=0) rfl).ext hx2) ((Mem.sl hM (i:=1) rfl).ext hx2)))
 by_cases k3:k=3
 ·subst k3
  have e0:bX h 3 a b=(if 1≤a∧a≤9999-h.aD then some ({h with aD:=h.aD+a},h.aD+a)else none):=by unfold bX;rw[if_neg (by omega),if_neg (by omega),if_neg (by omega),if_pos rfl]
  rw[e0]
  by_cases h1:1≤a
  ·by_cases h2:a≤9999-h.aD
   ·rw[if_pos ⟨h1,h2⟩]
    exact pC h.aA h.aB h.free h.step h.aE h.aG h.aD h.aH a b p _ cap q _ c2 h.cells h.vs w q3.1 q3.2.1 h1 h2 HVd HL
   ·rw[if_neg (by omega)]
    exact qK h.aA h.aB h.free h.step h.aE h.aG h.aD h.aH a b p _ cap q _ c2 h.cells h.vs w q3.1 q3.2.1 h1 (by omega) HVd HL
  ·rw[if_neg (by omega)]
   exact qJ h.aA h.aB h.free h.step h.aE h.aG h.aD h.aH a b p _ cap q _ c2 h.cells h.vs w q3.1 q3.2.1 (by omega) HVd HL
 by_cases k4:k=4
 ·subst k4
  have HP:=xQ fun(w':World) (hx:Ext w w')=>sJ h.aA h.aB a b p _ cap h.cells w' (hS.ext hx) q1
  have e0:bX h 4 a b=(if aZ h.aA h.aB h.cells a b=true then some ({h with cells:=bA h.aA h.aB h.cells a b},0)else none):=by unfold bX;rw[if_neg (by omega),if_neg (by omega),if_neg (by omega),if_neg (by omega),if_pos rfl]
  unfold bZ at HP
  rw[cE]at HP
  rw[e0]
  cases hm:aZ h.aA h.aB h.cells a b with
  |true=>
   rw[hm]at HP
   rw[if_pos rfl]
   refine(nW h.aA h.aB h.free h.step h.aE h.aG h.aD h.aH a b p _ cap q _ c2 h.cells (bA h.aA h.aB h.cells a b) h.vs w HVd HL HP).mono ?_
   rintro e w' ⟨p',cap',q',c2',rfl,o1,o2,hx⟩
   refine⟨p',cap',q',c2',?_,?_,o2,hx⟩
   ·simp only[cC,cE]
   ·dsimp only;rw[cE];exact o1
  |false=>
   rw[hm]at HP
   rw[if_neg (by simp)]
   exact pD h.aA h.aB h.free h.step h.aE h.aG h.aD h.aH a b p _ cap q _ c2 h.cells (bA h.aA h.aB h.cells a b) h.vs w HVd HL HP
 have e0:bX h k a b=none:=by unfold bX;rw[if_neg k0,if_neg k1,if_neg k2,if_neg k3,if_neg k4]
 rw[e0]
 exact tZ h.aA h.aB h.free h.step h.aE h.aG h.aD h.aH k a b p _ cap q _ c2 h.cells h.vs w k0 k1 k2 k3 k4 HVd HL
def aX (K:Int):Nat→List Value
 |0=> []
 |m+1=>aX K m++ [.int .i64 (K+m)]
theorem fL (K:Int)(m:Nat):(aX K m).length=m:=by induction m with|zero=>rfl|succ m ih=>simp[aX,ih]
theorem jG (K:Int): ∀(m j:Nat),j<m→(aX K m)[j]? =some (.int .i64 (K+j)):=by
 intro m
 induction m with
 |zero=>intro j h;omega
 |succ m ih=>
  intro j h
  by_cases hj:j<m
  ·rw[aX,List.getElem?_append_left (by rw[fL];exact hj)];exact ih j hj
  ·obtain rfl:j=m:=by omega
   rw[aX,List.getElem?_append_right (by rw[fL];omega),fL];simp
theorem vX (K:Int)(k:Nat):aX K ((k+1)*1)=aX K (k*1)++ [.int .i64 (K+(k*1:Nat))]:=by
 rw[Nat.succ_mul];rfl
theorem vW (K:Int)(k:Nat):aX K ((k+1)*4)=aX K (k*4)++ [.int .i64 (K+(k*4:Nat)),.int .i64 (K+(k*4:Nat)+1),.int .i64 (K+(k*4:Nat)+1+1),.int .i64 (K+(k*4:Nat)+1+1+1)]:=by
 have e1:K+((k*4+1:Nat):Int)=K+(k*4:Nat)+1:=by omega
 have e2:K+((k*4+2:Nat):Int)=K+(k*4:Nat)+1+1:=by omega
 have e3:K+((k*4+3:Nat):Int)=K+(k*4:Nat)+1+1+1:=by omega
 rw[Nat.succ_mul]
 show aX K (k*4)++ [.int .i64 (K+(k*4:Nat))]++ [.int .i64 (K+((k*4+1:Nat):Int))]++ [.int .i64 (K+((k*4+2:Nat):Int))]++ [.int .i64 (K+((k*4+3:Nat):Int))]=_
 rw[e1,e2,e3]
 simp only[List.append_assoc,List.cons_append,List.nil_append]
set_option maxRecDepth 100000 in
set_option maxHeartbeats 1000000 in
theorem aA1 (aA aB:Int)(p q:Option Addr)(n c1 c2:Nat)(xs:List Int)(w:World)(h1:Sl w p n c1 1 (ivs xs))(h2:Sl w q n c2 1 (ivs xs)):
  Calls Tryz.prog 46 #[aK aA aB p n c1,aK aA aB q n c2] w fun e w'=>e= .returned (.bool true)∧Ext w w':=by
 have H1:=xQ h1
 have H2:=xQ h2
 clear h1 h2
 go_enter Tryz.func46,Tryz.ntmps46
 go_wp2_with fail
 refine(aA0 p q n c1 c2 xs _ (H1.out.ext xE) (H2.out.ext xE)).mono ?_
 rintro e w1 ⟨rfl,hx⟩
 go_wp2
 go_ret
 exact⟨rfl,xE⟩
set_option maxRecDepth 100000 in
set_option maxHeartbeats 1000000 in
theorem jE (h:bJ)(p1:Option Addr)(n c1:Nat)(q1:Option Addr)(m d1:Nat)(p2:Option Addr)(c2:Nat)(q2:Option Addr)(d2:Nat)(w:World)(hi1:IsHouse w h p1 n c1 q1 m d1)(hi2:IsHouse w h p2 n c2 q2 m d2):
  Calls Tryz.prog 11 #[cC h p1 n c1 q1 m d1,cC h p2 n c2 q2 m d2] w fun e w'=>e= .returned (.bool true)∧Ext w w':=by
 have H1:=xQ hi1
 have H2:=xQ hi2
 clear hi1 hi2
 obtain⟨aA,aB,cells,free,step,aE,aG,aD,aH,vs⟩:=h
 go_enter Tryz.func11,Tryz.ntmps11
 go_wp2_with fail
 refine(aA1 aA aB p1 p2 n c1 c2 cells _ (H1.out.cells.ext xE) (H2.out.cells.ext xE)).mono ?_
 rintro e w1 ⟨rfl,hx1⟩
 have BA:=xQ (((Blk.new w 37 #[.int .i64 aA,.int .i64 aB,.slice p1 n c1,.int .i64 free,.int .i64 step,.int .i64 aE,.int .i64 aG,.int .i64 aD,.int .i64 aH,.slice q1 m d1]).alloc (.cells #[.int .i64 aA,.int .i64 aB,.slice p2 n c2,.int .i64 free,.int .i64 step,.int .i64 aE,.int .i64 aG,.int .i64 aD,.int .i64 aH,.slice q2 m d2] 37)).ext hx1)
 have BB':=xQ ((Blk.new (w.alloc (.cells #[.int .i64 aA,.int .i64 aB,.slice p1 n c1,.int .i64 free,.int .i64 step,.int .i64 aE,.int .i64 aG,.int .i64 aD,.int .i64 aH,.slice q1 m d1] 37)) 37 #[.int .i64 aA,.int .i64 aB,.slice p2 n c2,.int .i64 free,.int .i64 step,.int .i64 aE,.int .i64 aG,.int .i64 aD,.int .i64 aH,.slice q2 m d2]).ext hx1)
 simp only[World.size_alloc]at BB'
 have hxw1:Ext w w1:=(((Ext.refl w).alloc _).alloc _).trans hx1
 have ha:w.heap.size+1<w1.heap.size:=Nat.lt_of_lt_of_le (by simp) hx1.sz
 clear hx1
 have a3:w1.cell? ⟨w.heap.size,3,none⟩=some (.int .i64 free):=BA.out.cell 3
 have a4:w1.cell? ⟨w.heap.size,4,none⟩=some (.int .i64 step):=BA.out.cell 4
 have a5:w1.cell? ⟨w.heap.size,5,none⟩=some (.int .i64 aE):=BA.out.cell 5
 have a6:w1.cell? ⟨w.heap.size,6,none⟩=some (.int .i64 aG):=BA.out.cell 6
 have b3:w1.cell? ⟨w.heap.size+1,3,none⟩=some (.int .i64 free):=BB'.out.cell 3
 have b4:w1.cell? ⟨w.heap.size+1,4,none⟩=some (.int .i64 step):=BB'.out.cell 4
 have b5:w1.cell? ⟨w.heap.size+1,5,none⟩=some (.int .i64 aE):=BB'.out.cell 5
 have b6:w1.cell? ⟨w.heap.size+1,6,none⟩=some (.int .i64 aG):=BB'.out.cell 6
 go_wp2_with fail
 clear a3 a4 a5 a6 b3 b4 b5 b6
 refine(uI free step aE aG _).mono ?_
 rintro e w2 ⟨rfl,hx2⟩
 have hxw2:Ext w w2:=hxw1.trans hx2
 have ha2:w.heap.size+1<w2.heap.size:=Nat.lt_of_lt_of_le ha hx2.sz
 have BA2:=xQ (BA.out.ext hx2)
 have BB2:=xQ (BB'.out.ext hx2)
 clear hx2 BA BB'
 have a7:w2.cell? ⟨w.heap.size,7,none⟩=some (.int .i64 aD):=BA2.out.cell 7
 have a8:w2.cell? ⟨w.heap.size,8,none⟩=some (.int .i64 aH):=BA2.out.cell 8
 have a9:w2.cell? ⟨w.heap.size,9,none⟩=some (.slice q1 m d1):=BA2.out.cell 9
 have b7:w2.cell? ⟨w.heap.size+1,7,none⟩=some (.int .i64 aD):=BB2.out.cell 7
 have b8:w2.cell? ⟨w.heap.size+1,8,none⟩=some (.int .i64 aH):=BB2.out.cell 8
 have b9:w2.cell? ⟨w.heap.size+1,9,none⟩=some (.slice q2 m d2):=BB2.out.cell 9
 go_wp2_with fail
 clear a7 a8 a9 b7 b8 b9
 refine(uH q1 q2 m d1 d2 vs _ (H1.out.vs.ext xE) (H2.out.vs.ext xE)).mono ?_
 rintro e w3 ⟨rfl,hx3⟩
 go_wp2
 go_ret
 exact⟨rfl,xE⟩
theorem RetHouse.is {h:bJ}{w w':World}{p q:Option Addr}{cap c2:Nat}(ho:w'.ownsRow w.heap.size TI 1 (.slice p h.cells.length cap) h.cells.length (ivs h.cells))(hv:w'.ownsRow w.heap.size TV 4 (.slice q h.vs.length c2) h.vs.length (h.vs.flatMap aC)):
  IsHouse w' h p h.cells.length cap q h.vs.length c2:=⟨Sl.own ho,Sl.own hv⟩
theorem aEh {W0 wr:World}{B:Nat}(hg:W0.grownBy wr (some B))(o:Nat)(v:Value):W0.grownBy (wr.setCell ⟨B,o,none⟩ v) (some B):=
 ⟨hg.os,hg.tape,hg.output,by simpa using hg.size,fun k hk hne=>by
  rw[Below.heap_setCell _ _ _ _ (fun e=>hne (by simp[e]))];exact hg.block k hk hne⟩
def ChgE (e:TypeId)(B T:Nat)(w w':World):Prop:= ∃row,w.grownBy w' row∧ ∀g,row=some g→B≤g∧g<T∧ ∃cur,w.heap[g]? =some (.cells cur e (0,0))
theorem ChgE.chg {e:TypeId}{B T:Nat}{w w':World}(h:ChgE e B T w w'):Chg B T w w':=by
 obtain⟨row,hg,hr⟩:=h
 exact Chg.of_grown hg (fun g e=>⟨(hr g e).1,(hr g e).2.1⟩)
theorem ChgE.refl (e:TypeId)(B T:Nat)(w:World):ChgE e B T w w:=⟨none,World.grownBy.refl _ _,fun g h=>by cases h⟩
theorem Blk.chg {w w':World}{g B T:Nat}{t:TypeId}{cs:Array Value}(h:Blk w g t cs)(hc:Chg B T w w')(hd:g<B∨T≤g):Blk w' g t cs:=(hc.block g h.lt hd).trans h
theorem OwnT.held {w:World}{B T n cap:Nat}{e:TypeId}{sz:Nat}{p:Option Addr}{K:Int}(h:OwnT w B T e sz p n cap (aX K (n*sz)))(hn:0<n):
  ∃g,p=some ⟨g,0,none⟩∧ ∀j,j<n*sz→w.cell? ⟨g,0+j,none⟩=some (.int .i64 (K+j)):=by
 rcases h.2 with⟨rfl,_⟩|⟨h2,_⟩
 ·omega
 ·rcases h2.2 with⟨_,h3⟩|⟨g,cap',cur,h1,hb,hg,hn,hm,hs,ht⟩
  ·omega
  ·injection h1 with e1 e2 e3
   refine⟨g,e1,fun j hj=> ?_⟩
   subst e1
   rw[Nat.zero_add,h2.cellAt j hj]
   exact jG _ _ _ hj
set_option maxRecDepth 100000 in
set_option maxHeartbeats 1000000 in
theorem tS (g n cap base:Nat)(xs:List Value)(K0:Int)(w:World)(hn2:n≤1099511627776)(h0:0≤K0)(h1:K0≤4611686018427387904)
  (HO:Hid (w.ownsRow base TI 1 (.slice (some ⟨g,0,none⟩) n cap) n xs)):
  Calls Tryz.prog 89 #[.slice (some ⟨g,0,none⟩) n cap,.int .i64 K0] w fun e w'=>e= .returned (.int .i64 (K0+(n*1:Nat)))∧w'.ownsRow base TI 1 (.slice (some ⟨g,0,none⟩) n cap) n (aX K0 (n*1))∧w.grownBy w' (some g):=by
 go_enter Tryz.func89,Tryz.ntmps89
 go_wp2
 go_loopw [1,5] (fun kk i wr=> ∃(k:Nat) (K:Int) (rest:List Value),k≤n∧kk= .int .i64 K∧i= .int .i64 k∧K=K0+(k*1:Nat)∧rest.length=(n-k)*1∧wr.ownsRow base TI 1 (.slice (some ⟨g,0,none⟩) n cap) n (aX K0 (k*1)++rest)∧w.grownBy wr (some g)) (fun _ i _=>n-(intOf i).toNat)
 case atStart=>exact⟨0,K0,xs,Nat.zero_le _,rfl,rfl,by simp,by rw[HO.out.1];simp,by simpa[aX]using HO.out,World.grownBy.refl _ _⟩
 case round=>
  obtain⟨k,K,rest,hk,rfl,rfl,hK,hrl,hown,hg⟩:=hrel
  have hK1:0≤K:=by omega
  have hK2:K≤4611697013543665664:=by omega
  have HK:=xQ hK
  have HOWN:=xQ hown
  have HRL:=xQ hrl
  have HG:=xQ hg
  clear hK hown hrl hg
  by_cases hlt:k<n
  ·obtain⟨r0,rest',hrest⟩: ∃r0 rest',rest=r0::rest':=by
    have h3:1≤rest.length:=by
     rw[HRL.out]
     have:=Nat.mul_le_mul_right 1 (show 1≤n-k by omega)
     omega
    match rest,h3 with
    |r0::rest',_=>exact⟨r0,rest',rfl⟩
   have hpl:(aX K0 (k*1)).length=k*1:=fL _ _
   have o0:wr.cell? ⟨g,k,none⟩=some r0:=by rw[HOWN.out.cellAt _ (by have:=Nat.mul_le_mul_right 1 hlt;rw[Nat.succ_mul]at this;omega),hrest,List.getElem?_append_right (by omega),hpl];simp
   have f0:wr.frozen? ⟨g,k,none⟩=false:=HOWN.out.frozenAt _
   have HPL:=xQ hpl
   have HREST:=xQ hrest
   clear hpl hrest
   go_wp2
   go_roundw
   case rel=>
    refine⟨k+1,K+1,rest',by omega,by go_num,by go_num,by rw[HK.out];omega,?_,?_,?_⟩
    ·have:=HRL.out
     rw[HREST.out]at this
     simp only[List.length_cons]at this
     have e2:n-k=(n-(k+1))+1:=by omega
     rw[e2,Nat.succ_mul]at this
     omega
    ·have hs:=(HOWN.out.stored (k) (.int .i64 (K))).1
     have e:((aX K0 (k*1)++rest).set (k) (.int .i64 (K)))=aX K0 ((k+1)*1)++rest':=by
      rw[vX,HREST.out,←HK.out]
      have:=HPL.out
      try simp only[Nat.mul_one]at this
      simp[this]
     rw[e]at hs
     exact hs
    ·exact(aEh HG.out _ _)
   case measure=>simp[intOf];omega
  ·obtain rfl:k=n:=by omega
   have e2:rest= []:=List.eq_nil_of_length_eq_zero (by rw[HRL.out];simp)
   have HE2:=xQ e2
   clear e2
   go_wp2
   go_ret
   refine⟨dR (by simpa using HK.out),?_,HG.out⟩
   have:=HOWN.out
   rw[HE2.out]at this
   simpa using this
set_option maxRecDepth 100000 in
set_option maxHeartbeats 1000000 in
theorem tR (p:Option Addr)(cap:Nat)(K0:Int)(w:World):
  Calls Tryz.prog 89 #[.slice p 0 cap,.int .i64 K0] w fun e w'=>e= .returned (.int .i64 K0)∧w=w':=by
 go_enter Tryz.func89,Tryz.ntmps89
 go_wp2
 go_rounds 1
 go_ret
 exact⟨rfl,rfl⟩
set_option maxRecDepth 100000 in
set_option maxHeartbeats 1000000 in
theorem uD (b off n cap:Nat)(K0:Int)(w:World)(hn2:n≤1099511627776)(h0:0≤K0)(h1:K0≤4611686018427387904)
  (HR:Hid (∀j,j<n*1→w.cell? ⟨b,off+j,none⟩=some (.int .i64 (K0+j)))):
  Calls Tryz.prog 90 #[.slice (some ⟨b,off,none⟩) n cap,.int .i64 K0] w fun e w'=>e= .returned (.int .i64 (K0+(n*1:Nat)))∧w=w':=by
 go_enter Tryz.func90,Tryz.ntmps90
 go_wp2
 go_loop [1,5] (fun kk i=> ∃(k:Nat) (K:Int),k≤n∧kk= .int .i64 K∧i= .int .i64 k∧K=K0+(k*1:Nat)) (fun _ i=>n-(intOf i).toNat)
 case atStart=>exact⟨0,K0,Nat.zero_le _,rfl,rfl,by simp⟩
 case round=>
  obtain⟨k,K,hk,rfl,rfl,hK⟩:=hrel
  have hK1:0≤K:=by omega
  have hK2:K≤4611697013543665664:=by omega
  by_cases hlt:k<n
  ·have hmul:=Nat.mul_le_mul_right 1 hlt
   rw[Nat.succ_mul]at hmul
   have v0:w.cell? ⟨b,off+k,none⟩=some (.int .i64 (K)):=by have:=HR.out (k) (by omega);rw[show(K:Int)=K0+((k:Nat):Int) by omega];exact this
   have HK:=xQ hK
   clear hK hmul
   go_wp2
   go_round
   case rel=>exact⟨k+1,K+1,by omega,by go_num,by go_num,by rw[HK.out];omega⟩
   case measure=>simp[intOf];omega
  ·obtain rfl:k=n:=by omega
   have HK:=xQ hK
   clear hK
   go_wp2
   go_ret
   exact⟨dR (by simpa using HK.out),rfl⟩
set_option maxRecDepth 100000 in
set_option maxHeartbeats 1000000 in
theorem uC (p:Option Addr)(cap:Nat)(K0:Int)(w:World):
  Calls Tryz.prog 90 #[.slice p 0 cap,.int .i64 K0] w fun e w'=>e= .returned (.int .i64 K0)∧w=w':=by
 go_enter Tryz.func90,Tryz.ntmps90
 go_wp2
 go_rounds 1
 go_ret
 exact⟨rfl,rfl⟩
set_option maxRecDepth 100000 in
set_option maxHeartbeats 1000000 in
theorem qE (g n cap base:Nat)(xs:List Value)(K0:Int)(w:World)(hn2:n≤1099511627776)(h0:0≤K0)(h1:K0≤4611686018427387904)
  (HO:Hid (w.ownsRow base TV 4 (.slice (some ⟨g,0,none⟩) n cap) n xs)):
  Calls Tryz.prog 50 #[.slice (some ⟨g,0,none⟩) n cap,.int .i64 K0] w fun e w'=>e= .returned (.int .i64 (K0+(n*4:Nat)))∧w'.ownsRow base TV 4 (.slice (some ⟨g,0,none⟩) n cap) n (aX K0 (n*4))∧w.grownBy w' (some g):=by
 go_enter Tryz.func50,Tryz.ntmps50
 go_wp2
 go_loopw [1,5] (fun kk i wr=> ∃(k:Nat) (K:Int) (rest:List Value),k≤n∧kk= .int .i64 K∧i= .int .i64 k∧K=K0+(k*4:Nat)∧rest.length=(n-k)*4∧wr.ownsRow base TV 4 (.slice (some ⟨g,0,none⟩) n cap) n (aX K0 (k*4)++rest)∧w.grownBy wr (some g)) (fun _ i _=>n-(intOf i).toNat)
 case atStart=>exact⟨0,K0,xs,Nat.zero_le _,rfl,rfl,by simp,by rw[HO.out.1];simp,by simpa[aX]using HO.out,World.grownBy.refl _ _⟩
 case round=>
  obtain⟨k,K,rest,hk,rfl,rfl,hK,hrl,hown,hg⟩:=hrel
  have hK1:0≤K:=by omega
  have hK2:K≤4611697013543665664:=by omega
  have HK:=xQ hK
  have HOWN:=xQ hown
  have HRL:=xQ hrl
  have HG:=xQ hg
  clear hK hown hrl hg
  by_cases hlt:k<n
  ·obtain⟨r0,r1,r2,r3,rest',hrest⟩: ∃r0 r1 r2 r3 rest',rest=r0::r1::r2::r3::rest':=by
    have h3:4≤rest.length:=by
     rw[HRL.out]
     have:=Nat.mul_le_mul_right 4 (show 1≤n-k by omega)
     omega
    match rest,h3 with
    |r0::r1::r2::r3::rest',_=>exact⟨r0,r1,r2,r3,rest',rfl⟩
   have hpl:(aX K0 (k*4)).length=k*4:=fL _ _
   have o0:wr.cell? ⟨g,k*4,none⟩=some r0:=by rw[HOWN.out.cellAt _ (by have:=Nat.mul_le_mul_right 4 hlt;rw[Nat.succ_mul]at this;omega),hrest,List.getElem?_append_right (by omega),hpl];simp
   have f0:wr.frozen? ⟨g,k*4,none⟩=false:=HOWN.out.frozenAt _
   have o1:wr.cell? ⟨g,k*4+1,none⟩=some r1:=by rw[HOWN.out.cellAt _ (by have:=Nat.mul_le_mul_right 4 hlt;rw[Nat.succ_mul]at this;omega),hrest,List.getElem?_append_right (by omega),hpl];simp
   have f1:wr.frozen? ⟨g,k*4+1,none⟩=false:=HOWN.out.frozenAt _
   have o2:wr.cell? ⟨g,k*4+2,none⟩=some r2:=by rw[HOWN.out.cellAt _ (by have:=Nat.mul_le_mul_right 4 hlt;rw[Nat.succ_mul]at this;omega),hrest,List.getElem?_append_right (by omega),hpl];simp
   have f2:wr.frozen? ⟨g,k*4+2,none⟩=false:=HOWN.out.frozenAt _
   have o3:wr.cell? ⟨g,k*4+3,none⟩=some r3:=by rw[HOWN.out.cellAt _ (by have:=Nat.mul_le_mul_right 4 hlt;rw[Nat.succ_mul]at this;omega),hrest,List.getElem?_append_right (by omega),hpl];simp
   have f3:wr.frozen? ⟨g,k*4+3,none⟩=false:=HOWN.out.frozenAt _
   have HPL:=xQ hpl
   have HREST:=xQ hrest
   clear hpl hrest
   go_wp2
   go_roundw
   case rel=>
    refine⟨k+1,K+1+1+1+1,rest',by omega,by go_num,by go_num,by rw[HK.out];omega,?_,?_,?_⟩
    ·have:=HRL.out
     rw[HREST.out]at this
     simp only[List.length_cons]at this
     have e2:n-k=(n-(k+1))+1:=by omega
     rw[e2,Nat.succ_mul]at this
     omega
    ·have hs:=((((HOWN.out.stored (k*4) (.int .i64 (K))).1.stored (k*4+1) (.int .i64 (K+1))).1.stored (k*4+2) (.int .i64 (K+1+1))).1.stored (k*4+3) (.int .i64 (K+1+1+1))).1
     have e:(((((aX K0 (k*4)++rest).set (k*4) (.int .i64 (K))).set (k*4+1) (.int .i64 (K+1))).set (k*4+2) (.int .i64 (K+1+1))).set (k*4+3) (.int .i64 (K+1+1+1)))=aX K0 ((k+1)*4)++rest':=by
      rw[vW,HREST.out,←HK.out]
      have:=HPL.out
      try simp only[Nat.mul_one]at this
      simp[this]
     rw[e]at hs
     exact hs
    ·exact(aEh (aEh (aEh (aEh HG.out _ _) _ _) _ _) _ _)
   case measure=>simp[intOf];omega
  ·obtain rfl:k=n:=by omega
   have e2:rest= []:=List.eq_nil_of_length_eq_zero (by rw[HRL.out];simp)
   have HE2:=xQ e2
   clear e2
   go_wp2
   go_ret
   refine⟨dR (by simpa using HK.out),?_,HG.out⟩
   have:=HOWN.out
   rw[HE2.out]at this
   simpa using this
set_option maxRecDepth 100000 in
set_option maxHeartbeats 1000000 in
theorem qD (p:Option Addr)(cap:Nat)(K0:Int)(w:World):
  Calls Tryz.prog 50 #[.slice p 0 cap,.int .i64 K0] w fun e w'=>e= .returned (.int .i64 K0)∧w=w':=by
 go_enter Tryz.func50,Tryz.ntmps50
 go_wp2
 go_rounds 1
 go_ret
 exact⟨rfl,rfl⟩
set_option maxRecDepth 100000 in
set_option maxHeartbeats 1000000 in
theorem qP (b off n cap:Nat)(K0:Int)(w:World)(hn2:n≤1099511627776)(h0:0≤K0)(h1:K0≤4611686018427387904)
  (HR:Hid (∀j,j<n*4→w.cell? ⟨b,off+j,none⟩=some (.int .i64 (K0+j)))):
  Calls Tryz.prog 52 #[.slice (some ⟨b,off,none⟩) n cap,.int .i64 K0] w fun e w'=>e= .returned (.int .i64 (K0+(n*4:Nat)))∧w=w':=by
 go_enter Tryz.func52,Tryz.ntmps52
 go_wp2
 go_loop [1,5] (fun kk i=> ∃(k:Nat) (K:Int),k≤n∧kk= .int .i64 K∧i= .int .i64 k∧K=K0+(k*4:Nat)) (fun _ i=>n-(intOf i).toNat)
 case atStart=>exact⟨0,K0,Nat.zero_le _,rfl,rfl,by simp⟩
 case round=>
  obtain⟨k,K,hk,rfl,rfl,hK⟩:=hrel
  have hK1:0≤K:=by omega
  have hK2:K≤4611697013543665664:=by omega
  by_cases hlt:k<n
  ·have hmul:=Nat.mul_le_mul_right 4 hlt
   rw[Nat.succ_mul]at hmul
   have v0:w.cell? ⟨b,off+k*4,none⟩=some (.int .i64 (K)):=by have:=HR.out (k*4) (by omega);rw[show(K:Int)=K0+((k*4:Nat):Int) by omega];exact this
   have v1:w.cell? ⟨b,off+k*4+1,none⟩=some (.int .i64 (K+1)):=by have:=HR.out (k*4+1) (by omega);rw[show(K+1:Int)=K0+((k*4+1:Nat):Int) by omega];exact this
   have v2:w.cell? ⟨b,off+k*4+2,none⟩=some (.int .i64 (K+1+1)):=by have:=HR.out (k*4+2) (by omega);rw[show(K+1+1:Int)=K0+((k*4+2:Nat):Int) by omega];exact this
   have v3:w.cell? ⟨b,off+k*4+3,none⟩=some (.int .i64 (K+1+1+1)):=by have:=HR.out (k*4+3) (by omega);rw[show(K+1+1+1:Int)=K0+((k*4+3:Nat):Int) by omega];exact this
   have HK:=xQ hK
   clear hK hmul
   go_wp2
   go_round
   case rel=>exact⟨k+1,K+1+1+1+1,by omega,by go_num,by go_num,by rw[HK.out];omega⟩
   case measure=>simp[intOf];omega
  ·obtain rfl:k=n:=by omega
   have HK:=xQ hK
   clear hK
   go_wp2
   go_ret
   exact⟨dR (by simpa using HK.out),rfl⟩
set_option maxRecDepth 100000 in
set_option maxHeartbeats 1000000 in
theorem qO (p:Option Addr)(cap:Nat)(K0:Int)(w:World):
  Calls Tryz.prog 52 #[.slice p 0 cap,.int .i64 K0] w fun e w'=>e= .returned (.int .i64 K0)∧w=w':=by
 go_enter Tryz.func52,Tryz.ntmps52
 go_wp2
 go_rounds 1
 go_ret
 exact⟨rfl,rfl⟩
theorem ChgE.pre {e:TypeId}{B T:Nat}{w a w':World}(h:ChgE e B T a w')(hx:Ext w a)(hT:T≤w.heap.size):ChgE e B T w w':=by
 obtain⟨row,hg,hr⟩:=h
 refine⟨row,⟨hg.os.trans hx.os,hg.tape.trans hx.tape,hg.output.trans hx.output,Nat.le_trans hx.size hg.size,fun i hi hne=>(hg.block i (Nat.lt_of_lt_of_le hi hx.size) hne).trans (hx.block i hi)⟩,fun g e=> ?_⟩
 obtain⟨h1,h2,cur,h3⟩:=hr g e
 exact⟨h1,h2,cur,by rw[←hx.block g (by omega)];exact h3⟩
end Go.Proofs.YtahglfakiobbcaaGreatDoor
