/-
  Texts of this proof, packed (@packed).
-/
import Derived.Test.YtgnkoffndhmhpaaGreatDoorR10
import Derived.Test.YtgnkoffndhmhpaaGreatDoorR24
import Derived.Test.YtgnkoffndhmhpaaGreatDoorR26
import Derived.Test.YtgnkoffndhmhpaaGreatDoorR36
namespace Go.Proofs.YtgnkoffndhmhpaaGreatDoor
open Go.RowKit
set_option linter.unusedVariables false
set_option linter.unusedSimpArgs false
theorem yW (h:aT)(k a b:Int)(p:OA)(n cap:Nat)(q:OA)(m c2:Nat)(w:World)(hi:IsHouse w h p n cap q m c2)(hok:bK h=true)(hE:BitTab w):
  Calls Tryz.prog 27 #[bS h p n cap q m c2,aIi k a b] w (aCz h (cG h k a b) w):=by
 obtain⟨q1,q2,q3,q4,q5⟩:=(fP h).1 hok
 have hsm:=iQ hok
 have hl:=hi.clen
 have hvl:=hi.vlen
 have hS:=hi.cells
 have hV:=hi.vs
 subst hl hvl
 have HVd:=xQ fun(w':World) (hx:Ext w w')=>(by have:=mQ h p _ cap q _ c2 w' (hi.ext hx);rwa[hok]at this:Calls Tryz.prog 30 #[bS h p h.cells.length cap q h.vs.length c2] w' fun e w''=>e= .returned (.bool true)∧Ext w' w'')
 have HL:=xQ fun(w':World) (hx:Ext w w')=>nE h p _ cap q _ c2 w' (by omega) (by omega) (hi.ext hx)
 unfold RetHouse at HL
 by_cases k0:k=0
 ·subst k0
  have e0:cG h 0 a b=(if 0≤(bZ h.aA h.aB h.cells a).2 then some ({h with cells:=(bZ h.aA h.aB h.cells a).1,vs:=iZ (a,h.aC,0,h.aC) h.vs},(bZ h.aA h.aB h.cells a).2)else none):=by unfold cG;rw[if_pos rfl]
  have el:(bZ h.aA h.aB h.cells a).1.length=h.cells.length:=by
   by_cases h0:0≤(bZ h.aA h.aB h.cells a).2
   ·obtain⟨zs,s1,_,_,s4,_⟩:=nF q1 h0
    rw[s4,List.length_set,s1.length_eq]
   ·unfold bZ at h0⊢
    split at h0
    ·rfl
    ·dsimp only at h0;omega
  have HP: ∀(w':World) (p1:OA) (cp1:Nat),Sl w' p1 h.cells.length cp1 1 (ivs h.cells)→Calls Tryz.prog 112 #[aI h.aA h.aB p1 h.cells.length cp1,a] w' fun e w''=> ∃q c,e= .returned (.tuple #[aI h.aA h.aB q h.cells.length c,.int .i64 (bZ h.aA h.aB h.cells a).2])∧w''.ownsRow w'.heap.size TI 1 (.slice q h.cells.length c) h.cells.length (ivs (bZ h.aA h.aB h.cells a).1)∧Ext w' w'':=fun w' p1 cp1 hs=>by
   have:=aDy h.aA h.aB a p1 _ cp1 h.cells w' hs q1
   unfold cI at this
   rw[el]at this
   exact this
  rw[e0]
  by_cases h0:0≤(bZ h.aA h.aB h.cells a).2
  ·rw[if_pos h0]
   refine(jM h.aA h.aB h.free h.step h.aE h.aF h.aC h.aG 0 a b h.aC h.aG (bZ h.aA h.aB h.cells a).2 p _ cap q _ c2 (h.vs.length+1) h.cells (bZ h.aA h.aB h.cells a).1 h.vs (iZ (a,h.aC,0,h.aC) h.vs) w HVd HL (.inr (.inr (.inl ⟨rfl,rfl,fun w' R gA p1 cp1 q1 cq1 hM=> ?_⟩)))).mono ?_
   ·exact aBr w w' R gA h.aA h.aB h.free h.step h.aE h.aF h.aC h.aG a _ p1 _ cp1 q1 _ cq1 h.cells _ h.vs (by omega) h0 rfl hM (fun w2 hx=>HP w2 p1 cp1 ((Mem.sl hM (i:=0) rfl).ext hx))
   ·rintro e w' ⟨p',cap',q',c2',rfl,o1,o2,hx⟩
    refine⟨p',cap',q',c2',?_,?_,?_,hx⟩
    ·simp[bS,el,nZ]
    ·dsimp only;rw[el];exact o1
    ·dsimp only;rw[nZ];exact o2
  ·rw[if_neg h0]
   exact fO h.aA h.aB h.free h.step h.aE h.aF h.aC h.aG 0 a b p _ cap q _ c2 h.cells h.cells h.vs w HVd HL (.inr (.inr (.inr (.inr (.inl ⟨rfl,fun w' R gA p1 cp1 q1 cq1 hM=>aEe w' gA h.aA h.aB h.free h.step h.aE h.aF h.aC h.aG a _ p1 _ cp1 q1 _ cq1 _ (by omega) (Mem.blk hM (i:=2) rfl) (fun w2 hx2=>HP w2 p1 cp1 ((Mem.sl hM (i:=0) rfl).ext hx2))⟩)))))
 by_cases k1:k=1
 ·subst k1
  have e0:cG h 1 a b=nH h a b:=by unfold cG;rw[if_neg (by omega),if_pos rfl]
  rw[e0]
  rcases kL a h.vs with⟨h1,h2⟩|⟨kk,a1,a2,a3,hk,h1,hx,h2⟩
  ·have hr:nH h a b=none:=by unfold nH;rw[h2]
   rw[hr]
   exact fO h.aA h.aB h.free h.step h.aE h.aF h.aC h.aG 1 a b p _ cap q _ c2 h.cells h.cells h.vs w HVd HL (.inr (.inr (.inr (.inr (.inr (.inl ⟨rfl,fun w' R gA p1 cp1 q1 cq1 hM=>zH w' gA h.aA h.aB h.free h.step h.aE h.aF h.aC h.aG a b p1 _ cp1 q1 _ cq1 (Mem.blk hM (i:=2) rfl) (fun w2 hx2=>by
    have:=gW h.aA h.aB h.free h.step h.aE h.aF h.aC h.aG a p1 h.cells.length cp1 q1 _ cq1 h.vs w2 ((Mem.sl hM (i:=1) rfl).ext hx2)
    rwa[h1]at this)⟩))))))
  ·obtain⟨s1,s2⟩:=(iH _ _).1 (q5 _ (List.mem_of_getElem? hx))
   dsimp only at s1 s2
   have hD:=(jH q2 s1 s2 q3.2.1).1
   have HP:=fun(w':World)=>yR h.free h.step h.aE h.aF a1 a2 a3 h.aC b w' q2 s1 s2 q3.2.1
   have hok':=vL (amt:=b) hD
   have hr:nH h a b=if(fN h.free h.step h.aE h.aF a1 a2 a3 h.aC b).2.2=true∧h.aG+b-(fN h.free h.step h.aE h.aF a1 a2 a3 h.aC b).2.1≤99999 then some ({h with aG:=h.aG+b-(fN h.free h.step h.aE h.aF a1 a2 a3 h.aC b).2.1,vs:=h.vs.set kk (a,(fN h.free h.step h.aE h.aF a1 a2 a3 h.aC b).1)},(fN h.free h.step h.aE h.aF a1 a2 a3 h.aC b).2.1)else none:=by
    unfold nH
    rw[h2,h1]
    rfl
   rw[hr]
   generalize fN h.free h.step h.aE h.aF a1 a2 a3 h.aC b=r at*
   obtain⟨⟨S1,S2,S3⟩,bk,okb⟩:=r
   dsimp only at HP hok'⊢
   have HVX: ∀(w':World) (p1:OA) (cp1:Nat) (q1:OA) (cq1:Nat),Sl w' q1 h.vs.length cq1 4 (h.vs.flatMap aD)→Calls Tryz.prog 94 #[.agg #[h.aA,h.aB,.slice p1 h.cells.length cp1,h.free,h.step,h.aE,h.aF,h.aC,h.aG,.slice q1 h.vs.length cq1],a] w' fun e w''=>e= .returned (.int .i64 (kk:Int))∧Ext w' w'':=fun w' p1 cp1 q1 cq1 hs=>by
    have:=gW h.aA h.aB h.free h.step h.aE h.aF h.aC h.aG a p1 h.cells.length cp1 q1 _ cq1 h.vs w' hs
    rwa[h1]at this
   by_cases hq:okb=true∧h.aG+b-bk≤99999
   ·rw[if_pos hq]
    refine(jM h.aA h.aB h.free h.step h.aE h.aF h.aC h.aG 1 a b h.aC (h.aG+b-bk) bk p _ cap q _ c2 h.vs.length h.cells h.cells h.vs (h.vs.set kk (a,S1,S2,S3)) w HVd HL (.inr (.inr (.inr (.inl ⟨rfl,rfl,fun w' R gA p1 cp1 q1 cq1 hM=> ?_⟩))))).mono ?_
    ·obtain⟨gq,rfl,_,_⟩:=Mem.some hM (i:=1) rfl (by omega)
     refine(zG w w' R gA gq h.aA h.aB h.free h.step h.aE h.aF h.aC h.aG a b p1 _ cp1 _ cq1 kk h.cells h.vs a a1 a2 a3 S1 S2 S3 bk okb hk (by omega) q3.2.2.1 q3.2.2.2 hok' hx hM (fun w2 hx2=>HVX w2 p1 cp1 _ cq1 ((Mem.sl hM (i:=1) rfl).ext hx2)) HP).mono ?_
     rintro e w2 (⟨_,hno,_⟩|⟨_,_,rfl,hM2⟩)
     ·exact absurd hq hno
     ·exact⟨p1,cp1,_,cq1,rfl,hM2⟩
    ·rintro e w' ⟨p',cap',q',c2',rfl,o1,o2,hx⟩
     refine⟨p',cap',q',c2',?_,o1,?_,hx⟩
     ·simp[bS]
     ·simpa using o2
   ·rw[if_neg hq]
    refine fO h.aA h.aB h.free h.step h.aE h.aF h.aC h.aG 1 a b p _ cap q _ c2 h.cells h.cells h.vs w HVd HL (.inr (.inr (.inr (.inr (.inr (.inl ⟨rfl,fun w' R gA p1 cp1 q1 cq1 hM=> ?_⟩))))))
    obtain⟨gq,rfl,_,_⟩:=Mem.some hM (i:=1) rfl (by omega)
    refine(zG w w' R gA gq h.aA h.aB h.free h.step h.aE h.aF h.aC h.aG a b p1 _ cp1 _ cq1 kk h.cells h.vs a a1 a2 a3 S1 S2 S3 bk okb hk (by omega) q3.2.2.1 q3.2.2.2 hok' hx hM (fun w2 hx2=>HVX w2 p1 cp1 _ cq1 ((Mem.sl hM (i:=1) rfl).ext hx2)) HP).mono ?_
    rintro e w2 (⟨rfl,_,hx2⟩|⟨e1,e2,_,_⟩)
    ·exact⟨rfl,hx2⟩
    ·exact absurd ⟨e1,e2⟩ hq
 by_cases k2:k=2
 ·subst k2
  have HP: ∀(w':World) (p1:OA) (cp1:Nat),Ext w w'→Sl w' p1 h.cells.length cp1 1 (ivs h.cells)→Calls Tryz.prog 116 #[aI h.aA h.aB p1 h.cells.length cp1,a] w' fun e w''=> ∃q c,e= .returned (.tuple #[aI h.aA h.aB q h.cells.length c,.int .i64 (bQ h.aA h.aB h.cells a).2])∧w''.ownsRow w'.heap.size TI 1 (.slice q h.cells.length c) h.cells.length (ivs (bQ h.aA h.aB h.cells a).1)∧Ext w' w'':=fun w' p1 cp1 hx hs=>by
   have:=aEb h.aA h.aB a p1 _ cp1 h.cells w' hs q1 (hE.ext hx)
   have el:(bQ h.aA h.aB h.cells a).1.length=h.cells.length:=by
    by_cases h0:0≤(bQ h.aA h.aB h.cells a).2
    ·obtain⟨zs,s1,_,_,s4,_⟩:=lD q1 h0
     rw[s4,List.length_set,s1.length_eq]
    ·unfold bQ at h0⊢
     split at h0
     ·rfl
     ·dsimp only at h0;omega
   unfold cI at this
   rw[el]at this
   exact this
  have el:(bQ h.aA h.aB h.cells a).1.length=h.cells.length:=by
   by_cases h0:0≤(bQ h.aA h.aB h.cells a).2
   ·obtain⟨zs,s1,_,_,s4,_⟩:=lD q1 h0
    rw[s4,List.length_set,s1.length_eq]
   ·unfold bQ at h0⊢
    split at h0
    ·rfl
    ·dsimp only at h0;omega
  have HM: ∀(w':World) (p1:OA) (cp1:Nat) (q1:OA) (cq1:Nat),Sl w' p1 h.cells.length cp1 1 (ivs h.cells)→Sl w' q1 h.vs.length cq1 4 (h.vs.flatMap aD)→Calls Tryz.prog 115 #[.agg #[h.aA,h.aB,.slice p1 h.cells.length cp1,h.free,h.step,h.aE,h.aF,h.aC,h.aG,.slice q1 h.vs.length cq1],a] w' fun e w''=>e= .returned (.bool (eC h a))∧Ext w' w'':=fun w' p1 cp1 q1 cq1 hs hv=>vU h a p1 _ cp1 q1 _ cq1 w' ⟨hs,hv⟩
  have e0:cG h 2 a b=(if eC h a=true∧0≤(bQ h.aA h.aB h.cells a).2 then some ({h with cells:=(bQ h.aA h.aB h.cells a).1,vs:=h.vs.eraseIdx (vix a h.vs).toNat},(bQ h.aA h.aB h.cells a).2)else none):=by unfold cG;rw[if_neg (by omega),if_neg (by omega),if_pos rfl]
  rw[e0]
  by_cases hmy:eC h a=true
  ·rw[hmy]at HM
   by_cases h0:0≤(bQ h.aA h.aB h.cells a).2
   ·rw[if_pos ⟨hmy,h0⟩]
    have hv: ∃v,eN a h.vs=some v:=by
     have:=hmy
     unfold eC dB at this
     rw[if_pos hok]at this
     cases hv:eN a h.vs with
     |none=>rw[hv]at this;simp at this
     |some v=>exact⟨v,rfl⟩
    obtain⟨v,hv⟩:=hv
    obtain⟨v1,v2,v3,v4,v5,v6⟩:=jU hv
    generalize hk:(vix a h.vs).toNat=kk at*
    have eln:(h.vs.eraseIdx kk).length=h.vs.length-1:=by rw[List.length_eraseIdx,if_pos v4]
    refine(jM h.aA h.aB h.free h.step h.aE h.aF h.aC h.aG 2 a b h.aC h.aG (bQ h.aA h.aB h.cells a).2 p _ cap q _ c2 (h.vs.length-1) h.cells (bQ h.aA h.aB h.cells a).1 h.vs (h.vs.eraseIdx kk) w HVd HL (.inr (.inr (.inr (.inr ⟨rfl,rfl,fun w' R gA p1 cp1 q1 cq1 hM=> ?_⟩))))).mono ?_
    ·obtain⟨gq,rfl,_,_⟩:=Mem.some hM (i:=1) rfl (by omega)
     refine(aBp w w' R gA h.aA h.aB h.free h.step h.aE h.aF h.aC h.aG a _ p1 _ cp1 gq _ cq1 kk h.cells _ h.vs v4 (by omega) h0 hM (fun w2 hx2=>HM w2 p1 cp1 _ cq1 ((Mem.sl hM (i:=0) rfl).ext hx2) ((Mem.sl hM (i:=1) rfl).ext hx2)) (fun w2 hx2=>HP w2 p1 cp1 (hM.ext.trans hx2) ((Mem.sl hM (i:=0) rfl).ext hx2)) (fun w2 p' cap' hs=> ?_)).mono ?_
     ·have:=gW h.aA h.aB h.free h.step h.aE h.aF h.aC h.aG a p' h.cells.length cap' _ _ cq1 h.vs w2 hs
      rwa[v5]at this
     ·rintro e w2 ⟨p5,c5,rfl,hM2⟩
      exact⟨p5,c5,_,cq1,rfl,hM2⟩
    ·rintro e w' ⟨p',cap',q',c2',rfl,o1,o2,hx⟩
     refine⟨p',cap',q',c2',?_,?_,?_,hx⟩
     ·simp only[bS,el,eln]
     ·dsimp only;rw[el];exact o1
     ·dsimp only;rw[eln];exact o2
   ·rw[if_neg (by intro e;exact h0 e.2)]
    exact fO h.aA h.aB h.free h.step h.aE h.aF h.aC h.aG 2 a b p _ cap q _ c2 h.cells h.cells h.vs w HVd HL (.inr (.inr (.inr (.inr (.inr (.inr ⟨rfl,fun w' R gA p1 cp1 q1 cq1 hM=>aEd w' gA h.aA h.aB h.free h.step h.aE h.aF h.aC h.aG a _ p1 _ cp1 q1 _ cq1 _ (by omega) (Mem.blk hM (i:=2) rfl) (fun w2 hx2=>HM w2 p1 cp1 _ cq1 ((Mem.sl hM (i:=0) rfl).ext hx2) ((Mem.sl hM (i:=1) rfl).ext hx2)) (fun w2 hx2=>HP w2 p1 cp1 (hM.ext.trans hx2) ((Mem.sl hM (i:=0) rfl).ext hx2))⟩))))))
  ·rw[if_neg (by intro e;exact hmy e.1)]
   have hmf:eC h a=false:=by simpa using hmy
   rw[hmf]at HM
   exact fO h.aA h.aB h.free h.step h.aE h.aF h.aC h.aG 2 a b p _ cap q _ c2 h.cells h.cells h.vs w HVd HL (.inr (.inr (.inr (.inr (.inr (.inr ⟨rfl,fun w' R gA p1 cp1 q1 cq1 hM=>aBq w' gA h.aA h.aB h.free h.step h.aE h.aF h.aC h.aG a 0 p1 _ cp1 q1 _ cq1 (Mem.blk hM (i:=2) rfl) (fun w2 hx2=>HM w2 p1 cp1 _ cq1 ((Mem.sl hM (i:=0) rfl).ext hx2) ((Mem.sl hM (i:=1) rfl).ext hx2))⟩))))))
 by_cases k3:k=3
 ·subst k3
  have e0:cG h 3 a b=(if 1≤a∧a≤9999-h.aC then some ({h with aC:=h.aC+a},h.aC+a)else none):=by unfold cG;rw[if_neg (by omega),if_neg (by omega),if_neg (by omega),if_pos rfl]
  rw[e0]
  by_cases h1:1≤a
  ·by_cases h2:a≤9999-h.aC
   ·rw[if_pos ⟨h1,h2⟩]
    exact jM h.aA h.aB h.free h.step h.aE h.aF h.aC h.aG 3 a b (h.aC+a) h.aG (h.aC+a) p _ cap q _ c2 _ h.cells _ h.vs _ w HVd HL (.inl ⟨rfl,q3.1,q3.2.1,h1,h2,rfl,rfl,rfl,rfl,rfl,rfl⟩)
   ·rw[if_neg (by omega)]
    exact fO h.aA h.aB h.free h.step h.aE h.aF h.aC h.aG 3 a b p _ cap q _ c2 h.cells h.cells h.vs w HVd HL (.inr (.inr (.inl ⟨rfl,q3.1,q3.2.1,h1,by omega⟩)))
  ·rw[if_neg (by omega)]
   exact fO h.aA h.aB h.free h.step h.aE h.aF h.aC h.aG 3 a b p _ cap q _ c2 h.cells h.cells h.vs w HVd HL (.inr (.inl ⟨rfl,q3.1,q3.2.1,by omega⟩))
 by_cases k4:k=4
 ·subst k4
  have HP:=xQ fun(w':World) (hx:Ext w w')=>tZ h.aA h.aB a b p _ cap h.cells w' (hS.ext hx) q1
  have e0:cG h 4 a b=(if bC h.aA h.aB h.cells a b=true then some ({h with cells:=bE h.aA h.aB h.cells a b},0)else none):=by unfold cG;rw[if_neg (by omega),if_neg (by omega),if_neg (by omega),if_neg (by omega),if_pos rfl]
  unfold cJ at HP
  rw[cN]at HP
  rw[e0]
  cases hm:bC h.aA h.aB h.cells a b with
  |true=>
   rw[hm]at HP
   rw[if_pos rfl]
   refine(jM h.aA h.aB h.free h.step h.aE h.aF h.aC h.aG 4 a b h.aC h.aG 0 p _ cap q _ c2 _ h.cells (bE h.aA h.aB h.cells a b) h.vs _ w HVd HL (.inr (.inl ⟨rfl,rfl,rfl,rfl,rfl,rfl,HP⟩))).mono ?_
   rintro e w' ⟨p',cap',q',c2',rfl,o1,o2,hx⟩
   refine⟨p',cap',q',c2',?_,?_,o2,hx⟩
   ·simp only[bS,cN]
   ·dsimp only;rw[cN];exact o1
  |false=>
   rw[hm]at HP
   rw[if_neg (by simp)]
   exact fO h.aA h.aB h.free h.step h.aE h.aF h.aC h.aG 4 a b p _ cap q _ c2 h.cells (bE h.aA h.aB h.cells a b) h.vs w HVd HL (.inr (.inr (.inr (.inl ⟨rfl,HP⟩))))
 have e0:cG h k a b=none:=by unfold cG;rw[if_neg k0,if_neg k1,if_neg k2,if_neg k3,if_neg k4]
 rw[e0]
 exact fO h.aA h.aB h.free h.step h.aE h.aF h.aC h.aG k a b p _ cap q _ c2 h.cells h.cells h.vs w HVd HL (.inl ⟨k0,k1,k2,k3,k4⟩)
set_option maxHeartbeats 8000000
set_option maxRecDepth 100000
theorem aI3 (h:aT)(p:OA)(cap:Nat)(q:OA)(c2:Nat)(lq:OA)(lm lc:Nat)(ds:List Dd3)(w:World)
  (HVd:xC 30 #[.agg #[h.aA,h.aB,.slice p h.cells.length cap,h.free,h.step,h.aE,h.aF,h.aC,h.aG,.slice q h.vs.length c2]] w fun w' e w''=>e= .returned (Value.bool false)∧Ext w' w''):
  Calls Tryz.prog 20 #[.agg #[h.aA,h.aB,.slice p h.cells.length cap,h.free,h.step,h.aE,h.aF,h.aC,h.aG,.slice q h.vs.length c2],.slice lq lm lc] w (lG w.heap.size (hZ,[]) w):=by
 go_enter Tryz.func20,Tryz.ntmps20
 go_wp2_with fail
 refine(HVd.out _ (Mem.b2 w).ext).mono ?_
 rintro e w1 ⟨rfl,hx1⟩
 have M1:=xQ ((Mem.b2 w).adv hx1)
 have lt1_0:=M1.out.hi 0
 have lt1_1:=M1.out.hi 1
 clear hx1 HVd
 obtain⟨f0,ff0,f1,ff1,f2,ff2,f3,ff3,f4,ff4,f5,ff5,f6,ff6,f7,ff7,f8,ff8,f9,ff9⟩:=(M1.out.blk (i:=0) rfl).tenf
 go_wp2
 clear f0 ff0 f1 ff1 f2 ff2 f3 ff3 f4 ff4 f5 ff5 f6 ff6 f7 ff7 f8 ff8 f9 ff9 lt1_0 lt1_1
 have M2:=xQ (((M1.out).put10 (i:=0) rfl (.int .i64 0) (.int .i64 0) (.slice none 0 0) (.int .i64 0) (.int .i64 0) (.int .i64 0) (.int .i64 0) (.int .i64 0) (.int .i64 0) (.slice none 0 0)))
 generalize hwz:World.setCell _ _ _=wz
 rw[hwz]at M2
 clear hwz M1
 obtain⟨y0,y1,y2,y3,y4,y5,y6,y7,y8,y9⟩:=(M2.out.blk (i:=0) rfl).ten
 exact bodyPost_ret (v:= .tuple #[.agg #[(),(),((),()),(),(),(),(),(),(),((),())],((),())]) (by simp[results,Tryz.results20,go_sem, *]) rfl (show lG w.heap.size (hZ,[]) w _ _ from⟨none,0,none,0,none,0,rfl,World.ownsRow_nil _ _ _ _,World.ownsRow_nil _ _ _ _,World.ownsRow_nil _ _ _ _,M2.out.ext⟩)
theorem aJf (h:aT)(p:OA)(cap:Nat)(q:OA)(c2:Nat)(lq:OA)(lm lc:Nat)(ds:List Dd3)(w:World)(hb:lm≤1048576)(hE:Hid (BitTab w))(hlm:Hid (ds.length=lm))(hok:Hid (bK h=true))(HS:Hid (Sl w lq lm lc 3 (ds.flatMap aX)))
  (HVd:xB 30 #[.agg #[h.aA,h.aB,.slice p h.cells.length cap,h.free,h.step,h.aE,h.aF,h.aC,h.aG,.slice q h.vs.length c2]] w true)
  (HL:xC 62 #[.agg #[h.aA,h.aB,.slice p h.cells.length cap,h.free,h.step,h.aE,h.aF,h.aC,h.aG,.slice q h.vs.length c2]] w fun w' e w''=> ∃p' cap' q' c2',e= .returned (.agg #[h.aA,h.aB,.slice p' h.cells.length cap',h.free,h.step,h.aE,h.aF,h.aC,h.aG,.slice q' h.vs.length c2'])∧w''.ownsRow w'.heap.size TI 1 (.slice p' h.cells.length cap') h.cells.length (ivs h.cells)∧w''.ownsRow w'.heap.size TV 4 (.slice q' h.vs.length c2') h.vs.length (h.vs.flatMap aD)∧Ext w' w''):
  Calls Tryz.prog 20 #[.agg #[h.aA,h.aB,.slice p h.cells.length cap,h.free,h.step,h.aE,h.aF,h.aC,h.aG,.slice q h.vs.length c2],.slice lq lm lc] w (lG w.heap.size (nY h ds,eK h ds) w):=by
 have hbd:=HS.out.bd
 obtain⟨AB,hAB⟩: ∃AB:Array Value,AB=madeCells #[.bool false] lm:=⟨_,rfl⟩
 have hmk: ∀w:World,(Instr.makeSlice 43 (.int .i64 (lm:Int)) (.int .i64 (lm:Int))).run Tryz.prog w= .ok (.slice (some ⟨w.heap.size,0,none⟩) lm lm) (w.alloc (.cells AB TB)):=fun w=>by
  rw[hAB]
  exact run_make_row' _ _ (Value.bool false) 1 Tryz.underlying43 (by kernel_rfl) rfl .i64 .i64 lm (by omega) (by omega) w
 have hB1:Hid (AB.toList=bcs []++List.replicate (lm-0) (Value.bool false)):=by
  show _=_
  rw[hAB,(kN _ lm).1];simp[bcs]
 have hB2:Hid (AB.size=lm):=by show _=_;rw[hAB];exact(kN _ lm).2
 clear hAB hbd
 go_enter Tryz.func20,Tryz.ntmps20
 go_wp2_with fail
 refine(HVd.out _ (Mem.b2 w).ext).mono ?_
 rintro e w1 ⟨rfl,hx1⟩
 have M1:=xQ ((Mem.b2 w).adv hx1)
 have lt1_0:=M1.out.hi 0
 have lt1_1:=M1.out.hi 1
 clear hx1 HVd
 obtain⟨ce0,ce1,ce2,ce3,ce4,ce5,ce6,ce7,ce8,ce9⟩:=(M1.out.blk (i:=1) rfl).ten
 go_wp2_with fail
 clear ce0 ce1 ce2 ce3 ce4 ce5 ce6 ce7 ce8 ce9
 refine(HL.out _ (M1.out).ext).mono ?_
 rintro e w2 ⟨p1,cp1,q1,cq1,rfl,ho,hq,hx⟩
 have M2:=xQ ((M1.out).own2 hx ho hq (Nat.le_refl _) (by decide))
 clear M1 lt1_0 lt1_1
 have lt2_2:=M2.out.hi 2
 have lt2_3:=M2.out.hi 3
 clear hx ho hq HL
 go_upto_region 4 with fail
 obtain⟨gV,hgV⟩: ∃gV,gV=w2.heap.size:=⟨_,rfl⟩
 rw[←hgV]
 have M3:=xQ (((M2.out).blkNew aO #[h.aA,h.aB,.slice p1 h.cells.length cp1,h.free,h.step,h.aE,h.aF,h.aC,h.aG,.slice q1 h.vs.length cq1] gV hgV.symm))
 generalize World.alloc _ _=w3 at M3⊢
 clear M2 lt2_2 lt2_3
 have lt3_0:=M3.out.hi 0
 have lt3_3:=M3.out.hi 3
 have lt3_4:=M3.out.hi 4
 clear hgV
 go_upto_region 5 with fail
 obtain⟨gD,hgD⟩: ∃gD,gD=w3.heap.size:=⟨_,rfl⟩
 rw[←hgD]
 have MD:=xQ (show Mem w (w3.alloc (.cells AB TB)) [aJ w.heap.size TB 1 (some ⟨gD,0,none⟩) (lm) (lm) (bcs ([])++List.replicate (lm-0) (Value.bool false)),aL w.heap.size (gV) aO #[h.aA,h.aB,.slice p1 h.cells.length cp1,h.free,h.step,h.aE,h.aF,h.aC,h.aG,.slice q1 h.vs.length cq1],aJ w.heap.size TI 1 (p1) (h.cells.length) (cp1) (ivs h.cells),aJ w.heap.size TV 4 (q1) (h.vs.length) (cq1) (h.vs.flatMap aD),aL w.heap.size (w.heap.size+1) aO #[(),(),((),()),(),(),(),(),(),(),((),())],aL w.heap.size (w.heap.size) aO #[h.aA,h.aB,.slice p h.cells.length cap,h.free,h.step,h.aE,h.aF,h.aC,h.aG,.slice q h.vs.length c2]]from by
  have h1:=M3.out.lit TB 1 lm gD AB hgD.symm (by rw[hB2.out];omega) (by simp[maxLen];omega)
  rw[hB1.out]at h1
  exact h1)
 generalize hw4:World.alloc _ _=w4
 rw[hw4]at MD
 clear hw4 hB1 hB2 hmk hgD M3 lt3_0 lt3_3 lt3_4
 go_wp2
 go_loopw [21] (fun i wr=> ∃(k:Nat) (g:aT) (p3:OA) (c3:Nat) (q3:OA) (d3:Nat),k≤lm∧i= .int .i64 (k:Int)∧g=nY h (ds.take k)∧Mem w wr [aJ w.heap.size TB 1 (some ⟨gD,0,none⟩) (lm) (lm) (bcs (eK h (ds.take k))++List.replicate (lm-k) (Value.bool false)),aJ w.heap.size TI 1 (p3) (g.cells.length) (c3) (ivs g.cells),aJ w.heap.size TV 4 (q3) (g.vs.length) (d3) (g.vs.flatMap aD),aL w.heap.size (gV) aO #[g.aA,g.aB,.slice p3 g.cells.length c3,g.free,g.step,g.aE,g.aF,g.aC,g.aG,.slice q3 g.vs.length d3],aL w.heap.size (w.heap.size+1) aO #[(),(),((),()),(),(),(),(),(),(),((),())],aL w.heap.size (w.heap.size) aO #[h.aA,h.aB,.slice p h.cells.length cap,h.free,h.step,h.aE,h.aF,h.aC,h.aG,.slice q h.vs.length c2]]) (fun i _=>lm-(intOf i).toNat)
 case atStart=>exact⟨0,h,p1,cp1,q1,cq1,Nat.zero_le _,rfl,rfl,(show Mem w w4 [aJ w.heap.size TB 1 (some ⟨gD,0,none⟩) (lm) (lm) (bcs ([])++List.replicate (lm-0) (Value.bool false)),aJ w.heap.size TI 1 (p1) (h.cells.length) (cp1) (ivs h.cells),aJ w.heap.size TV 4 (q1) (h.vs.length) (cq1) (h.vs.flatMap aD),aL w.heap.size (gV) aO #[h.aA,h.aB,.slice p1 h.cells.length cp1,h.free,h.step,h.aE,h.aF,h.aC,h.aG,.slice q1 h.vs.length cq1],aL w.heap.size (w.heap.size+1) aO #[(),(),((),()),(),(),(),(),(),(),((),())],aL w.heap.size (w.heap.size) aO #[h.aA,h.aB,.slice p h.cells.length cap,h.free,h.step,h.aE,h.aF,h.aC,h.aG,.slice q h.vs.length c2]]from(MD.out).pick [0,2,3,1,4,5] (by decide) rfl)⟩
 case round=>
  clear MD
  obtain⟨k,g,p3,c3,q3,d3,hk,rfl,hg,hM⟩:=hrel
  have HM:=xQ hM
  have HG:=xQ hg
  have HOK:Hid (bK g=true):=by show _=_;rw[hg];exact vJ _ hok.out
  clear hM hg
  by_cases hlt:k<lm
  ·obtain⟨b,off,a0,a1,a2,hlq,hx,hb2,e0,e1,e2⟩:=qV (HS.out.ext HM.out.ext) hlt
   subst hlq
   have HX:=xQ hx
   clear hx
   have i1:(0:Int)≤(k:Int):=by omega
   have i2:(k:Int)<(lm:Int):=by omega
   obtain⟨r,num,ok,hr⟩: ∃r num ok,(r,num,ok)=doR g a0 a1 a2:=⟨_,_,_,rfl⟩
   have HR:=xQ hr
   clear hr
   have hst:Hid (nY h (ds.take (k+1))=r∧eK h (ds.take (k+1))=eK h (ds.take k)++ [ok]):=by
    show _∧_
    rw[bF HX.out,tS,sK,←HG.out,←HR.out]
    exact⟨rfl,rfl⟩
   have HD:Hid (∀B p c q d w',B≤w'.heap.size→Ext wr w'→IsHouse w' g p g.cells.length c q g.vs.length d→Calls Tryz.prog 27 #[.agg #[g.aA,g.aB,.slice p g.cells.length c,g.free,g.step,g.aE,g.aF,g.aC,g.aG,.slice q g.vs.length d],.agg #[a0,a1,a2]] w' fun e w''=> ∃pa ca qa da,e= .returned (.tuple #[.agg #[r.aA,r.aB,.slice pa r.cells.length ca,r.free,r.step,r.aE,r.aF,r.aC,r.aG,.slice qa r.vs.length da],num,.bool ok])∧w''.ownsRow B TI 1 (.slice pa r.cells.length ca) r.cells.length (ivs r.cells)∧w''.ownsRow B TV 4 (.slice qa r.vs.length da) r.vs.length (r.vs.flatMap aD)∧Ext w' w''):=fun B p c q d w' hB hx hi=>by
    refine(yW g a0 a1 a2 p _ c q _ d w' hi HOK.out (hE.out.ext (HM.out.ext.trans hx))).mono (fun e w'' hr=> ?_)
    have hq:=aCf hB HOK.out hr
    rw[←HR.out]at hq
    exact hq
   have IX:=xQ (show IsHouse wr g p3 g.cells.length c3 q3 g.vs.length d3 from⟨(HM.out.sl (i:=1) rfl),(HM.out.sl (i:=2) rfl)⟩)
   have lt5_3:gV<wr.heap.size:=(HM.out.lt (i:=3) rfl rfl).2
   have lt5_4:w.heap.size+1<wr.heap.size:=(HM.out.lt (i:=4) rfl rfl).2
   have lt5_5:w.heap.size<wr.heap.size:=(HM.out.lt (i:=5) rfl rfl).2
   obtain⟨v0,v1,v2,v3,v4,v5,v6,v7,v8,v9⟩:=(HM.out.blk (i:=3) rfl).ten
   go_wp2_with fail
   clear v0 v1 v2 v3 v4 v5 v6 v7 v8 v9 e0 e1 e2
   refine(HD.out _ _ _ _ _ _ (Nat.le_refl _) ((Ext.refl _).alloc _) (IX.out.ext ((Ext.refl _).alloc _))).mono ?_
   rintro e w6 ⟨p5,c5,q5,d5,rfl,ho,hq,hx⟩
   have M6:=xQ ((((HM.out).blkNew TDd #[a0,a1,a2] (wr.heap.size) (by simp))).own2 hx ho hq (Nat.le_refl _) (by decide))
   clear HM lt5_3 lt5_4 lt5_5
   have lt6_2:=M6.out.hi 2
   have lt6_6:=M6.out.hi 6
   have lt6_7:=M6.out.hi 7
   have lt6_8:=M6.out.hi 8
   clear hx ho hq HD IX
   obtain⟨v0,vf0,v1,vf1,v2,vf2,v3,vf3,v4,vf4,v5,vf5,v6,vf6,v7,vf7,v8,vf8,v9,vf9⟩:=(M6.out.blk (i:=6) rfl).tenf
   have ltD:gD<w6.heap.size:=(M6.out.lt (i:=3) rfl rfl).2
   have nD1: ¬(gD=gV):=M6.out.ne (i:=3) (j:=6) (by omega) rfl rfl rfl rfl
   have nD2: ¬(gV=gD):=fun h=>nD1 h.symm
   have fD:w6.frozen? ⟨gD,k,none⟩=false:=(M6.out.own (i:=3) rfl).frozenAt k
   have hk1:(bcs (eK h (ds.take k))).length=k:=by rw[aCv,pR,List.length_take,hlm.out];omega
   have cD:w6.cell? ⟨gD,k,none⟩=some (Value.bool false):=by have:=(M6.out.own (i:=3) rfl).cellAt k (by omega);rw[this];exact aIb hk1 hlt
   go_wp2
   clear v0 vf0 v1 vf1 v2 vf2 v3 vf3 v4 vf4 v5 vf5 v6 vf6 v7 vf7 v8 vf8 v9 vf9 ltD nD1 nD2 fD cD
   have M9:=xQ ((((M6.out).put10 (i:=6) rfl (.int .i64 r.aA) (.int .i64 r.aB) (.slice p5 r.cells.length c5) (.int .i64 r.free) (.int .i64 r.step) (.int .i64 r.aE) (.int .i64 r.aF) (.int .i64 r.aC) (.int .i64 r.aG) (.slice q5 r.vs.length d5))).ostore (i:=3) rfl k (Value.bool ok))
   generalize hwz:World.setCell _ _ _=wz
   rw[hwz]at M9
   clear hwz M6 lt6_2 lt6_6 lt6_7 lt6_8
   go_roundw
   case rel=>
    have hd:(bcs (eK h (ds.take k))++List.replicate (lm-k) (Value.bool false)).set k (Value.bool ok)=bcs (eK h (ds.take (k+1)))++List.replicate (lm-(k+1)) (Value.bool false):=by
     rw[hst.out.2,zY]
     exact aHa hk1 hlt
    exact⟨k+1,r,p5,c5,q5,d5,by omega,by go_num,hst.out.1.symm,by rw[←hd];exact(show Mem w wz [aJ w.heap.size TB 1 (some ⟨gD,0,none⟩) (lm) (lm) ((bcs (eK h (ds.take k))++List.replicate (lm-k) (Value.bool false)).set k (Value.bool ok)),aJ w.heap.size TI 1 (p5) (r.cells.length) (c5) (ivs r.cells),aJ w.heap.size TV 4 (q5) (r.vs.length) (d5) (r.vs.flatMap aD),aL w.heap.size (gV) aO #[r.aA,r.aB,.slice p5 r.cells.length c5,r.free,r.step,r.aE,r.aF,r.aC,r.aG,.slice q5 r.vs.length d5],aL w.heap.size (w.heap.size+1) aO #[(),(),((),()),(),(),(),(),(),(),((),())],aL w.heap.size (w.heap.size) aO #[h.aA,h.aB,.slice p h.cells.length cap,h.free,h.step,h.aE,h.aF,h.aC,h.aG,.slice q h.vs.length c2]]from(show Mem w wz [aJ w.heap.size TI 1 (p5) (r.cells.length) (c5) (ivs r.cells),aJ w.heap.size TV 4 (q5) (r.vs.length) (d5) (r.vs.flatMap aD),aL w.heap.size (wr.heap.size) TDd #[a0,a1,a2],aJ w.heap.size TB 1 (some ⟨gD,0,none⟩) (lm) (lm) ((bcs (eK h (ds.take k))++List.replicate (lm-k) (Value.bool false)).set k (Value.bool ok)),aJ w.heap.size TI 1 (p3) (g.cells.length) (c3) (ivs g.cells),aJ w.heap.size TV 4 (q3) (g.vs.length) (d3) (g.vs.flatMap aD),aL w.heap.size (gV) aO #[r.aA,r.aB,.slice p5 r.cells.length c5,r.free,r.step,r.aE,r.aF,r.aC,r.aG,.slice q5 r.vs.length d5],aL w.heap.size (w.heap.size+1) aO #[(),(),((),()),(),(),(),(),(),(),((),())],aL w.heap.size (w.heap.size) aO #[h.aA,h.aB,.slice p h.cells.length cap,h.free,h.step,h.aE,h.aF,h.aC,h.aG,.slice q h.vs.length c2]]from M9.out).pick [3,0,1,6,7,8] (by decide) rfl)⟩
   case measure=>simp[intOf];omega
  ·obtain rfl:lm=k:=by omega
   have lt5_3:gV<wr.heap.size:=(HM.out.lt (i:=3) rfl rfl).2
   have lt5_4:w.heap.size+1<wr.heap.size:=(HM.out.lt (i:=4) rfl rfl).2
   have lt5_5:w.heap.size<wr.heap.size:=(HM.out.lt (i:=5) rfl rfl).2
   obtain⟨v0,v1,v2,v3,v4,v5,v6,v7,v8,v9⟩:=(HM.out.blk (i:=3) rfl).ten
   obtain⟨f0,ff0,f1,ff1,f2,ff2,f3,ff3,f4,ff4,f5,ff5,f6,ff6,f7,ff7,f8,ff8,f9,ff9⟩:=(HM.out.blk (i:=4) rfl).tenf
   have ne0_1a: ¬(gV=w.heap.size+1):=HM.out.ne (i:=3) (j:=4) (by omega) rfl rfl rfl rfl
   have ne0_1b: ¬(w.heap.size+1=gV):=fun h=>ne0_1a h.symm
   go_wp2
   clear v0 v1 v2 v3 v4 v5 v6 v7 v8 v9 f0 ff0 f1 ff1 f2 ff2 f3 ff3 f4 ff4 f5 ff5 f6 ff6 f7 ff7 f8 ff8 f9 ff9 ne0_1a ne0_1b lt5_3 lt5_4 lt5_5
   have M6:=xQ (((HM.out).put10 (i:=4) rfl (.int .i64 g.aA) (.int .i64 g.aB) (.slice p3 g.cells.length c3) (.int .i64 g.free) (.int .i64 g.step) (.int .i64 g.aE) (.int .i64 g.aF) (.int .i64 g.aC) (.int .i64 g.aG) (.slice q3 g.vs.length d3)))
   generalize hwz:World.setCell _ _ _=wz
   rw[hwz]at M6
   clear hwz HM
   obtain⟨y0,y1,y2,y3,y4,y5,y6,y7,y8,y9⟩:=(M6.out.blk (i:=4) rfl).ten
   exact bodyPost_ret (v:= .tuple #[.agg #[g.aA,g.aB,.slice p3 g.cells.length c3,g.free,g.step,g.aE,g.aF,g.aC,g.aG,.slice q3 g.vs.length d3],.slice (some ⟨gD,0,none⟩) lm lm]) (by simp[results,Tryz.results20,go_sem, *]) rfl (aCe (by have h1:=HG.out;rw[List.take_of_length_le (by rw[hlm.out];exact Nat.le_refl _)]at h1;exact h1) hlm.out (M6.out.own (i:=1) rfl) (M6.out.own (i:=2) rfl) (by have h1:=(M6.out.own (i:=0) rfl);rw[List.take_of_length_le (by rw[hlm.out];exact Nat.le_refl _),Nat.sub_self,List.replicate_zero,List.append_nil]at h1;exact h1) M6.out.ext)
theorem oH (h:aT)(p:OA)(n cap:Nat)(q:OA)(m c2:Nat)(lq:OA)(lm lc:Nat)(ds:List Dd3)(w:World)(hi:IsHouse w h p n cap q m c2)(hS:Sl w lq lm lc 3 (ds.flatMap aX))(hb:lm≤1048576)(hE:BitTab w):
  Calls Tryz.prog 20 #[bS h p n cap q m c2,.slice lq lm lc] w (lG w.heap.size (mU h ds) w):=by
 have hl:=hi.clen
 have hvl:=hi.vlen
 have hlm:ds.length=lm:=by
  have:=hS.len
  rw[cH aX 3 (fun _=>rfl)]at this
  omega
 subst hl hvl
 have HV:=xQ fun(w':World) (hx:Ext w w')=>mQ h p _ cap q _ c2 w' (hi.ext hx)
 by_cases hok:bK h=true
 ·have hsm:=iQ hok
  unfold mU
  rw[if_pos hok]
  rw[hok]at HV
  have HL:=xQ fun(w':World) (hx:Ext w w')=>nE h p _ cap q _ c2 w' (by omega) (by omega) (hi.ext hx)
  unfold RetHouse at HL
  exact aJf h p cap q c2 lq lm lc ds w hb hE hlm hok hS HV HL
 ·unfold mU
  rw[if_neg hok]
  rw[show bK h=false by simpa using hok]at HV
  exact aI3 h p cap q c2 lq lm lc ds w HV
open Go.ChangeShapes Go.WideShapes Go.ChangeAt Go.Deep
section
variable {H:Type} {enc:TypeId×Value→H} {w:World} {base:Nat} {spare:Nat→Bool} {held:Bool} {b0:Nat} {r:Reach} {v:Value} {d:DataW H} {p:List MemPlace}
def pN (v:aQ):Prop:=B64 v.1∧B64 v.2.1∧B64 v.2.2.1∧B64 v.2.2.2
theorem aEo:Tryz.prog.cellsOf 3=1:=by kernel_rfl
theorem aA4 {n:Nat}{cs:List Value}{y:DataW H×List MemPlace}(hy:DataW.trod enc Tryz.prog w base spare held n 121 cs=some y): ∃a,cs=aD a∧pN a:=by
 obtain⟨y0,y1,m,_,hl,h0,h1⟩:=trod_struct2 Tryz.underlying121 hy
 have hl':cs.length=4:=hl.trans (by kernel_rfl)
 match cs,hl' with
 | [c0,c1,c2,c3],_=>
   have hc3:Tryz.prog.cellsOf 119=3:=by kernel_rfl
   simp only[aEo,hc3,List.drop_zero,List.drop_succ_cons,List.take_succ_cons,List.take_zero]at h0 h1
   obtain⟨z0,z1,z2,m',_,_,g0,g1,g2⟩:=trod_struct3 Tryz.underlying119 h1
   simp only[aEo,List.drop_zero,List.drop_succ_cons,List.take_succ_cons,List.take_zero]at g0 g1 g2
   obtain⟨a,rfl,ga⟩:=eA h0
   obtain⟨b,rfl,gb⟩:=eA g0
   obtain⟨c,rfl,gc⟩:=eA g1
   obtain⟨e,rfl,ge⟩:=eA g2
   exact⟨(a,b,c,e),rfl,ga,gb,gc,ge⟩
def pO (h:aT):Prop:=B64 h.aA∧B64 h.aB∧B64 h.free∧B64 h.step∧B64 h.aE∧B64 h.aF∧B64 h.aC∧B64 h.aG∧(∀x∈h.cells,B64 x)∧ ∀v∈h.vs,pN v
theorem aIs {cs:List Value}(h:cs.length=10): ∃a b c d e f g i j k,cs= [a,b,c,d,e,f,g,i,j,k]:=by
 match cs,h with
 | [a,b,c,d,e,f,g,i,j,k],_=>exact⟨a,b,c,d,e,f,g,i,j,k,rfl⟩
theorem rS (hv:Value.okWide Tryz.prog w r b0 29 v)(h:DataW.Trod enc Tryz.prog w base spare held 29 v d p):
  ∃y:aT×(OA×Nat)×(OA×Nat),v=bS y.1 y.2.1.1 y.1.cells.length y.2.1.2 y.2.2.1 y.1.vs.length y.2.2.2∧IsHouse w y.1 y.2.1.1 y.1.cells.length y.2.1.2 y.2.2.1 y.1.vs.length y.2.2.2∧pO y.1:=by
 obtain⟨cs,rfl,hsz⟩:=okWide_struct Tryz.underlying29 hv
 obtain⟨l⟩:=cs
 have hl:l.length=10:=by have:=hsz.trans (show Tryz.prog.cellsOf 29=10 by kernel_rfl);simpa using this
 obtain⟨x0,x1,x2,x3,x4,x5,x6,x7,x8,x9,rfl⟩:=aIs hl
 obtain⟨fuel,hf⟩:=h
 obtain⟨xs,n,_,hx,_,hlen,hg⟩:=DataW.trod_struct Tryz.underlying29 hf
 have hh:Tryz.prog.cellsOf 24=3:=by kernel_rfl
 have ht:Tryz.prog.cellsOf 26=4:=by kernel_rfl
 have hs1:Tryz.prog.cellsOf 27=1:=by kernel_rfl
 have hs2:Tryz.prog.cellsOf 22=1:=by kernel_rfl
 have hcl: ∀l:List Value,(Value.agg l.toArray).cells.toList=l:=fun l=>by simp[Value.cells]
 match xs,hlen with
 | [y0,y1,y2,y3,y4],_=>
   have g0:=hg 0 _ rfl
   have g1:=hg 1 _ rfl
   have g2:=hg 2 _ rfl
   have g3:=hg 3 _ rfl
   have g4:=hg 4 _ rfl
   simp only[hcl,aEo,hh,ht,hs1,List.drop_zero,List.drop_succ_cons,List.take_succ_cons,List.take_zero,List.getElem?_cons_zero,List.getElem?_cons_succ]at g0 g1 g2 g3 g4
   obtain⟨z0,z1,z2,m,_,_,k0,k1,k2⟩:=trod_struct3 Tryz.underlying24 g0
   simp only[aEo,hs2,List.drop_zero,List.drop_succ_cons,List.take_succ_cons,List.take_zero]at k0 k1 k2
   obtain⟨aA,rfl,gw⟩:=eA k0
   obtain⟨aB,rfl,gd⟩:=eA k1
   obtain⟨cells,cp,cc,rfl,hS,gcs⟩:=yB k2
   obtain⟨ys,m2,_,_,_,hlen2,hg2⟩:=DataW.trod_struct Tryz.underlying26 g1
   match ys,hlen2 with
   | [t0,t1,t2,t3],_=>
     have j0:=hg2 0 _ rfl
     have j1:=hg2 1 _ rfl
     have j2:=hg2 2 _ rfl
     have j3:=hg2 3 _ rfl
     simp only[aEo,List.drop_zero,List.drop_succ_cons,List.take_succ_cons,List.take_zero,List.getElem?_cons_zero,List.getElem?_cons_succ]at j0 j1 j2 j3
     obtain⟨free,rfl,gf⟩:=eA j0
     obtain⟨step,rfl,gs⟩:=eA j1
     obtain⟨aE,rfl,gp⟩:=eA j2
     obtain⟨aF,rfl,gc⟩:=eA j3
     obtain⟨aC,rfl,gk⟩:=eA g2
     obtain⟨aG,rfl,gb⟩:=eA g3
     obtain⟨vs,vp,vc,rfl,hV,gvs⟩:=rR (α:=aQ) aD pN 4 Tryz.underlying27 (by kernel_rfl) (by omega) (fun _=>rfl) (fun n cs y hy=>aA4 hy) g4
     exact⟨(⟨aA,aB,cells,free,step,aE,aF,aC,aG,vs⟩,(cp,cc),(vp,vc)),rfl,⟨hS,hV⟩,gw,gd,gf,gs,gp,gc,gk,gb,gcs,gvs⟩
end
end Go.Proofs.YtgnkoffndhmhpaaGreatDoor
