/-
  Texts of this proof, packed (@packed).
-/
import Derived.Test.YtgnkoffndhmhpaaGreatDoorP5
import Derived.Test.YtgnkoffndhmhpaaGreatDoorP21
import Derived.Test.YtgnkoffndhmhpaaGreatDoorP24
import Derived.Test.YtgnkoffndhmhpaaGreatDoorP28
import Derived.Test.YtgnkoffndhmhpaaGreatDoorP37
namespace Go.Proofs.YtgnkoffndhmhpaaGreatDoor
open Go.RowKit
set_option linter.unusedVariables false
set_option linter.unusedSimpArgs false
theorem tB (h:aO)(k a b:Int)(p:OA)(n cap:Nat)(q:OA)(m c2:Nat)(w:World)(hi:IsHouse w h p n cap q m c2)(hok:aS h=false):
  Calls Tryz.prog 27 #[bK h p n cap q m c2,jC k a b] w fun e w'=>e= .returned (.tuple #[.agg #[(),(),((),()),(),(),(),(),(),(),((),())],(-1:Int),.bool false])∧Ext w w':=
 aDs h.aA h.aB h.free h.step h.aD h.aG h.aC h.aF k a b p n cap q m c2 h.cells h.vs w (xQ fun w' hx=>by have:=iI h p n cap q m c2 w' (hi.ext hx);rwa[hok]at this)
theorem sN (h:aO)(k a b:Int)(p:OA)(n cap:Nat)(q:OA)(m c2:Nat)(w:World)(hi:IsHouse w h p n cap q m c2)(hok:aS h=true)(hE:BitTab w):
  Calls Tryz.prog 27 #[bK h p n cap q m c2,jC k a b] w (aF6 h (bL h k a b) w):=by
 obtain⟨q1,q2,q3,q4,q5⟩:=(dH h).1 hok
 have x:=iJ hok
 have hl:=hi.clen
 have u:=hi.vlen
 have hS:=hi.cells
 have hV:=hi.vs
 subst hl u
 have d:=xQ fun(w':World) (hx:Ext w w')=>(by have:=iI h p _ cap q _ c2 w' (hi.ext hx);rwa[hok]at this:Calls Tryz.prog 30 #[bK h p h.cells.length cap q h.vs.length c2] w' fun e w''=>e= .returned (.bool true)∧Ext w' w'')
 have HL:=xQ fun(w':World) (hx:Ext w w')=>pB h p _ cap q _ c2 w' (by omega) (by omega) (hi.ext hx)
 unfold fM at HL
 by_cases k0:k=0
 ·subst k0
  have e0:bL h 0 a b=(if 0≤(cC h.aA h.aB h.cells a).2 then some ({h with cells:=(cC h.aA h.aB h.cells a).1,vs:=jY (a,h.aC,0,h.aC) h.vs},(cC h.aA h.aB h.cells a).2)else none):=by unfold bL;rw[if_pos rfl]
  have el:(cC h.aA h.aB h.cells a).1.length=h.cells.length:=by
   by_cases h0:0≤(cC h.aA h.aB h.cells a).2
   ·obtain⟨zs,s1,_,_,s4,_⟩:=pE q1 h0
    rw[s4,List.length_set,s1.length_eq]
   ·unfold cC at h0⊢
    split at h0
    ·rfl
    ·dsimp only at h0;omega
  have HP: ∀(w':World) (p1:OA) (cp1:Nat),Sl w' p1 h.cells.length cp1 1 (ivs h.cells)→Calls Tryz.prog 112 #[aH h.aA h.aB p1 h.cells.length cp1,a] w' fun e w''=> ∃q c,e= .returned (.tuple #[aH h.aA h.aB q h.cells.length c,.int .i64 (cC h.aA h.aB h.cells a).2])∧w''.ownsRow w'.heap.size TI 1 (.slice q h.cells.length c) h.cells.length (ivs (cC h.aA h.aB h.cells a).1)∧Ext w' w'':=fun w' p1 cp1 hs=>by
   have:=aG4 h.aA h.aB a p1 _ cp1 h.cells w' hs q1
   unfold cO at this
   rw[el]at this
   exact this
  rw[e0]
  by_cases h0:0≤(cC h.aA h.aB h.cells a).2
  ·rw[if_pos h0]
   refine(kQ h.aA h.aB h.free h.step h.aD h.aG h.aC h.aF 0 a b h.aC h.aF (cC h.aA h.aB h.cells a).2 p _ cap q _ c2 (h.vs.length+1) h.cells (cC h.aA h.aB h.cells a).1 h.vs (jY (a,h.aC,0,h.aC) h.vs) w d HL (.inr (.inr (.inl ⟨rfl,rfl,fun w' R gA p1 cp1 q1 cq1 hM=> ?_⟩)))).mono ?_
   ·exact aDv w w' R gA h.aA h.aB h.free h.step h.aD h.aG h.aC h.aF a _ p1 _ cp1 q1 _ cq1 h.cells _ h.vs (by omega) h0 rfl hM (fun w2 hx=>HP w2 p1 cp1 ((Mem.sl hM (i:=0) rfl).ext hx))
   ·rintro e w' ⟨p',cap',q',f,rfl,o1,o2,hx⟩
    refine⟨p',cap',q',f,?_,?_,?_,hx⟩
    ·simp[bK,el,nJ]
    ·dsimp only;rw[el];exact o1
    ·dsimp only;rw[nJ];exact o2
  ·rw[if_neg h0]
   exact gK h.aA h.aB h.free h.step h.aD h.aG h.aC h.aF 0 a b p _ cap q _ c2 h.cells h.cells h.vs w d HL (.inr (.inr (.inr (.inr (.inl ⟨rfl,fun w' R gA p1 cp1 q1 cq1 hM=>aGk w' gA h.aA h.aB h.free h.step h.aD h.aG h.aC h.aF a _ p1 _ cp1 q1 _ cq1 _ (by omega) (Mem.blk hM (i:=2) rfl) (fun w2 hx2=>HP w2 p1 cp1 ((Mem.sl hM (i:=0) rfl).ext hx2))⟩)))))
 by_cases k1:k=1
 ·subst k1
  have e0:bL h 1 a b=mM h a b:=by unfold bL;rw[if_neg (by omega),if_pos rfl]
  rw[e0]
  rcases lT a h.vs with⟨h1,h2⟩|⟨kk,a1,a2,a3,hk,h1,hx,h2⟩
  ·have hr:mM h a b=none:=by unfold mM;rw[h2]
   rw[hr]
   exact gK h.aA h.aB h.free h.step h.aD h.aG h.aC h.aF 1 a b p _ cap q _ c2 h.cells h.cells h.vs w d HL (.inr (.inr (.inr (.inr (.inr (.inl ⟨rfl,fun w' R gA p1 cp1 q1 cq1 hM=>aBc w' gA h.aA h.aB h.free h.step h.aD h.aG h.aC h.aF a b p1 _ cp1 q1 _ cq1 (Mem.blk hM (i:=2) rfl) (fun w2 hx2=>by
    have:=iQ h.aA h.aB h.free h.step h.aD h.aG h.aC h.aF a p1 h.cells.length cp1 q1 _ cq1 h.vs w2 ((Mem.sl hM (i:=1) rfl).ext hx2)
    rwa[h1]at this)⟩))))))
  ·obtain⟨s1,s2⟩:=(gH _ _).1 (q5 _ (List.mem_of_getElem? hx))
   dsimp only at s1 s2
   have hD:=(jE q2 s1 s2 q3.2.1).1
   have HP:=fun(w':World)=>aAw h.free h.step h.aD h.aG a1 a2 a3 h.aC b w' q2 s1 s2 q3.2.1
   have g:=yG (amt:=b) hD
   have hr:mM h a b=if(eU h.free h.step h.aD h.aG a1 a2 a3 h.aC b).2.2=true∧h.aF+b-(eU h.free h.step h.aD h.aG a1 a2 a3 h.aC b).2.1≤99999 then some ({h with aF:=h.aF+b-(eU h.free h.step h.aD h.aG a1 a2 a3 h.aC b).2.1,vs:=h.vs.set kk (a,(eU h.free h.step h.aD h.aG a1 a2 a3 h.aC b).1)},(eU h.free h.step h.aD h.aG a1 a2 a3 h.aC b).2.1)else none:=by
    unfold mM
    rw[h2,h1]
    rfl
   rw[hr]
   generalize eU h.free h.step h.aD h.aG a1 a2 a3 h.aC b=r at*
   obtain⟨⟨S1,S2,S3⟩,bk,l⟩:=r
   dsimp only at HP g⊢
   have o: ∀(w':World) (p1:OA) (cp1:Nat) (q1:OA) (cq1:Nat),Sl w' q1 h.vs.length cq1 4 (h.vs.flatMap aE)→Calls Tryz.prog 94 #[.agg #[h.aA,h.aB,.slice p1 h.cells.length cp1,h.free,h.step,h.aD,h.aG,h.aC,h.aF,.slice q1 h.vs.length cq1],a] w' fun e w''=>e= .returned (.int .i64 (kk:Int))∧Ext w' w'':=fun w' p1 cp1 q1 cq1 hs=>by
    have:=iQ h.aA h.aB h.free h.step h.aD h.aG h.aC h.aF a p1 h.cells.length cp1 q1 _ cq1 h.vs w' hs
    rwa[h1]at this
   by_cases hq:l=true∧h.aF+b-bk≤99999
   ·rw[if_pos hq]
    refine(kQ h.aA h.aB h.free h.step h.aD h.aG h.aC h.aF 1 a b h.aC (h.aF+b-bk) bk p _ cap q _ c2 h.vs.length h.cells h.cells h.vs (h.vs.set kk (a,S1,S2,S3)) w d HL (.inr (.inr (.inr (.inl ⟨rfl,rfl,fun w' R gA p1 cp1 q1 cq1 hM=> ?_⟩))))).mono ?_
    ·obtain⟨gq,rfl,_,_⟩:=Mem.some hM (i:=1) rfl (by omega)
     refine(aBb w w' R gA gq h.aA h.aB h.free h.step h.aD h.aG h.aC h.aF a b p1 _ cp1 _ cq1 kk h.cells h.vs a a1 a2 a3 S1 S2 S3 bk l hk (by omega) q3.2.2.1 q3.2.2.2 g hx hM (fun w2 hx2=>o w2 p1 cp1 _ cq1 ((Mem.sl hM (i:=1) rfl).ext hx2)) HP).mono ?_
     rintro e w2 (⟨_,hno,_⟩|⟨_,_,rfl,j⟩)
     ·exact absurd hq hno
     ·exact⟨p1,cp1,_,cq1,rfl,j⟩
    ·rintro e w' ⟨p',cap',q',f,rfl,o1,o2,hx⟩
     refine⟨p',cap',q',f,?_,o1,?_,hx⟩
     ·simp[bK]
     ·simpa using o2
   ·rw[if_neg hq]
    refine gK h.aA h.aB h.free h.step h.aD h.aG h.aC h.aF 1 a b p _ cap q _ c2 h.cells h.cells h.vs w d HL (.inr (.inr (.inr (.inr (.inr (.inl ⟨rfl,fun w' R gA p1 cp1 q1 cq1 hM=> ?_⟩))))))
    obtain⟨gq,rfl,_,_⟩:=Mem.some hM (i:=1) rfl (by omega)
    refine(aBb w w' R gA gq h.aA h.aB h.free h.step h.aD h.aG h.aC h.aF a b p1 _ cp1 _ cq1 kk h.cells h.vs a a1 a2 a3 S1 S2 S3 bk l hk (by omega) q3.2.2.1 q3.2.2.2 g hx hM (fun w2 hx2=>o w2 p1 cp1 _ cq1 ((Mem.sl hM (i:=1) rfl).ext hx2)) HP).mono ?_
    rintro e w2 (⟨rfl,_,hx2⟩|⟨e1,e2,_,_⟩)
    ·exact⟨rfl,hx2⟩
    ·exact absurd ⟨e1,e2⟩ hq
 by_cases k2:k=2
 ·subst k2
  have HP: ∀(w':World) (p1:OA) (cp1:Nat),Ext w w'→Sl w' p1 h.cells.length cp1 1 (ivs h.cells)→Calls Tryz.prog 116 #[aH h.aA h.aB p1 h.cells.length cp1,a] w' fun e w''=> ∃q c,e= .returned (.tuple #[aH h.aA h.aB q h.cells.length c,.int .i64 (bO h.aA h.aB h.cells a).2])∧w''.ownsRow w'.heap.size TI 1 (.slice q h.cells.length c) h.cells.length (ivs (bO h.aA h.aB h.cells a).1)∧Ext w' w'':=fun w' p1 cp1 hx hs=>by
   have:=aGh h.aA h.aB a p1 _ cp1 h.cells w' hs q1 (hE.ext hx)
   have el:(bO h.aA h.aB h.cells a).1.length=h.cells.length:=by
    by_cases h0:0≤(bO h.aA h.aB h.cells a).2
    ·obtain⟨zs,s1,_,_,s4,_⟩:=kU q1 h0
     rw[s4,List.length_set,s1.length_eq]
    ·unfold bO at h0⊢
     split at h0
     ·rfl
     ·dsimp only at h0;omega
   unfold cO at this
   rw[el]at this
   exact this
  have el:(bO h.aA h.aB h.cells a).1.length=h.cells.length:=by
   by_cases h0:0≤(bO h.aA h.aB h.cells a).2
   ·obtain⟨zs,s1,_,_,s4,_⟩:=kU q1 h0
    rw[s4,List.length_set,s1.length_eq]
   ·unfold bO at h0⊢
    split at h0
    ·rfl
    ·dsimp only at h0;omega
  have HM: ∀(w':World) (p1:OA) (cp1:Nat) (q1:OA) (cq1:Nat),Sl w' p1 h.cells.length cp1 1 (ivs h.cells)→Sl w' q1 h.vs.length cq1 4 (h.vs.flatMap aE)→Calls Tryz.prog 115 #[.agg #[h.aA,h.aB,.slice p1 h.cells.length cp1,h.free,h.step,h.aD,h.aG,h.aC,h.aF,.slice q1 h.vs.length cq1],a] w' fun e w''=>e= .returned (.bool (dJ h a))∧Ext w' w'':=fun w' p1 cp1 q1 cq1 hs hv=>yN h a p1 _ cp1 q1 _ cq1 w' ⟨hs,hv⟩
  have e0:bL h 2 a b=(if dJ h a=true∧0≤(bO h.aA h.aB h.cells a).2 then some ({h with cells:=(bO h.aA h.aB h.cells a).1,vs:=h.vs.eraseIdx (vix a h.vs).toNat},(bO h.aA h.aB h.cells a).2)else none):=by unfold bL;rw[if_neg (by omega),if_neg (by omega),if_pos rfl]
  rw[e0]
  by_cases hmy:dJ h a=true
  ·rw[hmy]at HM
   by_cases h0:0≤(bO h.aA h.aB h.cells a).2
   ·rw[if_pos ⟨hmy,h0⟩]
    have hv: ∃v,bS a h.vs=some v:=by
     have:=hmy
     unfold dJ cP at this
     rw[if_pos hok]at this
     cases hv:bS a h.vs with
     |none=>rw[hv]at this;simp at this
     |some v=>exact⟨v,rfl⟩
    obtain⟨v,hv⟩:=hv
    obtain⟨v1,v2,v3,v4,v5,v6⟩:=eZ hv
    generalize hk:(vix a h.vs).toNat=kk at*
    have s:(h.vs.eraseIdx kk).length=h.vs.length-1:=by rw[List.length_eraseIdx,if_pos v4]
    refine(kQ h.aA h.aB h.free h.step h.aD h.aG h.aC h.aF 2 a b h.aC h.aF (bO h.aA h.aB h.cells a).2 p _ cap q _ c2 (h.vs.length-1) h.cells (bO h.aA h.aB h.cells a).1 h.vs (h.vs.eraseIdx kk) w d HL (.inr (.inr (.inr (.inr ⟨rfl,rfl,fun w' R gA p1 cp1 q1 cq1 hM=> ?_⟩))))).mono ?_
    ·obtain⟨gq,rfl,_,_⟩:=Mem.some hM (i:=1) rfl (by omega)
     refine(aDt w w' R gA h.aA h.aB h.free h.step h.aD h.aG h.aC h.aF a _ p1 _ cp1 gq _ cq1 kk h.cells _ h.vs v4 (by omega) h0 hM (fun w2 hx2=>HM w2 p1 cp1 _ cq1 ((Mem.sl hM (i:=0) rfl).ext hx2) ((Mem.sl hM (i:=1) rfl).ext hx2)) (fun w2 hx2=>HP w2 p1 cp1 (hM.ext.trans hx2) ((Mem.sl hM (i:=0) rfl).ext hx2)) (fun w2 p' cap' hs=> ?_)).mono ?_
     ·have:=iQ h.aA h.aB h.free h.step h.aD h.aG h.aC h.aF a p' h.cells.length cap' _ _ cq1 h.vs w2 hs
      rwa[v5]at this
     ·rintro e w2 ⟨p5,c5,rfl,j⟩
      exact⟨p5,c5,_,cq1,rfl,j⟩
    ·rintro e w' ⟨p',cap',q',f,rfl,o1,o2,hx⟩
     refine⟨p',cap',q',f,?_,?_,?_,hx⟩
     ·simp only[bK,el,s]
     ·dsimp only;rw[el];exact o1
     ·dsimp only;rw[s];exact o2
   ·rw[if_neg (by intro e;exact h0 e.2)]
    exact gK h.aA h.aB h.free h.step h.aD h.aG h.aC h.aF 2 a b p _ cap q _ c2 h.cells h.cells h.vs w d HL (.inr (.inr (.inr (.inr (.inr (.inr ⟨rfl,fun w' R gA p1 cp1 q1 cq1 hM=>aGj w' gA h.aA h.aB h.free h.step h.aD h.aG h.aC h.aF a _ p1 _ cp1 q1 _ cq1 _ (by omega) (Mem.blk hM (i:=2) rfl) (fun w2 hx2=>HM w2 p1 cp1 _ cq1 ((Mem.sl hM (i:=0) rfl).ext hx2) ((Mem.sl hM (i:=1) rfl).ext hx2)) (fun w2 hx2=>HP w2 p1 cp1 (hM.ext.trans hx2) ((Mem.sl hM (i:=0) rfl).ext hx2))⟩))))))
  ·rw[if_neg (by intro e;exact hmy e.1)]
   have t:dJ h a=false:=by simpa using hmy
   rw[t]at HM
   exact gK h.aA h.aB h.free h.step h.aD h.aG h.aC h.aF 2 a b p _ cap q _ c2 h.cells h.cells h.vs w d HL (.inr (.inr (.inr (.inr (.inr (.inr ⟨rfl,fun w' R gA p1 cp1 q1 cq1 hM=>aDu w' gA h.aA h.aB h.free h.step h.aD h.aG h.aC h.aF a 0 p1 _ cp1 q1 _ cq1 (Mem.blk hM (i:=2) rfl) (fun w2 hx2=>HM w2 p1 cp1 _ cq1 ((Mem.sl hM (i:=0) rfl).ext hx2) ((Mem.sl hM (i:=1) rfl).ext hx2))⟩))))))
 by_cases k3:k=3
 ·subst k3
  have e0:bL h 3 a b=(if 1≤a∧a≤9999-h.aC then some ({h with aC:=h.aC+a},h.aC+a)else none):=by unfold bL;rw[if_neg (by omega),if_neg (by omega),if_neg (by omega),if_pos rfl]
  rw[e0]
  by_cases h1:1≤a
  ·by_cases h2:a≤9999-h.aC
   ·rw[if_pos ⟨h1,h2⟩]
    exact kQ h.aA h.aB h.free h.step h.aD h.aG h.aC h.aF 3 a b (h.aC+a) h.aF (h.aC+a) p _ cap q _ c2 _ h.cells _ h.vs _ w d HL (.inl ⟨rfl,q3.1,q3.2.1,h1,h2,rfl,rfl,rfl,rfl,rfl,rfl⟩)
   ·rw[if_neg (by omega)]
    exact gK h.aA h.aB h.free h.step h.aD h.aG h.aC h.aF 3 a b p _ cap q _ c2 h.cells h.cells h.vs w d HL (.inr (.inr (.inl ⟨rfl,q3.1,q3.2.1,h1,by omega⟩)))
  ·rw[if_neg (by omega)]
   exact gK h.aA h.aB h.free h.step h.aD h.aG h.aC h.aF 3 a b p _ cap q _ c2 h.cells h.cells h.vs w d HL (.inr (.inl ⟨rfl,q3.1,q3.2.1,by omega⟩))
 by_cases k4:k=4
 ·subst k4
  have HP:=xQ fun(w':World) (hx:Ext w w')=>wS h.aA h.aB a b p _ cap h.cells w' (hS.ext hx) q1
  have e0:bL h 4 a b=(if bA h.aA h.aB h.cells a b=true then some ({h with cells:=bG h.aA h.aB h.cells a b},0)else none):=by unfold bL;rw[if_neg (by omega),if_neg (by omega),if_neg (by omega),if_neg (by omega),if_pos rfl]
  unfold cQ at HP
  rw[cW]at HP
  rw[e0]
  cases hm:bA h.aA h.aB h.cells a b with
  |true=>
   rw[hm]at HP
   rw[if_pos rfl]
   refine(kQ h.aA h.aB h.free h.step h.aD h.aG h.aC h.aF 4 a b h.aC h.aF 0 p _ cap q _ c2 _ h.cells (bG h.aA h.aB h.cells a b) h.vs _ w d HL (.inr (.inl ⟨rfl,rfl,rfl,rfl,rfl,rfl,HP⟩))).mono ?_
   rintro e w' ⟨p',cap',q',f,rfl,o1,o2,hx⟩
   refine⟨p',cap',q',f,?_,?_,o2,hx⟩
   ·simp only[bK,cW]
   ·dsimp only;rw[cW];exact o1
  |false=>
   rw[hm]at HP
   rw[if_neg (by simp)]
   exact gK h.aA h.aB h.free h.step h.aD h.aG h.aC h.aF 4 a b p _ cap q _ c2 h.cells (bG h.aA h.aB h.cells a b) h.vs w d HL (.inr (.inr (.inr (.inl ⟨rfl,HP⟩))))
 have e0:bL h k a b=none:=by unfold bL;rw[if_neg k0,if_neg k1,if_neg k2,if_neg k3,if_neg k4]
 rw[e0]
 exact gK h.aA h.aB h.free h.step h.aD h.aG h.aC h.aF k a b p _ cap q _ c2 h.cells h.cells h.vs w d HL (.inl ⟨k0,k1,k2,k3,k4⟩)
set_option maxHeartbeats 8000000
set_option maxRecDepth 100000
theorem aKq (h:aO)(p:OA)(cap:Nat)(q:OA)(c2:Nat)(lq:OA)(lm lc:Nat)(ds:List Dd3)(w:World)
  (HVd:xC 30 #[.agg #[h.aA,h.aB,.slice p h.cells.length cap,h.free,h.step,h.aD,h.aG,h.aC,h.aF,.slice q h.vs.length c2]] w fun w' e w''=>e= .returned (Value.bool false)∧Ext w' w''):
  Calls Tryz.prog 20 #[.agg #[h.aA,h.aB,.slice p h.cells.length cap,h.free,h.step,h.aD,h.aG,h.aC,h.aF,.slice q h.vs.length c2],.slice lq lm lc] w (rX w.heap.size (hZ,[]) w):=by
 go_enter Tryz.func20,Tryz.ntmps20
 go_wp2_with fail
 refine(HVd _ (((Mem.start w).bn aL #[h.aA,h.aB,.slice p h.cells.length cap,h.free,h.step,h.aD,h.aG,h.aC,h.aF,.slice q h.vs.length c2] (w.heap.size)).bn aL #[(),(),((),()),(),(),(),(),(),(),((),())] (w.heap.size+1)).ext).mono ?_
 rintro e w1 ⟨rfl,d⟩
 have M1:=((((Mem.start w).bn aL #[h.aA,h.aB,.slice p h.cells.length cap,h.free,h.step,h.aD,h.aG,h.aC,h.aF,.slice q h.vs.length c2] (w.heap.size)).bn aL #[(),(),((),()),(),(),(),(),(),(),((),())] (w.heap.size+1)).adv d)
 have a:=M1.hi 0
 have b:=M1.hi 1
 clear d HVd
 obtain⟨f0,o,f1,r,f2,f,f3,k,f4,j,f5,n,f6,s,f7,l,f8,m,f9,g⟩:=(M1.bk 0).tenf
 go_wp2
 clear f0 o f1 r f2 f f3 k f4 j f5 n f6 s f7 l f8 m f9 g a b
 have M2:=(M1.put10 (i:=0) rfl (.int .i64 0) (.int .i64 0) (.slice none 0 0) (.int .i64 0) (.int .i64 0) (.int .i64 0) (.int .i64 0) (.int .i64 0) (.int .i64 0) (.slice none 0 0))
 generalize c:World.setCell _ _ _=wz
 rw[c]at M2
 clear c M1
 obtain⟨y0,y1,y2,y3,y4,y5,y6,y7,y8,y9⟩:=(M2.bk 0).ten
 exact bodyPost_ret (v:= .tuple #[.agg #[(),(),((),()),(),(),(),(),(),(),((),())],((),())]) (by simp[results,Tryz.results20,go_sem, *]) rfl (show rX w.heap.size (hZ,[]) w _ _ from⟨none,0,none,0,none,0,rfl,World.ownsRow_nil _ _ _ _,World.ownsRow_nil _ _ _ _,World.ownsRow_nil _ _ _ _,M2.ext⟩)
theorem aM5 (h:aO)(p:OA)(cap:Nat)(q:OA)(c2:Nat)(lq:OA)(lm lc:Nat)(ds:List Dd3)(w:World)(hb:lm≤1048576)(hE:Hid (BitTab w))(hlm:Hid (ds.length=lm))(hok:Hid (aS h=true))(HS:Hid (Sl w lq lm lc 3 (ds.flatMap bW)))
  (HVd:xB 30 #[.agg #[h.aA,h.aB,.slice p h.cells.length cap,h.free,h.step,h.aD,h.aG,h.aC,h.aF,.slice q h.vs.length c2]] w true)
  (HL:xC 62 #[.agg #[h.aA,h.aB,.slice p h.cells.length cap,h.free,h.step,h.aD,h.aG,h.aC,h.aF,.slice q h.vs.length c2]] w fun w' e w''=> ∃p' cap' q' c2',e= .returned (.agg #[h.aA,h.aB,.slice p' h.cells.length cap',h.free,h.step,h.aD,h.aG,h.aC,h.aF,.slice q' h.vs.length c2'])∧w''.ownsRow w'.heap.size TI 1 (.slice p' h.cells.length cap') h.cells.length (ivs h.cells)∧w''.ownsRow w'.heap.size TV 4 (.slice q' h.vs.length c2') h.vs.length (h.vs.flatMap aE)∧Ext w' w''):
  Calls Tryz.prog 20 #[.agg #[h.aA,h.aB,.slice p h.cells.length cap,h.free,h.step,h.aD,h.aG,h.aC,h.aF,.slice q h.vs.length c2],.slice lq lm lc] w (rX w.heap.size (gW h ds,eN h ds) w):=by
 have av:=HS.out.bd
 obtain⟨AB,s⟩: ∃AB:Array Value,AB=madeCells #[.bool false] lm:=⟨_,rfl⟩
 have bl: ∀w:World,(Instr.makeSlice 43 (.int .i64 (lm:Int)) (.int .i64 (lm:Int))).run Tryz.prog w= .ok (.slice (some ⟨w.heap.size,0,none⟩) lm lm) (w.alloc (.cells AB TB)):=fun w=>by
  rw[s]
  exact run_make_row' _ _ (Value.bool false) 1 Tryz.underlying43 (by kernel_rfl) rfl .i64 .i64 lm (by omega) (by omega) w
 have am:Hid (AB.toList=bcs []++List.replicate (lm-0) (Value.bool false)):=by
  show _=_
  rw[s,(lW _ lm).1];simp[bcs]
 have al:Hid (AB.size=lm):=by show _=_;rw[s];exact(lW _ lm).2
 clear s av
 go_enter Tryz.func20,Tryz.ntmps20
 go_wp2_with fail
 refine(HVd _ (((Mem.start w).bn aL #[h.aA,h.aB,.slice p h.cells.length cap,h.free,h.step,h.aD,h.aG,h.aC,h.aF,.slice q h.vs.length c2] (w.heap.size)).bn aL #[(),(),((),()),(),(),(),(),(),(),((),())] (w.heap.size+1)).ext).mono ?_
 rintro e w1 ⟨rfl,ap⟩
 have M1:=((((Mem.start w).bn aL #[h.aA,h.aB,.slice p h.cells.length cap,h.free,h.step,h.aD,h.aG,h.aC,h.aF,.slice q h.vs.length c2] (w.heap.size)).bn aL #[(),(),((),()),(),(),(),(),(),(),((),())] (w.heap.size+1)).adv ap)
 have x:=M1.hi 0
 have ab:=M1.hi 1
 clear ap HVd
 obtain⟨br,bh,bc,ay,bq,bm,a5,a6,a9,bo⟩:=(M1.bk 1).ten
 go_wp2_with fail
 clear br bh bc ay bq bm a5 a6 a9 bo
 refine(HL _ M1.ext).mono ?_
 rintro e w2 ⟨p1,m,q1,n,rfl,ho,hq,hx⟩
 have M2:=(M1.own2 hx ho hq (Nat.le_refl _) (by decide))
 clear M1 x ab hx ho hq HL
 have ae:=M2.hi 2
 have ad:=M2.hi 3
 go_upto_region 4 with fail
 obtain⟨gV,af⟩: ∃gV,gV=w2.heap.size:=⟨_,rfl⟩
 rw[←af]
 have M3:=(M2.blkNew aL #[h.aA,h.aB,.slice p1 h.cells.length m,h.free,h.step,h.aD,h.aG,h.aC,h.aF,.slice q1 h.vs.length n] gV af.symm)
 generalize World.alloc _ _=w3 at M3⊢
 clear M2 ae ad af
 have aa:=M3.hi 0
 have ah:=M3.hi 3
 have ag:=M3.hi 4
 go_upto_region 5 with fail
 obtain⟨gD,z⟩: ∃gD,gD=w3.heap.size:=⟨_,rfl⟩
 rw[←z]
 have MD:=(show Mem w (w3.alloc (.cells AB TB)) [aJ w.heap.size TB 1 (some ⟨gD,0,none⟩) (lm) (lm) (bcs ([])++List.replicate (lm-0) (Value.bool false)),aI w.heap.size (gV) aL #[h.aA,h.aB,.slice p1 h.cells.length m,h.free,h.step,h.aD,h.aG,h.aC,h.aF,.slice q1 h.vs.length n],aJ w.heap.size TI 1 (p1) (h.cells.length) (m) (ivs h.cells),aJ w.heap.size TV 4 (q1) (h.vs.length) (n) (h.vs.flatMap aE),aI w.heap.size (w.heap.size+1) aL #[(),(),((),()),(),(),(),(),(),(),((),())],aI w.heap.size (w.heap.size) aL #[h.aA,h.aB,.slice p h.cells.length cap,h.free,h.step,h.aD,h.aG,h.aC,h.aF,.slice q h.vs.length c2]]from by
  have h1:=M3.lit TB 1 lm gD AB z.symm (by rw[al.out];omega) (by simp[maxLen];omega)
  rw[am.out]at h1
  exact h1)
 generalize aq:World.alloc _ _=w4
 rw[aq]at MD
 clear aq am al bl z M3 aa ah ag
 go_wp2
 go_loopw [21] (fun i wr=> ∃(k:Nat) (g:aO) (p3:OA) (c3:Nat) (q3:OA) (d3:Nat),k≤lm∧i= .int .i64 (k:Int)∧g=gW h (ds.take k)∧Mem w wr [aJ w.heap.size TB 1 (some ⟨gD,0,none⟩) (lm) (lm) (bcs (eN h (ds.take k))++List.replicate (lm-k) (Value.bool false)),aJ w.heap.size TI 1 (p3) (g.cells.length) (c3) (ivs g.cells),aJ w.heap.size TV 4 (q3) (g.vs.length) (d3) (g.vs.flatMap aE),aI w.heap.size (gV) aL #[g.aA,g.aB,.slice p3 g.cells.length c3,g.free,g.step,g.aD,g.aG,g.aC,g.aF,.slice q3 g.vs.length d3],aI w.heap.size (w.heap.size+1) aL #[(),(),((),()),(),(),(),(),(),(),((),())],aI w.heap.size (w.heap.size) aL #[h.aA,h.aB,.slice p h.cells.length cap,h.free,h.step,h.aD,h.aG,h.aC,h.aF,.slice q h.vs.length c2]]) (fun i _=>lm-(intOf i).toNat)
 case atStart=>exact⟨0,h,p1,m,q1,n,Nat.zero_le _,rfl,rfl,(show Mem w w4 [aJ w.heap.size TB 1 (some ⟨gD,0,none⟩) (lm) (lm) (bcs ([])++List.replicate (lm-0) (Value.bool false)),aJ w.heap.size TI 1 (p1) (h.cells.length) (m) (ivs h.cells),aJ w.heap.size TV 4 (q1) (h.vs.length) (n) (h.vs.flatMap aE),aI w.heap.size (gV) aL #[h.aA,h.aB,.slice p1 h.cells.length m,h.free,h.step,h.aD,h.aG,h.aC,h.aF,.slice q1 h.vs.length n],aI w.heap.size (w.heap.size+1) aL #[(),(),((),()),(),(),(),(),(),(),((),())],aI w.heap.size (w.heap.size) aL #[h.aA,h.aB,.slice p h.cells.length cap,h.free,h.step,h.aD,h.aG,h.aC,h.aF,.slice q h.vs.length c2]]from MD.pick [0,2,3,1,4,5] (by decide) rfl)⟩
 case round=>
  clear MD
  obtain⟨k,g,p3,c3,q3,d3,hk,rfl,hg,hM⟩:=hrel
  have HM:=hM
  have HG:=xQ hg
  have ao:Hid (aS g=true):=by show _=_;rw[hg];exact aK9 _ hok.out
  clear hM hg
  by_cases hlt:k<lm
  ·obtain⟨b,b1,a0,a1,a2,bp,hx,b2,e0,e1,e2⟩:=zE (HS.out.ext HM.ext) hlt
   subst bp
   have HX:=xQ hx
   clear hx
   have i1:(0:Int)≤(k:Int):=by omega
   have i2:(k:Int)<(lm:Int):=by omega
   obtain⟨r,num,ok,hr⟩: ∃r num ok,(r,num,ok)=doR g a0 a1 a2:=⟨_,_,_,rfl⟩
   have HR:=xQ hr
   clear hr
   have ar:Hid (gW h (ds.take (k+1))=r∧eN h (ds.take (k+1))=eN h (ds.take k)++ [ok]):=by
    show _∧_
    rw[bD HX.out,wI,uT,←HG.out,←HR.out]
    exact⟨rfl,rfl⟩
   have HD:Hid (∀B p c q d w',B≤w'.heap.size→Ext wr w'→IsHouse w' g p g.cells.length c q g.vs.length d→Calls Tryz.prog 27 #[.agg #[g.aA,g.aB,.slice p g.cells.length c,g.free,g.step,g.aD,g.aG,g.aC,g.aF,.slice q g.vs.length d],.agg #[a0,a1,a2]] w' fun e w''=> ∃pa ca qa da,e= .returned (.tuple #[.agg #[r.aA,r.aB,.slice pa r.cells.length ca,r.free,r.step,r.aD,r.aG,r.aC,r.aF,.slice qa r.vs.length da],num,.bool ok])∧w''.ownsRow B TI 1 (.slice pa r.cells.length ca) r.cells.length (ivs r.cells)∧w''.ownsRow B TV 4 (.slice qa r.vs.length da) r.vs.length (r.vs.flatMap aE)∧Ext w' w''):=fun B p c q d w' hB hx hi=>by
    refine(sN g a0 a1 a2 p _ c q _ d w' hi ao (hE.out.ext (HM.ext.trans hx))).mono (fun e w'' hr=> ?_)
    have hq:=yE hB ao hr
    rw[←HR.out]at hq
    exact hq
   have IX:=xQ (show IsHouse wr g p3 g.cells.length c3 q3 g.vs.length d3 from⟨(HM.sq 1),(HM.sq 2)⟩)
   have l:gV<wr.heap.size:=(HM.hi 3)
   have a:w.heap.size+1<wr.heap.size:=(HM.hi 4)
   have f:w.heap.size<wr.heap.size:=(HM.hi 5)
   obtain⟨v0,v1,v2,v3,v4,v5,v6,v7,v8,v9⟩:=(HM.bk 3).ten
   go_wp2_with fail
   clear v0 v1 v2 v3 v4 v5 v6 v7 v8 v9 e0 e1 e2
   refine(HD _ _ _ _ _ _ (Nat.le_refl _) ((Ext.refl _).alloc _) (IX.out.ext ((Ext.refl _).alloc _))).mono ?_
   rintro e w6 ⟨p5,c5,q5,d5,rfl,ho,hq,hx⟩
   have M6:=((HM.bn TDd #[a0,a1,a2] (wr.heap.size)).own2 hx ho hq (Nat.le_refl _) (by decide))
   clear HM l a f hx ho hq HD IX
   have y:=M6.hi 2
   have ai:=M6.hi 6
   have aj:=M6.hi 7
   have ak:=M6.hi 8
   obtain⟨v0,bw,v1,bx,v2,bu,v3,a7,v4,bs,v5,bj,v6,bv,v7,ax,v8,bz,v9,bf⟩:=(M6.bk 6).tenf
   have a8:gD<w6.heap.size:=(M6.hi 3)
   have an: ¬(gD=gV):=M6.ne (i:=3) (j:=6) (by omega) rfl rfl rfl rfl
   have az: ¬(gV=gD):=fun h=>an h.symm
   have fD:w6.frozen? ⟨gD,k,none⟩=false:=(M6.ow 3).frozenAt k
   have au:(bcs (eN h (ds.take k))).length=k:=by rw[aF0,rT,List.length_take,hlm.out];omega
   have cD:w6.cell? ⟨gD,k,none⟩=some (Value.bool false):=by have:=(M6.ow 3).cellAt k (by omega);rw[this];exact aL2 au hlt
   go_wp2
   clear v0 bw v1 bx v2 bu v3 a7 v4 bs v5 bj v6 bv v7 ax v8 bz v9 bf a8 an az fD cD
   have M9:=((M6.put10 (i:=6) rfl (.int .i64 r.aA) (.int .i64 r.aB) (.slice p5 r.cells.length c5) (.int .i64 r.free) (.int .i64 r.step) (.int .i64 r.aD) (.int .i64 r.aG) (.int .i64 r.aC) (.int .i64 r.aF) (.slice q5 r.vs.length d5)).ostore (i:=3) rfl k (Value.bool ok))
   generalize o:World.setCell _ _ _=wz
   rw[o]at M9
   clear o M6 y ai aj ak
   go_roundw
   case rel=>
    have hd:(bcs (eN h (ds.take k))++List.replicate (lm-k) (Value.bool false)).set k (Value.bool ok)=bcs (eN h (ds.take (k+1)))++List.replicate (lm-(k+1)) (Value.bool false):=by
     rw[ar.out.2,aJt]
     exact aJk au hlt
    exact⟨k+1,r,p5,c5,q5,d5,by omega,by go_num,ar.out.1.symm,by rw[←hd];exact(show Mem w wz [aJ w.heap.size TB 1 (some ⟨gD,0,none⟩) (lm) (lm) ((bcs (eN h (ds.take k))++List.replicate (lm-k) (Value.bool false)).set k (Value.bool ok)),aJ w.heap.size TI 1 (p5) (r.cells.length) (c5) (ivs r.cells),aJ w.heap.size TV 4 (q5) (r.vs.length) (d5) (r.vs.flatMap aE),aI w.heap.size (gV) aL #[r.aA,r.aB,.slice p5 r.cells.length c5,r.free,r.step,r.aD,r.aG,r.aC,r.aF,.slice q5 r.vs.length d5],aI w.heap.size (w.heap.size+1) aL #[(),(),((),()),(),(),(),(),(),(),((),())],aI w.heap.size (w.heap.size) aL #[h.aA,h.aB,.slice p h.cells.length cap,h.free,h.step,h.aD,h.aG,h.aC,h.aF,.slice q h.vs.length c2]]from(show Mem w wz [aJ w.heap.size TI 1 (p5) (r.cells.length) (c5) (ivs r.cells),aJ w.heap.size TV 4 (q5) (r.vs.length) (d5) (r.vs.flatMap aE),aI w.heap.size (wr.heap.size) TDd #[a0,a1,a2],aJ w.heap.size TB 1 (some ⟨gD,0,none⟩) (lm) (lm) ((bcs (eN h (ds.take k))++List.replicate (lm-k) (Value.bool false)).set k (Value.bool ok)),aJ w.heap.size TI 1 (p3) (g.cells.length) (c3) (ivs g.cells),aJ w.heap.size TV 4 (q3) (g.vs.length) (d3) (g.vs.flatMap aE),aI w.heap.size (gV) aL #[r.aA,r.aB,.slice p5 r.cells.length c5,r.free,r.step,r.aD,r.aG,r.aC,r.aF,.slice q5 r.vs.length d5],aI w.heap.size (w.heap.size+1) aL #[(),(),((),()),(),(),(),(),(),(),((),())],aI w.heap.size (w.heap.size) aL #[h.aA,h.aB,.slice p h.cells.length cap,h.free,h.step,h.aD,h.aG,h.aC,h.aF,.slice q h.vs.length c2]]from M9).pick [3,0,1,6,7,8] (by decide) rfl)⟩
   case measure=>simp[intOf];omega
  ·obtain rfl:lm=k:=by omega
   have l:gV<wr.heap.size:=(HM.hi 3)
   have a:w.heap.size+1<wr.heap.size:=(HM.hi 4)
   have f:w.heap.size<wr.heap.size:=(HM.hi 5)
   obtain⟨v0,v1,v2,v3,v4,v5,v6,v7,v8,v9⟩:=(HM.bk 3).ten
   obtain⟨f0,b0,f1,bg,f2,bt,f3,a3,f4,ba,f5,a4,f6,bi,f7,bb,f8,be,f9,aw⟩:=(HM.bk 4).tenf
   obtain⟨t,u⟩:=HM.nq 3 4
   go_wp2
   clear v0 v1 v2 v3 v4 v5 v6 v7 v8 v9 f0 b0 f1 bg f2 bt f3 a3 f4 ba f5 a4 f6 bi f7 bb f8 be f9 aw t u l a f
   have M6:=(HM.put10 (i:=4) rfl (.int .i64 g.aA) (.int .i64 g.aB) (.slice p3 g.cells.length c3) (.int .i64 g.free) (.int .i64 g.step) (.int .i64 g.aD) (.int .i64 g.aG) (.int .i64 g.aC) (.int .i64 g.aF) (.slice q3 g.vs.length d3))
   generalize o:World.setCell _ _ _=wz
   rw[o]at M6
   clear o HM
   obtain⟨y0,y1,y2,y3,y4,y5,y6,y7,y8,y9⟩:=(M6.bk 4).ten
   exact bodyPost_ret (v:= .tuple #[.agg #[g.aA,g.aB,.slice p3 g.cells.length c3,g.free,g.step,g.aD,g.aG,g.aC,g.aF,.slice q3 g.vs.length d3],.slice (some ⟨gD,0,none⟩) lm lm]) (by simp[results,Tryz.results20,go_sem, *]) rfl (aKb (by have h1:=HG.out;rw[List.take_of_length_le (by rw[hlm.out];exact Nat.le_refl _)]at h1;exact h1) hlm.out (M6.ow 1) (M6.ow 2) (by have h1:=(M6.ow 0);rw[List.take_of_length_le (by rw[hlm.out];exact Nat.le_refl _),Nat.sub_self,List.replicate_zero,List.append_nil]at h1;exact h1) M6.ext)
theorem yM (h:aO)(p:OA)(n cap:Nat)(q:OA)(m c2:Nat)(lq:OA)(lm lc:Nat)(ds:List Dd3)(w:World)(hi:IsHouse w h p n cap q m c2)(hS:Sl w lq lm lc 3 (ds.flatMap bW))(hb:lm≤1048576)(hE:BitTab w):
  Calls Tryz.prog 20 #[bK h p n cap q m c2,.slice lq lm lc] w (rX w.heap.size (aK8 h ds) w):=by
 have hl:=hi.clen
 have b:=hi.vlen
 have a:ds.length=lm:=by
  have:=hS.len
  rw[dD bW 3 (fun _=>rfl)]at this
  omega
 subst hl b
 have HV:=xQ fun(w':World) (hx:Ext w w')=>iI h p _ cap q _ c2 w' (hi.ext hx)
 by_cases hok:aS h=true
 ·have c:=iJ hok
  unfold aK8
  rw[if_pos hok]
  rw[hok]at HV
  have HL:=xQ fun(w':World) (hx:Ext w w')=>pB h p _ cap q _ c2 w' (by omega) (by omega) (hi.ext hx)
  unfold fM at HL
  exact aM5 h p cap q c2 lq lm lc ds w hb hE a hok hS HV HL
 ·unfold aK8
  rw[if_neg hok]
  rw[show aS h=false by simpa using hok]at HV
  exact aKq h p cap q c2 lq lm lc ds w HV
end Go.Proofs.YtgnkoffndhmhpaaGreatDoor
namespace Go.Proofs.YtgnkoffndhmhpaaGreatDoor
open Go.RowKit
set_option linter.unusedVariables false
set_option linter.unusedSimpArgs false
theorem aEn (h:aO)(k a b:Int)(p:OA)(n cap:Nat)(q:OA)(m c2:Nat)(w:World)(hi:IsHouse w h p n cap q m c2)(hE:BitTab w):
  Calls Tryz.prog 27 #[bK h p n cap q m c2,jC k a b] w (aL9 w.heap.size (doR h k a b) w):=by
 by_cases hok:aS h=true
 ·exact(sN h k a b p n cap q m c2 w hi hok hE).mono (fun e w' hr=>yE (Nat.le_refl _) hok hr)
 ·exact(tB h k a b p n cap q m c2 w hi (by simpa using hok)).mono (fun e w' hr=>aF1 hok hr)
theorem aK3 (h:aO)(k a b:Int)(p:OA)(n cap:Nat)(q:OA)(m c2:Nat)(w:World)(hi:IsHouse w h p n cap q m c2):
  Calls Tryz.prog 28 #[bK h p n cap q m c2,jC k a b] w (aL9 w.heap.size (doR h k a b) w):=by
 by_cases hok:aS h=true
 ·exact(sH h k a b p n cap q m c2 w hi hok).mono (fun e w' hr=>yE (Nat.le_refl _) hok hr)
 ·exact(mY h k a b p n cap q m c2 w hi (by simpa using hok)).mono (fun e w' hr=>aF1 hok hr)
theorem zC {h:aO}(hok:aS h=true){id:Int}{v:aP}(hv:bS id h.vs=some v):aQ h id=bQ h.free h.step h.aD h.aG v.2.1 v.2.2.1 v.2.2.2 h.aC:=by
 unfold aQ cP
 rw[if_pos hok,hv];rfl
theorem aKe {h:aO}(hok:aS h=true){id amt:Int}{g:aO}{n:Int}(hd:mM h id amt=some (g,n)):
  ∃v,bS id h.vs=some v∧1≤amt∧amt≤300∧1≤aQ h id∧n=amt-min (aQ h id) amt∧h.aF+min (aQ h id) amt≤99999∧
   g={h with aF:=h.aF+min (aQ h id) amt,vs:=h.vs.set (vix id h.vs).toNat (id,v.2.1,v.2.2.1+min (aQ h id) amt,h.aC)}:=by
 obtain⟨q1,q2,q3,q4,q5⟩:=(dH h).1 hok
 unfold mM at hd
 split at hd
 ·cases hd
 ·rename_i v hv
  obtain⟨v1,v2,v3,v4,v5,v6⟩:=eZ hv
  obtain⟨s1,s2⟩:=(gH _ _).1 (q5 v (List.mem_of_getElem? v3))
  obtain⟨b1,b2⟩:=jE q2 s1 s2 q3.2.1
  have hD:=zC hok hv
  rw[←hD]at b1 b2
  by_cases ha:1≤amt∧amt≤300
  ·by_cases hn:aQ h id=0
   ·have hp:(eU h.free h.step h.aD h.aG v.2.1 v.2.2.1 v.2.2.2 h.aC amt).2.2=false:=by unfold eU;rw[if_pos ha,←hD,if_pos hn]
    rw[if_neg (by rw[hp];simp)]at hd
    cases hd
   ·have hp:eU h.free h.step h.aD h.aG v.2.1 v.2.2.1 v.2.2.2 h.aC amt=((v.2.1,v.2.2.1+min (aQ h id) amt,h.aC),amt-min (aQ h id) amt,true):=by unfold eU;rw[if_pos ha,←hD,if_neg hn]
    rw[hp]at hd
    dsimp only at hd
    by_cases hb:h.aF+amt-(amt-min (aQ h id) amt)≤99999
    ·rw[if_pos ⟨rfl,hb⟩]at hd
     injection hd with hd
     simp only[Prod.mk.injEq]at hd
     obtain⟨rfl,rfl⟩:=hd
     refine⟨v,hv,ha.1,ha.2,by omega,rfl,by omega,?_⟩
     rw[show h.aF+amt-(amt-min (aQ h id) amt)=h.aF+min (aQ h id) amt by omega]
    ·rw[if_neg (fun hh=>hb hh.2)]at hd
     cases hd
  ·have hp:(eU h.free h.step h.aD h.aG v.2.1 v.2.2.1 v.2.2.2 h.aC amt).2.2=false:=by unfold eU;rw[if_neg ha]
   rw[if_neg (by rw[hp];simp)]at hd
   cases hd
theorem aJl {h:aO}{k a b:Int}{g:aO}{n:Int}(hd:bL h k a b=some (g,n)):
  (k=0∧0≤(cC h.aA h.aB h.cells a).2∧g={h with cells:=(cC h.aA h.aB h.cells a).1,vs:=jY (a,h.aC,0,h.aC) h.vs})∨
  (k=1∧mM h a b=some (g,n))∨
  (k=2∧dJ h a=true∧0≤(bO h.aA h.aB h.cells a).2∧g={h with cells:=(bO h.aA h.aB h.cells a).1,vs:=h.vs.eraseIdx (vix a h.vs).toNat})∨
  (k=3∧1≤a∧a≤9999-h.aC∧g={h with aC:=h.aC+a})∨
  (k=4∧bA h.aA h.aB h.cells a b=true∧g={h with cells:=bG h.aA h.aB h.cells a b}):=by
 unfold bL at hd
 split at hd
 ·rename_i k0
  split at hd
  ·rename_i h0
   injection hd with hd;simp only[Prod.mk.injEq]at hd
   exact .inl ⟨k0,h0,hd.1.symm⟩
  ·cases hd
 ·split at hd
  ·rename_i k1;exact .inr (.inl ⟨k1,hd⟩)
  ·split at hd
   ·rename_i k2
    split at hd
    ·rename_i hm
     injection hd with hd;simp only[Prod.mk.injEq]at hd
     exact .inr (.inr (.inl ⟨k2,hm.1,hm.2,hd.1.symm⟩))
    ·cases hd
   ·split at hd
    ·rename_i k3
     split at hd
     ·rename_i hm
      injection hd with hd;simp only[Prod.mk.injEq]at hd
      exact .inr (.inr (.inr (.inl ⟨k3,hm.1,hm.2,hd.1.symm⟩)))
     ·cases hd
    ·split at hd
     ·rename_i k4
      split at hd
      ·rename_i hm
       injection hd with hd;simp only[Prod.mk.injEq]at hd
       exact .inr (.inr (.inr (.inr ⟨k4,hm,hd.1.symm⟩)))
      ·cases hd
     ·cases hd
theorem aFy {h:aO}{id:Int}(hm:dJ h id=true): ∃v,bS id h.vs=some v:=by
 unfold dJ cP at hm
 split at hm
 ·cases hv:bS id h.vs with
  |none=>rename_i s hs;split at hs
         ·rw[hv]at hs;cases hs
         ·cases hs
  |some v=>exact⟨v,rfl⟩
 ·cases hm
theorem aLy {h:aO}(hok:aS h=true){k a b:Int}{g:aO}{n:Int}(hd:bL h k a b=some (g,n)):
  aS g=true∧0≤n∧h.aF≤g.aF∧g.aF-h.aF≤max (aQ h a) 0∧g≠h:=by
 obtain⟨o1,o2,_⟩:=gE hok hd
 refine⟨o1,o2.1,?_⟩
 rcases aJl hd with⟨_,_,rfl⟩|⟨_,hp⟩|⟨_,hm,_,rfl⟩|⟨_,h1,_,rfl⟩|⟨_,hm,rfl⟩
 ·refine⟨Int.le_refl _,by dsimp only;omega,fun e=> ?_⟩
  have:=congrArg (fun x=>x.vs.length) e
  simp only[nJ]at this
  omega
 ·obtain⟨v,hv,a1,a2,a3,a4,a5,rfl⟩:=aKe hok hp
  refine⟨by dsimp only;omega,by dsimp only;omega,fun e=> ?_⟩
  have:=congrArg aO.aF e
  dsimp only at this
  omega
 ·obtain⟨v,hv⟩:=aFy hm
  obtain⟨v1,v2,v3,v4,v5,v6⟩:=eZ hv
  refine⟨Int.le_refl _,by dsimp only;omega,fun e=> ?_⟩
  have:=congrArg (fun x=>x.vs.length) e
  simp only[List.length_eraseIdx,if_pos v4]at this
  omega
 ·refine⟨Int.le_refl _,by dsimp only;omega,fun e=> ?_⟩
  have:=congrArg aO.aC e
  dsimp only at this
  omega
 ·obtain⟨s1,s2,s3,s4,s5,s6,s7,s8,s9⟩:=iU hm
  refine⟨Int.le_refl _,by dsimp only;omega,fun e=> ?_⟩
  have:=congrArg (fun x=>x.cells.getD a.toNat 0) e
  unfold bG at this
  rw[if_pos hm]at this
  rw[show(((h.cells.set b.toNat (h.cells.getD a.toNat 0)).set a.toNat 0).getD a.toNat 0)=0 by
   rw[List.getD_eq_getElem?_getD,List.getElem?_set_self (by rw[List.length_set];omega)];rfl]at this
  omega
theorem vT {f s m k:Int}(h0:0≤f)(h1:1≤s)(h:m≤k):dM f s m≤dM f s k:=by
 unfold dM
 by_cases hm:m≤f
 ·rw[if_pos hm]
  split
  ·omega
  ·exact Int.ediv_nonneg (by omega) (by omega)
 ·rw[if_neg hm,if_neg (by omega)]
  exact Int.ediv_le_ediv (by omega) (by omega)
theorem aE3 {f s p c m:Int}(ht:aY f s p c=true)(h0:0≤m):jR f s p c m≤jR f s p c (m+1):=by
 obtain⟨a1,a2,a3,a4,a5,a6,a7,a8⟩:=gI ht
 unfold jR
 by_cases hd:m%1440=1439
 ·rw[show(m+1)/1440=m/1440+1 by omega,show(m+1)%1440=0 by omega,Int.add_mul]
  have e:dM f s 0=0:=by unfold dM;rw[if_pos a1]
  rw[e]
  omega
 ·rw[show(m+1)/1440=m/1440 by omega,show(m+1)%1440=m%1440+1 by omega]
  have h1:=Int.mul_le_mul_of_nonneg_right (vT (f:=f) (s:=s) (m:=m%1440) (k:=m%1440+1) a1 a3 (by omega)) a5
  omega
theorem xM {f s p c i pd a now:Int}(ht:aY f s p c=true)(h2:cS i pd a=true)(h3:a≤now)(h4:now+1≤9999):bQ f s p c i pd a now≤bQ f s p c i pd a (now+1):=by
 obtain⟨b1,b2,b3,b4,b5,b6⟩:=eK h2
 have hm:=aE3 (m:=now-i) ht (by omega)
 unfold bQ
 rw[if_pos (by simp[ht,h2];omega),if_pos (by simp[ht,h2];omega),show now+1-i=now-i+1 by omega]
 omega
theorem aK0 {D E:aP→Int}: ∀(vs:List aP) (a b:Int),(∀v∈vs,D v≤E v)→a≤b→vs.foldl (fun a v=>a+D v) a≤vs.foldl (fun a v=>a+E v) b:=by
 intro vs
 induction vs with
 |nil=>intro a b _ h;simpa using h
 |cons v vs ih=>
  intro a b h c
  have:=h v (by simp)
  simp only[List.foldl_cons]
  exact ih _ _ (fun x hx=>h x (by simp[hx])) (by omega)
theorem aK1 {D E:aP→Int}: ∀(vs:List aP) (a:Int),(∀v∈vs,D v=E v)→vs.foldl (fun a v=>a+D v) a=vs.foldl (fun a v=>a+E v) a:=by
 intro vs
 induction vs with
 |nil=>intro a _;rfl
 |cons v vs ih=>
  intro a h
  simp only[List.foldl_cons]
  rw[h v (by simp)]
  exact ih _ (fun x hx=>h x (by simp[hx]))
theorem aAk {h:aO}(hok:aS h=true):iR (fun v=>aQ h v.1) h.vs=cL h:=by
 unfold cL oH iR
 rw[if_pos hok]
 exact aK1 _ _ (fun v hv=>lF hok hv)
theorem aD5 {h:aO}(hok:aS h=true){b:Int}{g:aO}{n:Int}(hd:bL h 3 1 b=some (g,n)):cL h≤cL g:=by
 have hg:=(gE hok hd).1
 unfold bL at hd
 rw[if_neg (by omega),if_neg (by omega),if_neg (by omega),if_pos rfl]at hd
 split at hd
 ·rename_i hc
  injection hd with hd
  simp only[Prod.mk.injEq]at hd
  obtain⟨rfl,rfl⟩:=hd
  unfold cL oH
  rw[if_pos hok,if_pos hg]
  refine aK0 _ _ _ (fun v hv=> ?_) (Int.le_refl _)
  obtain⟨t1,t2,t3,t4⟩:=nU hok hv
  exact xM t1 t2 t3 (by omega)
 ·cases hd
end Go.Proofs.YtgnkoffndhmhpaaGreatDoor
