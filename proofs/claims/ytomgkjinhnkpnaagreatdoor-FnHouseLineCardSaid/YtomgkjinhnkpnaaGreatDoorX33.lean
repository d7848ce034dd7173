/-
  Texts of this proof, packed (@packed).
-/
import Derived.Shelf.Strings.OnBuilder
import Derived.Test.YtomgkjinhnkpnaaGreatDoorX32
namespace Go.Proofs.YtomgkjinhnkpnaaGreatDoor
open Go.RowKit
set_option linter.unusedSimpArgs false
set_option linter.unusedVariables false
set_option maxHeartbeats 8000000
set_option maxRecDepth 100000
theorem wI (h:aM)(k a b:Int)(p:OA)(n c:Nat)(q:OA)(m c2:Nat)(w:World)(hi:IsHouse w h p n c q m c2)(d:aS h=false):
  U 16 #[bG h p n c q m c2,eN k a b] w (O (.tuple #[.agg #[(),(),((),()),(),(),(),(),(),(),((),())],(-1:Int),.bool false]) w):=
 aHs h.aA h.aB h.free h.step h.aD h.aF h.aC h.aG k a b p n c q m c2 h.cells h.vs w (xQ fun w' hx=>by have:=iN h p n c q m c2 w' (hi.ext hx);rwa[d]at this)
theorem vN (h:aM)(k a b:Int)(p:OA)(n d:Nat)(q:OA)(m c2:Nat)(w:World)(hi:IsHouse w h p n d q m c2)(l:aS h=true)(hE:BitTab w):
  U 16 #[bG h p n d q m c2,eN k a b] w (aJb h (cC h k a b) w):=by
 obtain⟨q1,q2,q3,q4,q5⟩:=(eI h).1 l;have z:=eL l;have hl:=hi.clen;have y:=hi.vlen;have hS:=hi.cells;have hV:=hi.vs;subst hl y;have f:=xQ fun(w':World) (hx:Ext w w')=>(by have:=iN h p _ d q _ c2 w' (hi.ext hx);rwa[l]at this:U 12 #[bG h p h.cells.length d q h.vs.length c2] w' (O (.bool true) w'))
 have HL:=xQ fun(w':World) (hx:Ext w w')=>nD h p _ d q _ c2 w' (by omega) (by omega) (hi.ext hx)
 unfold RetHouse at HL;by_cases k0:k=0
 ·subst k0;have e0:cC h 0 a b=(if 0≤(cH h.aA h.aB h.cells a).2 then some ({h with cells:=(cH h.aA h.aB h.cells a).1,vs:=lF (a,h.aC,0,h.aC) h.vs},(cH h.aA h.aB h.cells a).2)else none):=by unfold cC;rw[if_pos rfl]
  have el:(cH h.aA h.aB h.cells a).1.length=h.cells.length:=by
   by_cases h0:0≤(cH h.aA h.aB h.cells a).2
   ·obtain⟨zs,s1,_,_,s4,_⟩:=nY q1 h0;rw[s4,aSs,s1.length_eq]
   unfold cH at h0⊢;split at h0
   ·rfl
   dsimp only at h0;omega
  have HP: ∀(w':World) (p1:OA) (cp1:Nat),Sl w' p1 h.cells.length cp1 1 (ivs h.cells)→U 89 #[aH h.aA h.aB p1 h.cells.length cp1,a] w' fun e w''=> ∃q c,e= .returned (.tuple #[aH h.aA h.aB q h.cells.length c,I (cH h.aA h.aB h.cells a).2])∧w''.ownsRow w' TI 1 (.slice q h.cells c) h.cells.length (ivs (cH h.aA h.aB h.cells a).1)∧Ext w' w'':=fun w' p1 cp1 hs=>by have:=aKp h.aA h.aB a p1 _ cp1 h.cells w' hs q1;unfold cT at this;rw[el]at this;exact this
  rw[e0];by_cases h0:0≤(cH h.aA h.aB h.cells a).2
  ·rw[if_pos h0];refine(mC h.aA h.aB h.free h.step h.aD h.aF h.aC h.aG 0 a b h.aC h.aG (cH h.aA h.aB h.cells a).2 p _ d q _ c2 (h.vs.length+1) h.cells (cH h.aA h.aB h.cells a).1 h.vs (lF (a,h.aC,0,h.aC) h.vs) w f HL (.inr (.inr (.inl ⟨rfl,rfl,fun w' R gA p1 cp1 q1 cq1 hM=> ?_⟩)))).mono ?_
   ·exact aHv w w' R gA h.aA h.aB h.free h.step h.aD h.aF h.aC h.aG a _ p1 _ cp1 q1 _ cq1 h.cells _ h.vs (by omega) h0 rfl hM (fun w2 hx=>HP w2 p1 cp1 ((Mem.sl hM (i:=0) rfl).ext hx))
   rintro e w' ⟨p',cap',q',g,rfl,o1,o2,hx⟩;refine⟨p',cap',q',g,?_,?_,?_,hx⟩
   ·simp[bG,el,pM]
   ·dsimp only;rw[el];exact o1
   dsimp only;rw[pM];exact o2
  rw[if_neg h0];exact iO h.aA h.aB h.free h.step h.aD h.aF h.aC h.aG 0 a b p _ d q _ c2 h.cells h.cells h.vs w f HL (.inr (.inr (.inr (.inr (.inl ⟨rfl,fun w' R gA p1 cp1 q1 cq1 hM=>aL5 w' gA h.aA h.aB h.free h.step h.aD h.aF h.aC h.aG a _ p1 _ cp1 q1 _ cq1 _ (by omega) (Mem.blk hM (i:=2) rfl) (fun w2 hx2=>HP w2 p1 cp1 ((Mem.sl hM (i:=0) rfl).ext hx2))⟩)))))
 by_cases k1:k=1
 ·subst k1;have e0:cC h 1 a b=pE h a b:=by unfold cC;rw[if_neg (by omega),if_pos rfl]
  rw[e0];rcases nI a h.vs with⟨h1,h2⟩|⟨kk,a1,a2,a3,hk,h1,hx,h2⟩
  ·have hr:pE h a b=none:=by unfold pE;rw[h2]
   rw[hr]
   exact iO h.aA h.aB h.free h.step h.aD h.aF h.aC h.aG 1 a b p _ d q _ c2 h.cells h.cells h.vs w f HL (.inr (.inr (.inr (.inr (.inr (.inl ⟨rfl,fun w' R gA p1 cp1 q1 cq1 hM=>aF1 w' gA h.aA h.aB h.free h.step h.aD h.aF h.aC h.aG a b p1 _ cp1 q1 _ cq1 (Mem.blk hM (i:=2) rfl) (fun w2 hx2=>by
    have:=jT h.aA h.aB h.free h.step h.aD h.aF h.aC h.aG a p1 h.cells.length cp1 q1 _ cq1 h.vs w2 ((Mem.sl hM (i:=1) rfl).ext hx2)
    rwa[h1]at this)⟩))))))
  obtain⟨s1,s2⟩:=(jD _ _).1 (q5 _ (aRi hx));dsimp only at s1 s2;have hD:=(kJ q2 s1 s2 q3.2.1).1;have HP:=fun(w':World)=>aEp h.free h.step h.aD h.aF a1 a2 a3 h.aC b w' q2 s1 s2 q3.2.1
  have j:=aC2 (amt:=b) hD;have hr:pE h a b=if(fZ h.free h.step h.aD h.aF a1 a2 a3 h.aC b).2.2=true∧h.aG+b-(fZ h.free h.step h.aD h.aF a1 a2 a3 h.aC b).2.1≤99999 then some ({h with aG:=h.aG+b-(fZ h.free h.step h.aD h.aF a1 a2 a3 h.aC b).2.1,vs:=h.vs.set kk (a,(fZ h.free h.step h.aD h.aF a1 a2 a3 h.aC b).1)},(fZ h.free h.step h.aD h.aF a1 a2 a3 h.aC b).2.1)else none:=by unfold pE;rw[h2,h1];rfl
  rw[hr];generalize fZ h.free h.step h.aD h.aF a1 a2 a3 h.aC b=r at*;obtain⟨⟨S1,S2,S3⟩,bk,s⟩:=r;dsimp only at HP j⊢;have t: ∀(w':World) (p1:OA) (cp1:Nat) (q1:OA) (cq1:Nat),Sl w' q1 h.vs.length cq1 4 (h.vs.flatMap aE)→U 91 #[.agg (aU3 h p1 cp1 q1 cq1),a] w' (O (I kk) w'):=fun w' p1 cp1 q1 cq1 hs=>by have:=jT h.aA h.aB h.free h.step h.aD h.aF h.aC h.aG a p1 h.cells.length cp1 q1 _ cq1 h.vs w' hs;rwa[h1]at this
  by_cases hq:s=true∧h.aG+b-bk≤99999
  ·rw[if_pos hq];refine(mC h.aA h.aB h.free h.step h.aD h.aF h.aC h.aG 1 a b h.aC (h.aG+b-bk) bk p _ d q _ c2 h.vs.length h.cells h.cells h.vs (h.vs.set kk (a,S1,S2,S3)) w f HL (.inr (.inr (.inr (.inl ⟨rfl,rfl,fun w' R gA p1 cp1 q1 cq1 hM=> ?_⟩))))).mono ?_
   ·obtain⟨gq,rfl,_,_⟩:=Mem.some hM (i:=1) rfl (by omega);refine(aF0 w w' R gA gq h.aA h.aB h.free h.step h.aD h.aF h.aC h.aG a b p1 _ cp1 _ cq1 kk h.cells h.vs a a1 a2 a3 S1 S2 S3 bk s hk (by omega) q3.2.2.1 q3.2.2.2 j hx hM (fun w2 hx2=>t w2 p1 cp1 _ cq1 ((Mem.sl hM (i:=1) rfl).ext hx2)) HP).mono ?_;rintro e w2 (⟨_,hno,_⟩|⟨_,_,rfl,o⟩)
    ·exact absurd hq hno
    exact⟨p1,cp1,_,cq1,rfl,o⟩
   rintro e w' ⟨p',cap',q',g,rfl,o1,o2,hx⟩;refine⟨p',cap',q',g,?_,o1,?_,hx⟩
   ·simp[bG]
   simpa using o2
  rw[if_neg hq];refine iO h.aA h.aB h.free h.step h.aD h.aF h.aC h.aG 1 a b p _ d q _ c2 h.cells h.cells h.vs w f HL (.inr (.inr (.inr (.inr (.inr (.inl ⟨rfl,fun w' R gA p1 cp1 q1 cq1 hM=> ?_⟩))))));obtain⟨gq,rfl,_,_⟩:=Mem.some hM (i:=1) rfl (by omega);refine(aF0 w w' R gA gq h.aA h.aB h.free h.step h.aD h.aF h.aC h.aG a b p1 _ cp1 _ cq1 kk h.cells h.vs a a1 a2 a3 S1 S2 S3 bk s hk (by omega) q3.2.2.1 q3.2.2.2 j hx hM (fun w2 hx2=>t w2 p1 cp1 _ cq1 ((Mem.sl hM (i:=1) rfl).ext hx2)) HP).mono ?_;rintro e w2 (⟨rfl,_,hx2⟩|⟨e1,e2,_,_⟩)
  ·exact⟨rfl,hx2⟩
  exact absurd ⟨e1,e2⟩ hq
 by_cases k2:k=2
 ·subst k2;have HP: ∀(w':World) (p1:OA) (cp1:Nat),Ext w w'→Sl w' p1 h.cells.length cp1 1 (ivs h.cells)→U 93 #[aH h.aA h.aB p1 h.cells.length cp1,a] w' fun e w''=> ∃q c,e= .returned (.tuple #[aH h.aA h.aB q h.cells.length c,I (bX h.aA h.aB h.cells a).2])∧w''.ownsRow w' TI 1 (.slice q h.cells c) h.cells.length (ivs (bX h.aA h.aB h.cells a).1)∧Ext w' w'':=fun w' p1 cp1 hx hs=>by
   have:=aL2 h.aA h.aB a p1 _ cp1 h.cells w' hs q1 (hE.ext hx);have el:(bX h.aA h.aB h.cells a).1.length=h.cells.length:=by
    by_cases h0:0≤(bX h.aA h.aB h.cells a).2
    ·obtain⟨zs,s1,_,_,s4,_⟩:=mG q1 h0;rw[s4,aSs,s1.length_eq]
    unfold bX at h0⊢;split at h0
    ·rfl
    dsimp only at h0;omega
   unfold cT at this;rw[el]at this;exact this
  have el:(bX h.aA h.aB h.cells a).1.length=h.cells.length:=by
   by_cases h0:0≤(bX h.aA h.aB h.cells a).2
   ·obtain⟨zs,s1,_,_,s4,_⟩:=mG q1 h0;rw[s4,aSs,s1.length_eq]
   unfold bX at h0⊢;split at h0
   ·rfl
   dsimp only at h0;omega
  have HM: ∀(w':World) (p1:OA) (cp1:Nat) (q1:OA) (cq1:Nat),Sl w' p1 h.cells.length cp1 1 (ivs h.cells)→Sl w' q1 h.vs.length cq1 4 (h.vs.flatMap aE)→U 60 #[.agg (aU3 h p1 cp1 q1 cq1),a] w' (O (.bool (dD h a)) w'):=fun w' p1 cp1 q1 cq1 hs hv=>tB h a p1 _ cp1 q1 _ cq1 w' ⟨hs,hv⟩
  have e0:cC h 2 a b=(if dD h a=true∧0≤(bX h.aA h.aB h.cells a).2 then some ({h with cells:=(bX h.aA h.aB h.cells a).1,vs:=h.vs.eraseIdx (vix a h.vs).toNat},(bX h.aA h.aB h.cells a).2)else none):=by unfold cC;rw[if_neg (by omega),if_neg (by omega),if_pos rfl]
  rw[e0];by_cases hmy:dD h a=true
  ·rw[hmy]at HM;by_cases h0:0≤(bX h.aA h.aB h.cells a).2
   ·rw[if_pos ⟨hmy,h0⟩];have hv: ∃v,dP a h.vs=some v:=by
     have:=hmy;unfold dD cR at this;rw[if_pos l]at this;cases hv:dP a h.vs with
     |none=>rw[hv]at this;simp at this
     |some v=>exact⟨v,rfl⟩
    obtain⟨v,hv⟩:=hv;obtain⟨v1,v2,v3,v4,v5,v6⟩:=jE hv;generalize hk:(vix a h.vs).toNat=kk at*;have u:(h.vs.eraseIdx kk).length=h.vs.length-1:=by rw[List.length_eraseIdx,if_pos v4]
    refine(mC h.aA h.aB h.free h.step h.aD h.aF h.aC h.aG 2 a b h.aC h.aG (bX h.aA h.aB h.cells a).2 p _ d q _ c2 (h.vs.length-1) h.cells (bX h.aA h.aB h.cells a).1 h.vs (h.vs.eraseIdx kk) w f HL (.inr (.inr (.inr (.inr ⟨rfl,rfl,fun w' R gA p1 cp1 q1 cq1 hM=> ?_⟩))))).mono ?_
    ·obtain⟨gq,rfl,_,_⟩:=Mem.some hM (i:=1) rfl (by omega);refine(aHt w w' R gA h.aA h.aB h.free h.step h.aD h.aF h.aC h.aG a _ p1 _ cp1 gq _ cq1 kk h.cells _ h.vs v4 (by omega) h0 hM (fun w2 hx2=>HM w2 p1 cp1 _ cq1 ((Mem.sl hM (i:=0) rfl).ext hx2) ((Mem.sl hM (i:=1) rfl).ext hx2)) (fun w2 hx2=>HP w2 p1 cp1 (hM.ext.trans hx2) ((Mem.sl hM (i:=0) rfl).ext hx2)) (fun w2 p' cap' hs=> ?_)).mono ?_
     ·have:=jT h.aA h.aB h.free h.step h.aD h.aF h.aC h.aG a p' h.cells.length cap' _ _ cq1 h.vs w2 hs;rwa[v5]at this
     rintro e w2 ⟨p5,c5,rfl,o⟩;exact⟨p5,c5,_,cq1,rfl,o⟩
    rintro e w' ⟨p',cap',q',g,rfl,o1,o2,hx⟩;refine⟨p',cap',q',g,?_,?_,?_,hx⟩
    ·simp only[bG,el,u]
    ·dsimp only;rw[el];exact o1
    dsimp only;rw[u];exact o2
   rw[if_neg (by intro e;exact h0 e.2)];exact iO h.aA h.aB h.free h.step h.aD h.aF h.aC h.aG 2 a b p _ d q _ c2 h.cells h.cells h.vs w f HL (.inr (.inr (.inr (.inr (.inr (.inr ⟨rfl,fun w' R gA p1 cp1 q1 cq1 hM=>aL4 w' gA h.aA h.aB h.free h.step h.aD h.aF h.aC h.aG a _ p1 _ cp1 q1 _ cq1 _ (by omega) (Mem.blk hM (i:=2) rfl) (fun w2 hx2=>HM w2 p1 cp1 _ cq1 ((Mem.sl hM (i:=0) rfl).ext hx2) ((Mem.sl hM (i:=1) rfl).ext hx2)) (fun w2 hx2=>HP w2 p1 cp1 (hM.ext.trans hx2) ((Mem.sl hM (i:=0) rfl).ext hx2))⟩))))))
  rw[if_neg (by intro e;exact hmy e.1)];have x:dD h a=false:=by simpa using hmy
  rw[x]at HM;exact iO h.aA h.aB h.free h.step h.aD h.aF h.aC h.aG 2 a b p _ d q _ c2 h.cells h.cells h.vs w f HL (.inr (.inr (.inr (.inr (.inr (.inr ⟨rfl,fun w' R gA p1 cp1 q1 cq1 hM=>aHu w' gA h.aA h.aB h.free h.step h.aD h.aF h.aC h.aG a 0 p1 _ cp1 q1 _ cq1 (Mem.blk hM (i:=2) rfl) (fun w2 hx2=>HM w2 p1 cp1 _ cq1 ((Mem.sl hM (i:=0) rfl).ext hx2) ((Mem.sl hM (i:=1) rfl).ext hx2))⟩))))))
 by_cases k3:k=3
 ·subst k3;have e0:cC h 3 a b=(if 1≤a∧a≤9999-h.aC then some ({h with aC:=h.aC+a},h.aC+a)else none):=by unfold cC;rw[if_neg (by omega),if_neg (by omega),if_neg (by omega),if_pos rfl]
  rw[e0];by_cases h1:1≤a
  ·by_cases h2:a≤9999-h.aC
   ·rw[if_pos ⟨h1,h2⟩];exact mC h.aA h.aB h.free h.step h.aD h.aF h.aC h.aG 3 a b (h.aC+a) h.aG (h.aC+a) p _ d q _ c2 _ h.cells _ h.vs _ w f HL (.inl ⟨rfl,q3.1,q3.2.1,h1,h2,rfl,rfl,rfl,rfl,rfl,rfl⟩)
   rw[if_neg (by omega)];exact iO h.aA h.aB h.free h.step h.aD h.aF h.aC h.aG 3 a b p _ d q _ c2 h.cells h.cells h.vs w f HL (.inr (.inr (.inl ⟨rfl,q3.1,q3.2.1,h1,by omega⟩)))
  rw[if_neg (by omega)];exact iO h.aA h.aB h.free h.step h.aD h.aF h.aC h.aG 3 a b p _ d q _ c2 h.cells h.cells h.vs w f HL (.inr (.inl ⟨rfl,q3.1,q3.2.1,by omega⟩))
 by_cases k4:k=4
 ·subst k4;have HP:=xQ fun(w':World) (hx:Ext w w')=>aAx h.aA h.aB a b p _ d h.cells w' (hS.ext hx) q1
  have e0:cC h 4 a b=(if bC h.aA h.aB h.cells a b=true then some ({h with cells:=bH h.aA h.aB h.cells a b},0)else none):=by unfold cC;rw[if_neg (by omega),if_neg (by omega),if_neg (by omega),if_neg (by omega),if_pos rfl]
  unfold cV at HP;rw[dA]at HP;rw[e0];cases hm:bC h.aA h.aB h.cells a b with
  |true=>
   rw[hm]at HP;rw[if_pos rfl];refine(mC h.aA h.aB h.free h.step h.aD h.aF h.aC h.aG 4 a b h.aC h.aG 0 p _ d q _ c2 _ h.cells (bH h.aA h.aB h.cells a b) h.vs _ w f HL (.inr (.inl ⟨rfl,rfl,rfl,rfl,rfl,rfl,HP⟩))).mono ?_;rintro e w' ⟨p',cap',q',g,rfl,o1,o2,hx⟩;refine⟨p',cap',q',g,?_,?_,o2,hx⟩
   ·simp only[bG,dA]
   dsimp only;rw[dA];exact o1
  |false=>rw[hm]at HP;rw[if_neg (by simp)];exact iO h.aA h.aB h.free h.step h.aD h.aF h.aC h.aG 4 a b p _ d q _ c2 h.cells (bH h.aA h.aB h.cells a b) h.vs w f HL (.inr (.inr (.inr (.inl ⟨rfl,HP⟩))))
 have e0:cC h k a b=none:=by unfold cC;rw[if_neg k0,if_neg k1,if_neg k2,if_neg k3,if_neg k4]
 rw[e0];exact iO h.aA h.aB h.free h.step h.aD h.aF h.aC h.aG k a b p _ d q _ c2 h.cells h.cells h.vs w f HL (.inl ⟨k0,k1,k2,k3,k4⟩)
section
open Go.Proofs.Tryz
theorem aPj (h:aM)(p:OA)(a:Nat)(q:OA)(c2:Nat)(lq:OA)(lm lc:Nat)(ds:List Dd3)(w:World)
  (b:xC 12 #[.agg (aU3 h p a q c2)] w fun w' e w''=>e= .returned (Value.bool false)∧Ext w' w''):
  U 52 #[.agg #[h.aA,h.aB,.slice p h.cells a,h.free,h.step,h.aD,h.aF,h.aC,h.aG,.slice q h.vs c2],.slice lq lm lc] w (oU w (hZ,[]) w):=by
 go_enter func52,ntmps52;go_wp2_with fail;refine Z (b _ (((Mem.start w).c0 aK (aU3 h p a q c2)).c1 aK zT).ext) fun w1 d=>?_
 have M1:=((((Mem.start w).c0 aK (aU3 h p a q c2)).c1 aK zT).adv d)
 clear d b;have f_:=(M1.bk 0).tenf;go_wp2;clear f_;have M2:=(M1.put10 (i:=0) rfl (I 0) (I 0) (.slice none 0 0) (I 0) (I 0) (I 0) (I 0) (I 0) (I 0) (.slice none 0 0))
 generalize c:World.setCell _ _ _=wz;rw[c]at M2;clear c M1;have y_:=(M2.bk 0).ten;exact bodyPost_ret (v:= .tuple #[.agg #[(),(),((),()),(),(),(),(),(),(),((),())],((),())]) (by simp[results,results52,go_sem, *]) rfl (show oU w (hZ,[]) w _ _ from⟨none,0,none,0,none,0,rfl,aRw _ _ _ _,aRw _ _ _ _,aRw _ _ _ _,M2.ext⟩)
theorem aR3 (h:aM)(p:OA)(a:Nat)(q:OA)(c2:Nat)(lq:OA)(lm lc:Nat)(ds:List Dd3)(w:World)(hb:lm≤1048576)(hE:Hid (BitTab w))(s:Hid (ds.length=lm))(al:Hid (aS h=true))(HS:Hid (Sl w lq lm lc 3 (ds.flatMap cF)))
  (y:xB 12 #[.agg (aU3 h p a q c2)] w true)
  (HL:xC 19 #[.agg (aU3 h p a q c2)] w fun w' e w''=> ∃p' cap' q' c2',e= .returned (.agg #[h.aA,h.aB,.slice p' h.cells cap',h.free,h.step,h.aD,h.aF,h.aC,h.aG,.slice q' h.vs c2'])∧w''.ownsRow w' TI 1 (.slice p' h.cells cap') h.cells.length (ivs h.cells)∧w''.ownsRow w' TV 4 (.slice q' h.vs c2') h.vs.length (h.vs.flatMap aE)∧Ext w' w''):
  U 52 #[.agg #[h.aA,h.aB,.slice p h.cells a,h.free,h.step,h.aD,h.aF,h.aC,h.aG,.slice q h.vs c2],.slice lq lm lc] w (oU w (sQ h ds,fV h ds) w):=by
 have ai:=HS.out.bd;obtain⟨AB,o⟩: ∃AB:Array Value,AB=madeCells #[.bool false] lm:=⟨_,rfl⟩
 have ak: ∀w:World,(Instr.makeSlice 81 (I lm) (I lm)).run prog w= .ok (.slice (some ⟨w,0,none⟩) lm lm) (w.alloc (.cells AB TB)):=fun w=>by rw[o];exact run_make_row' _ _ (Value.bool false) 1 underlying81 (by kernel_rfl) rfl .i64 .i64 lm (by omega) (by omega) w
 have z:Hid (AB.toList=bcs []++List.replicate (lm-0) (Value.bool false)):=by show _=_;rw[o,(nL _ lm).1];simp[bcs]
 have aa:Hid (AB.size=lm):=by show _=_;rw[o];exact(nL _ lm).2
 clear o ai;go_enter func52,ntmps52;go_wp2_with fail;refine Z (y _ (((Mem.start w).c0 aK (aU3 h p a q c2)).c1 aK zT).ext) fun w1 af=>?_
 have M1:=((((Mem.start w).c0 aK (aU3 h p a q c2)).c1 aK zT).adv af)
 clear af y;have ah:=(M1.bk 1).ten;go_wp2_with fail;clear ah;refine(HL _ M1.ext).mono ?_;rintro e w2 ⟨p1,l,q1,m,rfl,ho,hq,hx⟩;have M2:=(M1.own2 hx ho hq (aRg _) (by decide))
 clear M1 hx ho hq HL;go_upto_region 4 with fail;obtain⟨gV,u⟩: ∃gV,gV=w2.heap.size:=⟨_,rfl⟩
 rw[←u];have M3:=(M2.blkNew aK (aU3 h p1 l q1 m) gV u.symm)
 generalize World.alloc _ _=w3 at M3⊢;clear M2 u;go_upto_region 5 with fail;obtain⟨gD,t⟩: ∃gD,gD=w3.heap.size:=⟨_,rfl⟩
 rw[←t]
 have MD:=(show Mem w (w3.alloc (.cells AB TB)) [aJ w TB 1 (some ⟨gD,0,none⟩) (lm) (lm) (bcs ([])++List.replicate (lm-0) (Value.bool false)),aI w (gV) aK (aU3 h p1 l q1 m),aU1 w p1 h.cells l,aU2 w q1 h.vs m,aI w (w.heap.size+1) aK #[(),(),((),()),(),(),(),(),(),(),((),())],aI w w aK (aU3 h p a q c2)]from by
  have h1:=M3.lit TB 1 lm gD AB t.symm (by rw[aa.out];omega) (by simp[maxLen];omega);rw[z.out]at h1
  exact h1)
 generalize ae:World.alloc _ _=w4;rw[ae]at MD;clear ae z aa ak t M3;go_wp2;go_loopw [21] (fun i wr=> ∃(k:Nat) (g:aM) (p3:OA) (c3:Nat) (q3:OA) (d3:Nat),k≤lm∧i=I k∧g=sQ h (ds.take k)∧Mem w wr [aJ w TB 1 (some ⟨gD,0,none⟩) (lm) (lm) (bcs (fV h (ds.take k))++List.replicate (lm-k) (Value.bool false)),aU1 w p3 g.cells c3,aU2 w q3 g.vs d3,aI w (gV) aK (aU3 g p3 c3 q3 d3),aI w (w.heap.size+1) aK #[(),(),((),()),(),(),(),(),(),(),((),())],aI w w aK (aU3 h p a q c2)]) (fun i _=>lm-(intOf i).toNat)
 case atStart=>exact⟨0,h,p1,l,q1,m,aRo _,rfl,rfl,(show Mem w w4 [aJ w TB 1 (some ⟨gD,0,none⟩) (lm) (lm) (bcs ([])++List.replicate (lm-0) (Value.bool false)),aU1 w p1 h.cells l,aU2 w q1 h.vs m,aI w (gV) aK (aU3 h p1 l q1 m),aI w (w.heap.size+1) aK #[(),(),((),()),(),(),(),(),(),(),((),())],aI w w aK (aU3 h p a q c2)]from MD.pick [0,2,3,1,4,5] (by decide) rfl)⟩
 case round=>
  clear MD;obtain⟨k,g,p3,c3,q3,d3,hk,rfl,hg,hM⟩:=hrel;have HM:=hM;have HG:=xQ hg;have x:Hid (aS g=true):=by show _=_;rw[hg];exact wM _ al.out
  clear hM hg;by_cases hlt:k<lm
  ·obtain⟨b,a3,a0,a1,a2,aj,hx,az,e0,e1,e2⟩:=aJ2 (HS.out.ext HM.ext) hlt;subst aj;have HX:=xQ hx;clear hx;have i1:(0:Int)≤(k:Int):=by omega
   have i2:(k:Int)<(lm:Int):=by omega
   obtain⟨r,num,ok,hr⟩: ∃r num ok,(r,num,ok)=doR g a0 a1 a2:=⟨_,_,_,rfl⟩
   have HR:=xQ hr;clear hr;have ad:Hid (sQ h (ds.take (k+1))=r∧fV h (ds.take (k+1))=fV h (ds.take k)++ [ok]):=by show _∧_;rw[aX HX.out,aAl,yT,←HG.out,←HR.out];exact⟨rfl,rfl⟩
   have HD:Hid (∀B p c q d w',B≤w'.heap.size→Ext wr w'→IsHouse w' g p g.cells.length c q g.vs.length d→U 16 #[.agg (aU3 g p c q d),.agg #[a0,a1,a2]] w' fun e w''=> ∃pa ca qa da,e= .returned (.tuple #[.agg #[r.aA,r.aB,.slice pa r.cells ca,r.free,r.step,r.aD,r.aF,r.aC,r.aG,.slice qa r.vs da],num,.bool ok])∧w''.ownsRow B TI 1 (.slice pa r.cells ca) r.cells.length (ivs r.cells)∧w''.ownsRow B TV 4 (.slice qa r.vs da) r.vs.length (r.vs.flatMap aE)∧Ext w' w''):=fun B p c q d w' hB hx hi=>by refine(vN g a0 a1 a2 p _ c q _ d w' hi x (hE.out.ext (HM.ext.trans hx))).mono (fun e w'' hr=> ?_);have hq:=wN hB x hr;rw[←HR.out]at hq;exact hq
   have IX:=xQ (show IsHouse wr g p3 g.cells.length c3 q3 g.vs.length d3 from⟨(HM.sq 1),(HM.sq 2)⟩);have f:gV<wr:=(HM.hi 3)
   obtain⟨v0,v1,v2,v3,v4,v5,v6,v7,v8,v9⟩:=(HM.bk 3).ten;go_wp2_with fail;clear v0 v1 v2 v3 v4 v5 v6 v7 v8 v9 e0 e1 e2;refine(HD _ _ _ _ _ _ (aRg _) ((Ext.refl _).alloc _) (IX.out.ext ((Ext.refl _).alloc _))).mono ?_;rintro e w6 ⟨p5,c5,q5,d5,rfl,ho,hq,hx⟩;have M6:=((HM.c0 TDd #[a0,a1,a2]).own2 hx ho hq (aRg _) (by decide))
   clear HM f hx ho hq HD IX;obtain⟨v0,an,v1,ao,v2,ap,v3,aq,v4,ar,v5,au,v6,av,v7,aw,v8,ax,v9,ay⟩:=(M6.bk 6).tenf;have ag: ¬(gD=gV):=M6.ne (i:=3) (j:=6) (by omega) rfl rfl rfl rfl;have am: ¬(gV=gD):=fun h=>ag h.symm
   have fD:w6.frozen? ⟨gD,k,none⟩=false:=(M6.ow 3).frozenAt k;have ab:(bcs (fV h (ds.take k))).length=k:=by rw[aPw,uU,aS7,s.out];omega
   have cD:w6.cell? ⟨gD,k,none⟩=some (Value.bool false):=by have:=(M6.ow 3).cellAt k (by omega);rw[this];exact aPs ab hlt
   go_wp2;clear v0 an v1 ao v2 ap v3 aq v4 ar v5 au v6 av v7 aw v8 ax v9 ay ag am fD cD;have M9:=((M6.put10 (i:=6) rfl (I r.aA) (I r.aB) (.slice p5 r.cells c5) (I r.free) (I r.step) (I r.aD) (I r.aF) (I r.aC) (I r.aG) (.slice q5 r.vs d5)).ostore (i:=3) rfl k (Value.bool ok))
   generalize n:World.setCell _ _ _=wz;rw[n]at M9;clear n M6;go_roundw
   case rel=>
    have hd:(bcs (fV h (ds.take k))++List.replicate (lm-k) (Value.bool false)).set k (Value.bool ok)=bcs (fV h (ds.take (k+1)))++List.replicate (lm-(k+1)) (Value.bool false):=by rw[ad.out.2,aFm];exact aOh ab hlt
    exact⟨k+1,r,p5,c5,q5,d5,by omega,by go_num,ad.out.1.symm,by rw[←hd];exact(show Mem w wz [aJ w TB 1 (some ⟨gD,0,none⟩) (lm) (lm) ((bcs (fV h (ds.take k))++List.replicate (lm-k) (Value.bool false)).set k (Value.bool ok)),aU1 w p5 r.cells c5,aU2 w q5 r.vs d5,aI w (gV) aK (aU3 r p5 c5 q5 d5),aI w (w.heap.size+1) aK #[(),(),((),()),(),(),(),(),(),(),((),())],aI w w aK (aU3 h p a q c2)]from(show Mem w wz [aU1 w p5 r.cells c5,aU2 w q5 r.vs d5,aI w wr TDd #[a0,a1,a2],aJ w TB 1 (some ⟨gD,0,none⟩) (lm) (lm) ((bcs (fV h (ds.take k))++List.replicate (lm-k) (Value.bool false)).set k (Value.bool ok)),aU1 w p3 g.cells c3,aU2 w q3 g.vs d3,aI w (gV) aK (aU3 r p5 c5 q5 d5),aI w (w.heap.size+1) aK #[(),(),((),()),(),(),(),(),(),(),((),())],aI w w aK (aU3 h p a q c2)]from M9).pick [3,0,1,6,7,8] (by decide) rfl)⟩
   case measure=>simp[intOf];omega
  obtain rfl:lm=k:=by omega
  have f:gV<wr:=(HM.hi 3)
  obtain⟨v0,v1,v2,v3,v4,v5,v6,v7,v8,v9⟩:=(HM.bk 3).ten;have f_:=(HM.bk 4).tenf;go_wp2;clear v0 v1 v2 v3 v4 v5 v6 v7 v8 v9 f_ f;have M6:=(HM.put10 (i:=4) rfl (I g.aA) (I g.aB) (.slice p3 g.cells c3) (I g.free) (I g.step) (I g.aD) (I g.aF) (I g.aC) (I g.aG) (.slice q3 g.vs d3))
  generalize n:World.setCell _ _ _=wz;rw[n]at M6;clear n HM;have y_:=(M6.bk 4).ten;exact bodyPost_ret (v:= .tuple #[.agg #[g.aA,g.aB,.slice p3 g.cells c3,g.free,g.step,g.aD,g.aF,g.aC,g.aG,.slice q3 g.vs d3],.slice (some ⟨gD,0,none⟩) lm lm]) (by simp[results,results52,go_sem, *]) rfl (aIh (by have h1:=HG.out;rw[aRn (by rw[s.out];exact aRg _)]at h1;exact h1) s.out (M6.ow 1) (M6.ow 2) (by have h1:=(M6.ow 0);rw[aRn (by rw[s.out];exact aRg _),aTi,List.replicate_zero,aS6]at h1;exact h1) M6.ext)
theorem aCh (h:aM)(p:OA)(n a:Nat)(q:OA)(m c2:Nat)(lq:OA)(lm lc:Nat)(ds:List Dd3)(w:World)(hi:IsHouse w h p n a q m c2)(hS:Sl w lq lm lc 3 (ds.flatMap cF))(hb:lm≤1048576)(hE:BitTab w):
  U 52 #[bG h p n a q m c2,.slice lq lm lc] w (oU w (sP h ds) w):=by
 have hl:=hi.clen;have c:=hi.vlen;have b:ds.length=lm:=by have:=hS.len;rw[cX cF 3 (fun _=>rfl)]at this;omega
 subst hl c;have HV:=xQ fun(w':World) (hx:Ext w w')=>iN h p _ a q _ c2 w' (hi.ext hx)
 by_cases hok:aS h=true
 ·have d:=eL hok;unfold sP;rw[if_pos hok];rw[hok]at HV;have HL:=xQ fun(w':World) (hx:Ext w w')=>nD h p _ a q _ c2 w' (by omega) (by omega) (hi.ext hx)
  unfold RetHouse at HL;exact aR3 h p a q c2 lq lm lc ds w hb hE b hok hS HV HL
 unfold sP;rw[if_neg hok];rw[show aS h=false by simpa using hok]at HV;exact aPj h p a q c2 lq lm lc ds w HV
end
theorem oS {h:aM}(hn:h.cells.length≤1048576):(dJ h).length≤1000:=by
 cases hok:aS h with
 |false=>unfold dJ;rw[hok];simp
 |true=>
  rw[nC hok];have h1:=mE hok;unfold aN at h1;rw[aRr]at h1;have hb:=cE h1.1;have h2:=aK8 (if(0:Int)∈h.cells then []else [h.cells.headD 0]) (dR h.cells);have h3:=kL h.cells;rw[jC]at h2;have h4:(if(0:Int)∈h.cells then([]:List Int)else [h.cells.headD 0]).length≤1:=by split<;>simp
  omega
theorem mS (h:aM)(id:Int):aY h id≤10000∧ -10000≤aY h id:=by
 cases hok:aS h with
 |false=>simp[aY,cR,hok]
 |true=>
  cases hv:dP id h.vs with
  |none=>simp[aY,cR,hok,hv]
  |some v=>
   have hm:v∈h.vs:=aSx hv;have hb:=qA hok hm;have e:aY h id=qC h v:=by unfold aY cR qC;rw[if_pos hok,hv];rfl
   rw[e];omega
theorem yV (h:aM)(k:Nat):(bZ (aY h) ((dJ h).take k)).length≤k*41:=by refine aRp (aCw _ _ 40 (fun x _=> ?_)) (aT5 41 (List.length_take_le _ _));have:=mS h x;unfold dX;omega
theorem aBc {h:aM}(hn:h.cells.length≤1048576):(bZ (aY h) (dJ h)).length≤100000:=by have h1:=yV h (dJ h).length;rw[aT3]at h1;have:=oS hn;omega
theorem aCl (h:aM)(p:OA)(n a:Nat)(q:OA)(m c2:Nat)(w:World)(hn:h.cells.length≤1048576)(hi:IsHouse w h p n a q m c2):
  U 53 #[bG h p n a q m c2] w (mJ (bZ (aY h) (dJ h)) w):=
 aNs h.aA h.aB h.free h.step h.aD h.aF h.aC h.aG p n a q m c2 (dJ h) (aY h) w (oS hn)
  (fun w' hx=>aCk h p n a q m c2 w' (hi.ext hx)) (fun x _ w' hx=>tC h x p n a q m c2 w' (hi.ext hx)) (fun x _=>mS h x) (fun k=>yV h k)
theorem aBr (h:aM)(p:OA)(n a:Nat)(q:OA)(m c2:Nat)(w:World)(hn:h.cells.length≤1048576)(hi:IsHouse w h p n a q m c2):
  U 72 #[bG h p n a q m c2] w (mJ (bZ (aY h) (dJ h)) w):=
 aMe h.aA h.aB h.free h.step h.aD h.aF h.aC h.aG p n a q m c2 (dJ h) (aY h) w (oS hn)
  (fun w' hx=>aBq h p n a q m c2 w' (hi.ext hx)) (fun x _ w' hx=>oB h x p n a q m c2 w' (hi.ext hx))
  (fun x _ w'=>by
   have hb:=mS h x;refine(aFz x (aY h x) w' hb.1 hb.2).mono ?_;rintro e b ⟨q,c,rfl,ho,hx⟩;rw[lQ]at ho⊢
   exact⟨q,c,rfl,ho,hx⟩)
  (fun x _=>mS h x) (fun k=>yV h k)
section
open Go.Proofs.Tryz
def aFc (h:aM):aM:=(sP h (bZ (aY h) (dJ h))).1
theorem aQz (h r:aM)(p:OA)(a:Nat)(q:OA)(c2:Nat)(ds:List Dd3)(nb:Nat)(w:World)
  (HI:Hid (IsHouse w h p h.cells.length a q h.vs.length c2))
  (HE:Hid (∀w',Ext w w'→U 72 #[.agg (aU3 h p a q c2)] w' (mJ ds w')))
  (HR:Hid (∀B pe ce w',B≤w'.heap.size→Ext w w'→Sl w' pe ds.length ce 3 (ds.flatMap cF)→U 71 #[.agg (aU3 h p a q c2),.slice pe ds ce] w' fun e w''=> ∃pa ca qa da ps cs,e= .returned (.tuple #[.agg #[r.aA,r.aB,.slice pa r.cells ca,r.free,r.step,r.aD,r.aF,r.aC,r.aG,.slice qa r.vs da],.slice ps nb cs])∧w''.ownsRow B TI 1 (.slice pa r.cells ca) r.cells.length (ivs r.cells)∧w''.ownsRow B TV 4 (.slice qa r.vs da) r.vs.length (r.vs.flatMap aE)∧Ext w' w'')):
  U 24 #[.agg #[h.aA,h.aB,.slice p h.cells a,h.free,h.step,h.aD,h.aF,h.aC,h.aG,.slice q h.vs c2]] w (RetHouse r w):=by
 go_enter func24,ntmps24;go_upto_region 1 with fail;have M1:=(((Mem.start w).c0 aK (aU3 h p a q c2)).c1 aK zT)
 generalize World.alloc _ _=v0 at M1⊢;have j:=M1.hi 0;have xm:=M1.ext;have ap:=(M1.bk 1).ten;have n: ¬(v0.heap.size=w.heap.size):=by omega
 go_cut [3,4] (fun s1 _ wx=> ∃(g5:Nat) (p5:OA) (c5:Nat) (q5:OA) (d5:Nat),s1= .pointer (some ⟨g5,0,none⟩)∧Mem w wx [aI w (g5) aK (aU3 r p5 c5 q5 d5),aU1 w p5 r.cells c5,aU2 w q5 r.vs d5,aI w (w.heap.size+1) aK #[(),(),((),()),(),(),(),(),(),(),((),())],aI w w aK (aU3 h p a q c2)])
 case first=>
  go_region_held3 (fun w'=>w'.cell? ⟨w,0,none⟩=some (I h.aA)∧w'.cell? ⟨w,1,none⟩=some (I h.aB)∧w'.cell? ⟨w,2,none⟩=some (.slice p h.cells a)∧w'.cell? ⟨w,3,none⟩=some (I h.free)∧w'.cell? ⟨w,4,none⟩=some (I h.step)∧w'.cell? ⟨w,5,none⟩=some (I h.aD)∧w'.cell? ⟨w,6,none⟩=some (I h.aF)∧w'.cell? ⟨w,7,none⟩=some (I h.aC)∧w'.cell? ⟨w,8,none⟩=some (I h.aG)∧w'.cell? ⟨w,9,none⟩=some (.slice q h.vs c2))
   (first|(refine⟨?_,?_,?_,?_,?_,?_,?_,?_,?_,?_⟩<;>with_reducible assumption)|go_keep)
   (first
    |(go_at_call 72
      refine(HE _ xE).mono ?_;rintro e we ⟨pe,ce,rfl,oe,m⟩;have g:Ext v0 we:=xE;have Ie:=xQ (Sl.own oe);clear oe;have au:=((M1.bk 1).ext g).ten
      have aq: ¬(we.heap.size=w.heap.size):=by have:=g.sz;omega)
    |(go_at_call 71
      refine(HR v0 _ _ _ (Ext.sz (show Ext v0 _ from xE)) xE (by first|with_reducible exact Ie.out|with_reducible exact Ie.out.ext ((Ext.refl _).alloc _))).mono ?_;rintro e ws ⟨p5,c5,q5,d5,av,ar,rfl,os,d,f⟩;have c:Ext v0 ws:=xE;have aw:=((M1.bk 1).ext c).ten
      first
       |(with_reducible have hz:Ext (v0.alloc (.cells #[(),(),((),()),(),(),(),(),(),(),((),())] aK)) ws:=m.trans f;have MB:=(Mem.own2blk M1 c ((Blk.new v0 aK #[(),(),((),()),(),(),(),(),(),(),((),())]).ext hz) (aRg _) os d (by decide) (by decide) (by decide));obtain⟨o,af,s,ag,t,ah,u,ai,x,aj,y,ak,aa,al,ab,am,ad,an,ae,ao⟩:=(MB.blk (i:=2) rfl).tenf)
       |(with_reducible have hz:Ext (v0.alloc (.cells #[(),(),((),()),(),(),(),(),(),(),((),())] aK)) ws:=m.of_drew.trans f;have MB:=(Mem.own2blk M1 c ((Blk.new v0 aK #[(),(),((),()),(),(),(),(),(),(),((),())]).ext hz) (aRg _) os d (by decide) (by decide) (by decide));obtain⟨o,af,s,ag,t,ah,u,ai,x,aj,y,ak,aa,al,ab,am,ad,an,ae,ao⟩:=(MB.blk (i:=2) rfl).tenf)
       |(with_reducible have hz:Ext (we.alloc (.cells #[(),(),((),()),(),(),(),(),(),(),((),())] aK)) ws:=f;have MB:=(Mem.own2blk M1 c ((Blk.new we aK #[(),(),((),()),(),(),(),(),(),(),((),())]).ext hz) g.sz os d (by decide) (by decide) (by decide));obtain⟨o,af,s,ag,t,ah,u,ai,x,aj,y,ak,aa,al,ab,am,ad,an,ae,ao⟩:=(MB.blk (i:=2) rfl).tenf)
       |(have MA:=(Mem.own2 M1 c os d (aRg _) (by decide)))))
  all_goals (
   go_wp2_with fail;go_meet
   first
    |exact⟨_,p5,c5,q5,d5,rfl,(MB.put10 (i:=2) rfl (I r.aA) (I r.aB) (.slice p5 r.cells c5) (I r.free) (I r.step) (I r.aD) (I r.aF) (I r.aC) (I r.aG) (.slice q5 r.vs d5)).pick [2,0,1,3,4] (by decide) rfl⟩
    |exact⟨_,p5,c5,q5,d5,rfl,MA.bn aK (aU3 r p5 c5 q5 d5) _⟩)
 case rest=>
  clear ap n xm HE HR HI;obtain⟨g5,p5,c5,q5,d5,rfl,k⟩:=hcut;obtain⟨v5,rfl⟩: ∃z,z=wc:=⟨_,rfl⟩
  have MC:=k;clear k M1 j;obtain⟨v0,v1,v2,v3,v4,v5,v6,v7,v8,v9⟩:=(MC.bk 0).ten;have f_:=(MC.bk 3).tenf;go_wp2;clear v0 v1 v2 v3 v4 v5 v6 v7 v8 v9 f_;have b:=(MC.put10 (i:=3) rfl (I r.aA) (I r.aB) (.slice p5 r.cells c5) (I r.free) (I r.step) (I r.aD) (I r.aF) (I r.aC) (I r.aG) (.slice q5 r.vs d5))
  generalize l:World.setCell _ _ _=wz;rw[l]at b;clear l MC;have y_:=(b.bk 3).ten;exact bodyPost_ret (v:= .agg #[r.aA,r.aB,.slice p5 r.cells c5,r.free,r.step,r.aD,r.aF,r.aC,r.aG,.slice q5 r.vs d5]) (by simp[results,results24,go_sem, *]) rfl (show RetHouse r w _ _ from⟨p5,c5,q5,d5,rfl,(b.ow 1),(b.ow 2),b.ext⟩)
theorem aBo (h:aM)(p:OA)(n a:Nat)(q:OA)(m c2:Nat)(w:World)(hn:h.cells.length≤1048576)(hi:IsHouse w h p n a q m c2):
  U 24 #[bG h p n a q m c2] w (RetHouse (aFc h) w):=by
 have hl:=hi.clen;have b:=hi.vlen;subst hl b
 exact aQz h (aFc h) p a q c2 (bZ (aY h) (dJ h)) (sP h (bZ (aY h) (dJ h))).2.length w hi
  (fun w' hx=>aBr h p _ a q _ c2 w' hn (hi.ext hx))
  (fun B pe ce w' hB hx hS=>(aBn h p _ a q _ c2 pe _ ce _ w' (hi.ext hx) hS (aRp (aBc hn) (by omega))).mono (by
   rintro e d ⟨pa,ca,qa,da,ps,cs,rfl,o1,o2,_,c⟩
   exact⟨pa,ca,qa,da,ps,cs,rfl,dL o1 hB,dL o2 hB,c⟩))
theorem aR4 (h r:aM)(p:OA)(a:Nat)(q:OA)(c2:Nat)(ds:List Dd3)(nb:Nat)(w:World)
  (HI:Hid (IsHouse w h p h.cells.length a q h.vs.length c2))
  (HE:Hid (∀w',Ext w w'→U 53 #[.agg (aU3 h p a q c2)] w' (mJ ds w')))
  (HR:Hid (∀B pe ce w',B≤w'.heap.size→Ext w w'→Sl w' pe ds.length ce 3 (ds.flatMap cF)→U 52 #[.agg (aU3 h p a q c2),.slice pe ds ce] w' fun e w''=> ∃pa ca qa da ps cs,e= .returned (.tuple #[.agg #[r.aA,r.aB,.slice pa r.cells ca,r.free,r.step,r.aD,r.aF,r.aC,r.aG,.slice qa r.vs da],.slice ps nb cs])∧w''.ownsRow B TI 1 (.slice pa r.cells ca) r.cells.length (ivs r.cells)∧w''.ownsRow B TV 4 (.slice qa r.vs da) r.vs.length (r.vs.flatMap aE)∧Ext w' w'')):
  U 18 #[.agg #[h.aA,h.aB,.slice p h.cells a,h.free,h.step,h.aD,h.aF,h.aC,h.aG,.slice q h.vs c2]] w (RetHouse r w):=by
 go_enter func18,ntmps18;go_upto_region 1 with fail;have M1:=(((Mem.start w).c0 aK (aU3 h p a q c2)).c1 aK zT)
 generalize World.alloc _ _=v0 at M1⊢;have j:=M1.hi 0;have xm:=M1.ext;have ap:=(M1.bk 1).ten;have n: ¬(v0.heap.size=w.heap.size):=by omega
 go_cut [3,4] (fun s1 _ wx=> ∃(g5:Nat) (p5:OA) (c5:Nat) (q5:OA) (d5:Nat),s1= .pointer (some ⟨g5,0,none⟩)∧Mem w wx [aI w (g5) aK (aU3 r p5 c5 q5 d5),aU1 w p5 r.cells c5,aU2 w q5 r.vs d5,aI w (w.heap.size+1) aK #[(),(),((),()),(),(),(),(),(),(),((),())],aI w w aK (aU3 h p a q c2)])
 case first=>
  go_region_held3 (fun w'=>w'.cell? ⟨w,0,none⟩=some (I h.aA)∧w'.cell? ⟨w,1,none⟩=some (I h.aB)∧w'.cell? ⟨w,2,none⟩=some (.slice p h.cells a)∧w'.cell? ⟨w,3,none⟩=some (I h.free)∧w'.cell? ⟨w,4,none⟩=some (I h.step)∧w'.cell? ⟨w,5,none⟩=some (I h.aD)∧w'.cell? ⟨w,6,none⟩=some (I h.aF)∧w'.cell? ⟨w,7,none⟩=some (I h.aC)∧w'.cell? ⟨w,8,none⟩=some (I h.aG)∧w'.cell? ⟨w,9,none⟩=some (.slice q h.vs c2))
   (first|(refine⟨?_,?_,?_,?_,?_,?_,?_,?_,?_,?_⟩<;>with_reducible assumption)|go_keep)
   (first
    |(go_at_call 53
      refine(HE _ xE).mono ?_;rintro e we ⟨pe,ce,rfl,oe,m⟩;have g:Ext v0 we:=xE;have Ie:=xQ (Sl.own oe);clear oe;have au:=((M1.bk 1).ext g).ten
      have aq: ¬(we.heap.size=w.heap.size):=by have:=g.sz;omega)
    |(go_at_call 52
      refine(HR v0 _ _ _ (Ext.sz (show Ext v0 _ from xE)) xE (by first|with_reducible exact Ie.out|with_reducible exact Ie.out.ext ((Ext.refl _).alloc _))).mono ?_;rintro e ws ⟨p5,c5,q5,d5,av,ar,rfl,os,d,f⟩;have c:Ext v0 ws:=xE;have aw:=((M1.bk 1).ext c).ten
      first
       |(with_reducible have hz:Ext (v0.alloc (.cells #[(),(),((),()),(),(),(),(),(),(),((),())] aK)) ws:=m.trans f;have MB:=(Mem.own2blk M1 c ((Blk.new v0 aK #[(),(),((),()),(),(),(),(),(),(),((),())]).ext hz) (aRg _) os d (by decide) (by decide) (by decide));obtain⟨o,af,s,ag,t,ah,u,ai,x,aj,y,ak,aa,al,ab,am,ad,an,ae,ao⟩:=(MB.blk (i:=2) rfl).tenf)
       |(with_reducible have hz:Ext (v0.alloc (.cells #[(),(),((),()),(),(),(),(),(),(),((),())] aK)) ws:=m.of_drew.trans f;have MB:=(Mem.own2blk M1 c ((Blk.new v0 aK #[(),(),((),()),(),(),(),(),(),(),((),())]).ext hz) (aRg _) os d (by decide) (by decide) (by decide));obtain⟨o,af,s,ag,t,ah,u,ai,x,aj,y,ak,aa,al,ab,am,ad,an,ae,ao⟩:=(MB.blk (i:=2) rfl).tenf)
       |(with_reducible have hz:Ext (we.alloc (.cells #[(),(),((),()),(),(),(),(),(),(),((),())] aK)) ws:=f;have MB:=(Mem.own2blk M1 c ((Blk.new we aK #[(),(),((),()),(),(),(),(),(),(),((),())]).ext hz) g.sz os d (by decide) (by decide) (by decide));obtain⟨o,af,s,ag,t,ah,u,ai,x,aj,y,ak,aa,al,ab,am,ad,an,ae,ao⟩:=(MB.blk (i:=2) rfl).tenf)
       |(have MA:=(Mem.own2 M1 c os d (aRg _) (by decide)))))
  all_goals (
   go_wp2_with fail;go_meet
   first
    |exact⟨_,p5,c5,q5,d5,rfl,(MB.put10 (i:=2) rfl (I r.aA) (I r.aB) (.slice p5 r.cells c5) (I r.free) (I r.step) (I r.aD) (I r.aF) (I r.aC) (I r.aG) (.slice q5 r.vs d5)).pick [2,0,1,3,4] (by decide) rfl⟩
    |exact⟨_,p5,c5,q5,d5,rfl,MA.bn aK (aU3 r p5 c5 q5 d5) _⟩)
 case rest=>
  clear ap n xm HE HR HI;obtain⟨g5,p5,c5,q5,d5,rfl,k⟩:=hcut;obtain⟨v5,rfl⟩: ∃z,z=wc:=⟨_,rfl⟩
  have MC:=k;clear k M1 j;obtain⟨v0,v1,v2,v3,v4,v5,v6,v7,v8,v9⟩:=(MC.bk 0).ten;have f_:=(MC.bk 3).tenf;go_wp2;clear v0 v1 v2 v3 v4 v5 v6 v7 v8 v9 f_;have b:=(MC.put10 (i:=3) rfl (I r.aA) (I r.aB) (.slice p5 r.cells c5) (I r.free) (I r.step) (I r.aD) (I r.aF) (I r.aC) (I r.aG) (.slice q5 r.vs d5))
  generalize l:World.setCell _ _ _=wz;rw[l]at b;clear l MC;have y_:=(b.bk 3).ten;exact bodyPost_ret (v:= .agg #[r.aA,r.aB,.slice p5 r.cells c5,r.free,r.step,r.aD,r.aF,r.aC,r.aG,.slice q5 r.vs d5]) (by simp[results,results18,go_sem, *]) rfl (show RetHouse r w _ _ from⟨p5,c5,q5,d5,rfl,(b.ow 1),(b.ow 2),b.ext⟩)
theorem aCi (h:aM)(p:OA)(n a:Nat)(q:OA)(m c2:Nat)(w:World)(hn:h.cells.length≤1048576)(hi:IsHouse w h p n a q m c2)(hE:BitTab w):
  U 18 #[bG h p n a q m c2] w (RetHouse (aFc h) w):=by
 have hl:=hi.clen;have b:=hi.vlen;subst hl b
 exact aR4 h (aFc h) p a q c2 (bZ (aY h) (dJ h)) (sP h (bZ (aY h) (dJ h))).2.length w hi
  (fun w' hx=>aCl h p _ a q _ c2 w' hn (hi.ext hx))
  (fun B pe ce w' hB hx hS=>(aCh h p _ a q _ c2 pe _ ce _ w' (hi.ext hx) hS (aRp (aBc hn) (by omega)) (hE.ext hx)).mono (by
   rintro e d ⟨pa,ca,qa,da,ps,cs,rfl,o1,o2,_,c⟩
   exact⟨pa,ca,qa,da,ps,cs,rfl,dL o1 hB,dL o2 hB,c⟩))
def kY:Go.Shelf.Ren:=⟨fun|156=>101|165=>139|166=>82|169=>83|240=>118|241=>175|276=>149|277=>201|n=>n,fun|0=>0|3=>3|4=>4|5=>5|9=>9|20=>20|31=>62|37=>22|70=>103|72=>105|75=>107|76=>109|80=>111|127=>139|164=>165|n=>n,fun|n=>n⟩
theorem aC4:Go.Proofs.Lays.n156 prog kY:={
 mixed:=by kernel_rfl,
 f156:=func101.trans (congrArg some (by kernel_rfl)),
 f165:=func139.trans (congrArg some (by kernel_rfl)),
 f166:=func82.trans (congrArg some (by kernel_rfl)),
 f169:=func83.trans (congrArg some (by kernel_rfl)),
 f240:=func118.trans (congrArg some (by kernel_rfl)),
 f241:=func175.trans (congrArg some (by kernel_rfl)),
 f276:=func149.trans (congrArg some (by kernel_rfl)),
 f277:=func201.trans (congrArg some (by kernel_rfl)),
 t0:=underlying0,
 a0:=Tryz.isAgg0,
 z0:=Tryz.sizeOf0,
 v0:=Tryz.zeroValue0,
 t3:=underlying3,
 a3:=Tryz.isAgg3,
 z3:=Tryz.sizeOf3,
 v3:=Tryz.zeroValue3,
 t4:=underlying4,
 a4:=Tryz.isAgg4,
 z4:=Tryz.sizeOf4,
 v4:=Tryz.zeroValue4,
 t9:=underlying9,
 a9:=Tryz.isAgg9,
 z9:=Tryz.sizeOf9,
 v9:=Tryz.zeroValue9,
 t20:=underlying20,
 a20:=Tryz.isAgg20,
 z20:=Tryz.sizeOf20,
 v20:=Tryz.zeroValue20,
 t31:=underlying62,
 a31:=Tryz.isAgg62,
 z31:=Tryz.sizeOf62,
 v31:=Tryz.zeroValue62,
 t37:=underlying22,
 a37:=Tryz.isAgg22,
 z37:=Tryz.sizeOf22,
 v37:=Tryz.zeroValue22,
 t70:=underlying103,
 a70:=Tryz.isAgg103,
 z70:=Tryz.sizeOf103,
 v70:=Tryz.zeroValue103,
 t72:=underlying105,
 a72:=Tryz.isAgg105,
 z72:=Tryz.sizeOf105,
 v72:=Tryz.zeroValue105,
 t75:=underlying107,
 a75:=Tryz.isAgg107,
 z75:=Tryz.sizeOf107,
 v75:=Tryz.zeroValue107,
 t76:=underlying109,
 a76:=Tryz.isAgg109,
 z76:=Tryz.sizeOf109,
 v76:=Tryz.zeroValue109,
 t127:=underlying139,
 a127:=Tryz.isAgg139,
 z127:=Tryz.sizeOf139,
 v127:=Tryz.zeroValue139,
 t164:=underlying165,
 a164:=Tryz.isAgg165,
 z164:=Tryz.sizeOf165,
 v164:=Tryz.zeroValue165}
theorem aOe:Go.Proofs.Builder.Extra prog kY:={
 sizeBuilder:=by kernel_rfl
 liesBuilder:=by kernel_rfl
 t5:=underlying5
 a5:=Tryz.isAgg5
 z5:=Tryz.sizeOf5
 v5:=Tryz.zeroValue5
 infoByte:=by kernel_rfl
 cellsByte:=by kernel_rfl
 sizeByte:=by kernel_rfl
 neB5:=by decide}
def sJ (c:UInt8)(r:List (List UInt8)):List UInt8:=r.flatMap (fun y=>c::y)
def iF (c:UInt8):List (List UInt8)→List UInt8
 | []=> []
 |x::r=>x++sJ c r
theorem aAw (c:UInt8)(xs:List (List UInt8)):Lib.join xs [c]=iF c xs:=by
 cases xs with
 |nil=>rfl
 |cons x r=>rw[Lib.join_cons];show x++(r.map ([c]++ ·)).flatten=x++r.flatMap (fun y=>c::y);rw[List.flatMap_def];rfl
def nX (ps:List (List UInt8)):List Value:=ps.map str
theorem aEf (ps:List (List UInt8))(c:UInt8)(p:OA)(n a:Nat)(w:World)(hn:ps.length=n)(h0:0<n)(hS:Sl w p n a 1 (nX ps))(hl:(iF c ps).length≤140737488355328)(f:n≤1099511627776):
  U 101 #[.slice p n a,.string ⟨#[c]⟩] w (O (str (iF c ps)) w):=by
 obtain⟨b,d,rfl,hb,hc⟩:=hS.rd h0;subst hn;have hm:(ps.map (fun l=>(⟨l.toArray⟩:ByteArray))).map (·.data.toList)=ps:=by rw[List.map_map];exact(List.map_congr_left (fun x _=>by simp)).trans (List.map_id ps)
 have h:=Any.strings_Join aC4 aOe b d a (ps.map (fun l=>(⟨l.toArray⟩:ByteArray))) ⟨#[c]⟩ w
  (fun j x hx=>by
   rw[aRy]at hx;obtain⟨y,hy,rfl⟩:=Option.map_eq_some_iff.1 hx;have hj:j<ps.length:=(aRk.1 hy).1;rw[hc j (by omega)]
   simp[nX,hy])
  hb (by rw[aSc];omega) (by rw[aSc];exact hS.le) (by rw[hm];simpa[aAw]using hl)
 rw[hm,aSc]at h;refine h.mono ?_;rintro e w' ⟨rfl,hx⟩;exact⟨by rw[show(⟨#[c]⟩:ByteArray).data.toList= [c]from rfl,aAw],hx⟩
end
abbrev dec (x:Int):List UInt8:=Lib.decDigits x.toNat
def bL (xs:List Int):List UInt8:=iF 44 (xs.map dec)
def cG (v:aQ):List Int:= [v.1,v.2.1,v.2.2.1,v.2.2.2]
def yM (h:aM):List (List UInt8):=eF h.aA h.aB h.cells::bL [h.free,h.step,h.aD,h.aF]::dec h.aC::dec h.aG::h.vs.map (fun v=>bL (cG v))
def nP (h:aM):List UInt8:=if aS h then iF 59 (yM h)else []
theorem mY (a b c d:Int):bL [a,b,c,d]=dec a++44::dec b++44::dec c++44::dec d:=by simp[bL,iF,sJ]
theorem oI (a:Int):bL [a]=dec a:=by simp[bL,iF,sJ]
theorem fE (x:Int)(h:x≤9223372036854775807):(dec x).length≤21:=cM _ (by omega)
theorem uK (a b c d:Int)(h1:a≤9223372036854775807)(h2:b≤9223372036854775807)(h3:c≤9223372036854775807)(h4:d≤9223372036854775807):(bL [a,b,c,d]).length≤90:=by rw[mY];have:=fE a h1;have:=fE b h2;have:=fE c h3;have:=fE d h4;simp only[aRm,aSr];omega
theorem aDa (c:UInt8)(M:Nat): ∀r:List (List UInt8),(∀x∈r,x.length≤M)→(sJ c r).length≤(M+1)*r.length:=by
 intro r;induction r with
 |nil=>intro _;simp[sJ]
 |cons x r ih=>intro h;have h1:=h x (by simp);have h2:=ih (fun y hy=>h y (by simp[hy]));simp only[sJ,aSm,aRm,aSr]at h2⊢;rw[Nat.mul_succ];omega
def aD2 (h:aM)(l:List UInt8):List UInt8:=
 if l= [104,97,108,108]then eF h.aA h.aB h.cells
 else if l= [99,108,111,99,107]then dec h.aC
 else if l= [98,97,110,107]then dec h.aG
 else if l= [111,119,101,100]then dec (iP h)
 else if l= [104,111,117,115,101]then nP h
 else match dQ 4 (iH 32 l)with
  |none=> [119,104,97,116]
  |some id=>
   if gQ 32 l= [100,117,101]then(if aY h id<0 then [110,111,110,101]else dec (aY h id))
   else if gQ 32 l= [109,97,121]then(if aY h id<0 then [110,111,110,101]else if dD h id=true then [121,101,115]else [110,111])
   else [119,104,97,116]
def mA (h:aM)(l:List UInt8):aM×List UInt8:=
 if aS h=true then
  (match bN l with
  |some (k,a,b)=>((doR h k a b).1,if(doR h k a b).2.2=true then dec (doR h k a b).2.1 else [110,111])
  |none=>if l= [101,110,100]then(aFc h,[111,107])else(h,aD2 h l))
 else(hZ,[])
theorem aK9 {m:Nat}{l:List UInt8}{id:Int}{c:UInt8}(h:dQ m l=some id)(hc:eK c=false):c∉l:=by
 unfold dQ at h;split at h
 ·rename_i hq;intro hm;have:=aSg.1 hq.2.2.2 c hm;rw[hc]at this;simp at this
 simp at h
theorem aMy {m:Nat}(hm:m≤5){l:List UInt8}{id:Int}(h:dQ m l=some id):0≤id:=by
 unfold dQ at h;split at h
 ·rename_i hq;have:=(xW l hq.2.2.2 (by omega)).1;simp only[aSy]at h;omega
 simp at h
theorem aJd {l a b:List UInt8}(h:cN 32 l= [a,b]):gQ 32 l=a∧iH 32 l=b:=by
 by_cases hm:(32:UInt8)∈l
 ·obtain⟨x,y,rfl,hx⟩:=rD 32 l hm;rw[jP 32 x y hx]at h;obtain⟨h1,h2⟩:=iY 32 x y hx;simp only[List.cons.injEq]at h;obtain⟨rfl,h3⟩:=h;by_cases hy:(32:UInt8)∈y
  ·obtain⟨u,v,rfl,hu⟩:=rD 32 y hy;rw[jP 32 u v hu]at h3;simp only[List.cons.injEq]at h3;exact absurd h3.2 (kS 32 v)
  rw[lT 32 y hy]at h3;simp only[List.cons.injEq,and_true]at h3;subst h3;exact⟨h1,h2⟩
 rw[lT 32 l hm]at h;simp at h
theorem aJe {l:List UInt8}{id:Int}(h:dQ 4 (iH 32 l)=some id):cN 32 l= [gQ 32 l,iH 32 l]:=by
 by_cases hm:(32:UInt8)∈l
 ·obtain⟨x,y,rfl,hx⟩:=rD 32 l hm;obtain⟨h1,h2⟩:=iY 32 x y hx;rw[h2]at h;rw[jP 32 x y hx,h1,h2,lT 32 y (aK9 h (by decide))]
 rw[(qD 32 l hm).2]at h;simp[dQ]at h
theorem aD7 {h:aM}(a:aS h=true):dP (-1) h.vs=none:=by
 unfold dP;rw[List.find?_eq_none];intro v hv hc;obtain⟨q1,q2,q3,q4,q5⟩:=(eI h).1 a;have h1:v.1∈dR h.cells:=by rw[←q4];exact List.mem_map_of_mem hv
 have h2:v.1= -1:=by simpa using hc
 have h3:=(aS4.1 ((iC _).mem_iff.1 h1)).2;rw[h2]at h3;simp at h3
theorem aPr {h:aM}(a:aS h=true):aY h (-1)= -1∧dD h (-1)=false:=by unfold aY dD cR;rw[if_pos a,aD7 a];exact⟨rfl,rfl⟩
theorem aB7 {h:aM}(a:aS h=true)(id:Int):(aY h id= -1∧dD h id=false)∨(0≤aY h id∧aY h id≤693):=by
 cases hv:dP id h.vs with
 |none=>left;unfold aY dD cR;rw[if_pos a,hv];exact⟨rfl,rfl⟩
 |some v=>right;have hm:v∈h.vs:=aSx hv;have:=qA a hm;unfold aY cR;rw[if_pos a,hv];exact this
theorem aIn {h:aM}(a:aS h=true):0≤iP h∧iP h≤8316:=by unfold iP;rw[if_pos a];exact aP8 a
end Go.Proofs.YtomgkjinhnkpnaaGreatDoor
