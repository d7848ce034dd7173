/-
  Texts of this proof, packed (@packed).
-/
import Derived.Test.YthfmmibomhhmpaaGreatDoorY34
namespace Go.Proofs.YthfmmibomhhmpaaGreatDoor
open Go.RowKit
set_option linter.unusedSimpArgs false
set_option linter.unusedVariables false
set_option maxHeartbeats 8000000
set_option maxRecDepth 100000
theorem xK (h:aL)(k a b:Int)(p:OA)(n c:Nat)(q:OA)(m c2:Nat)(w:World)(hi:IsHouse w h p n c q m c2)(d:aP h=false):
  U 31 #[bG h p n c q m c2,eQ k a b] w (O (.tuple #[.agg #[(),(),((),()),(),(),(),(),(),(),((),())],(-1:Int),.bool false]) w):=
 aIu h.aA h.aB h.free h.step h.aD h.aF h.aC h.aG k a b p n c q m c2 h.cells h.vs w (xQ fun w' hx=>by have:=iW h p n c q m c2 w' (hi.ext hx);rwa[d]at this)
theorem wO (h:aL)(k a b:Int)(p:OA)(n d:Nat)(q:OA)(m c2:Nat)(w:World)(hi:IsHouse w h p n d q m c2)(l:aP h=true)(hE:BitTab w):
  U 31 #[bG h p n d q m c2,eQ k a b] w (aKc h (bY h k a b) w):=by
 obtain⟨q1,q2,q3,q4,q5⟩:=(dF h).1 l;have z:=fA l;have hl:=hi.clen;have y:=hi.vlen;have hS:=hi.cells;have hV:=hi.vs;subst hl y;have f:=xQ fun(w':World) (hx:Ext w w')=>(by have:=iW h p _ d q _ c2 w' (hi.ext hx);rwa[l]at this:U 19 #[bG h p h.cells.length d q h.vs.length c2] w' (O (.bool true) w'))
 have HL:=xQ fun(w':World) (hx:Ext w w')=>lG h p _ d q _ c2 w' (by omega) (by omega) (hi.ext hx)
 unfold RetHouse at HL;by_cases k0:k=0
 ·subst k0;have e0:bY h 0 a b=(if 0≤(cN h.aA h.aB h.cells a).2 then some ({h with cells:=(cN h.aA h.aB h.cells a).1,vs:=lX (a,h.aC,0,h.aC) h.vs},(cN h.aA h.aB h.cells a).2)else none):=by unfold bY;rw[if_pos rfl]
  have el:(cN h.aA h.aB h.cells a).1.length=h.cells.length:=by
   by_cases h0:0≤(cN h.aA h.aB h.cells a).2
   ·obtain⟨zs,s1,_,_,s4,_⟩:=oN q1 h0;rw[s4,aUi,s1.length_eq]
   unfold cN at h0⊢;split at h0
   ·rfl
   dsimp only at h0;omega
  have HP: ∀(w':World) (p1:OA) (cp1:Nat),Sl w' p1 h.cells.length cp1 1 (ivs h.cells)→U 96 #[aH h.aA h.aB p1 h.cells.length cp1,a] w' fun e w''=> ∃q c,e= .returned (.tuple #[aH h.aA h.aB q h.cells.length c,I (cN h.aA h.aB h.cells a).2])∧w''.ownsRow w' TI 1 (.slice q h.cells c) h.cells.length (ivs (cN h.aA h.aB h.cells a).1)∧Ext w' w'':=fun w' p1 cp1 hs=>by have:=aLw h.aA h.aB a p1 _ cp1 h.cells w' hs q1;unfold dA at this;rw[el]at this;exact this
  rw[e0];by_cases h0:0≤(cN h.aA h.aB h.cells a).2
  ·rw[if_pos h0];refine(mS h.aA h.aB h.free h.step h.aD h.aF h.aC h.aG 0 a b h.aC h.aG (cN h.aA h.aB h.cells a).2 p _ d q _ c2 (h.vs.length+1) h.cells (cN h.aA h.aB h.cells a).1 h.vs (lX (a,h.aC,0,h.aC) h.vs) w f HL (.inr (.inr (.inl ⟨rfl,rfl,fun w' R gA p1 cp1 q1 cq1 hM=> ?_⟩)))).mono ?_
   ·exact aIx w w' R gA h.aA h.aB h.free h.step h.aD h.aF h.aC h.aG a _ p1 _ cp1 q1 _ cq1 h.cells _ h.vs (by omega) h0 rfl hM (fun w2 hx=>HP w2 p1 cp1 ((Mem.sl hM (i:=0) rfl).ext hx))
   rintro e w' ⟨p',cap',q',g,rfl,o1,o2,hx⟩;refine⟨p',cap',q',g,?_,?_,?_,hx⟩
   ·simp[bG,el,qH]
   ·dsimp only;rw[el];exact o1
   dsimp only;rw[qH];exact o2
  rw[if_neg h0];exact iX h.aA h.aB h.free h.step h.aD h.aF h.aC h.aG 0 a b p _ d q _ c2 h.cells h.cells h.vs w f HL (.inr (.inr (.inr (.inr (.inl ⟨rfl,fun w' R gA p1 cp1 q1 cq1 hM=>aMc w' gA h.aA h.aB h.free h.step h.aD h.aF h.aC h.aG a _ p1 _ cp1 q1 _ cq1 _ (by omega) (Mem.blk hM (i:=2) rfl) (fun w2 hx2=>HP w2 p1 cp1 ((Mem.sl hM (i:=0) rfl).ext hx2))⟩)))))
 by_cases k1:k=1
 ·subst k1;have e0:bY h 1 a b=oY h a b:=by unfold bY;rw[if_neg (by omega),if_pos rfl]
  rw[e0];rcases oA a h.vs with⟨h1,h2⟩|⟨kk,a1,a2,a3,hk,h1,hx,h2⟩
  ·have hr:oY h a b=none:=by unfold oY;rw[h2]
   rw[hr]
   exact iX h.aA h.aB h.free h.step h.aD h.aF h.aC h.aG 1 a b p _ d q _ c2 h.cells h.cells h.vs w f HL (.inr (.inr (.inr (.inr (.inr (.inl ⟨rfl,fun w' R gA p1 cp1 q1 cq1 hM=>aG0 w' gA h.aA h.aB h.free h.step h.aD h.aF h.aC h.aG a b p1 _ cp1 q1 _ cq1 (Mem.blk hM (i:=2) rfl) (fun w2 hx2=>by
    have:=kE h.aA h.aB h.free h.step h.aD h.aF h.aC h.aG a p1 h.cells.length cp1 q1 _ cq1 h.vs w2 ((Mem.sl hM (i:=1) rfl).ext hx2)
    rwa[h1]at this)⟩))))))
  obtain⟨s1,s2⟩:=(iT _ _).1 (q5 _ (aT7 hx));dsimp only at s1 s2;have hD:=(kR q2 s1 s2 q3.2.1).1;have HP:=fun(w':World)=>aFo h.free h.step h.aD h.aF a1 a2 a3 h.aC b w' q2 s1 s2 q3.2.1
  have j:=aCw (amt:=b) hD;have hr:oY h a b=if(gC h.free h.step h.aD h.aF a1 a2 a3 h.aC b).2.2=true∧h.aG+b-(gC h.free h.step h.aD h.aF a1 a2 a3 h.aC b).2.1≤99999 then some ({h with aG:=h.aG+b-(gC h.free h.step h.aD h.aF a1 a2 a3 h.aC b).2.1,vs:=h.vs.set kk (a,(gC h.free h.step h.aD h.aF a1 a2 a3 h.aC b).1)},(gC h.free h.step h.aD h.aF a1 a2 a3 h.aC b).2.1)else none:=by unfold oY;rw[h2,h1];rfl
  rw[hr];generalize gC h.free h.step h.aD h.aF a1 a2 a3 h.aC b=r at*;obtain⟨⟨S1,S2,S3⟩,bk,s⟩:=r;dsimp only at HP j⊢;have t: ∀(w':World) (p1:OA) (cp1:Nat) (q1:OA) (cq1:Nat),Sl w' q1 h.vs.length cq1 4 (h.vs.flatMap aE)→U 98 #[.agg (aVs h p1 cp1 q1 cq1),a] w' (O (I kk) w'):=fun w' p1 cp1 q1 cq1 hs=>by have:=kE h.aA h.aB h.free h.step h.aD h.aF h.aC h.aG a p1 h.cells.length cp1 q1 _ cq1 h.vs w' hs;rwa[h1]at this
  by_cases hq:s=true∧h.aG+b-bk≤99999
  ·rw[if_pos hq];refine(mS h.aA h.aB h.free h.step h.aD h.aF h.aC h.aG 1 a b h.aC (h.aG+b-bk) bk p _ d q _ c2 h.vs.length h.cells h.cells h.vs (h.vs.set kk (a,S1,S2,S3)) w f HL (.inr (.inr (.inr (.inl ⟨rfl,rfl,fun w' R gA p1 cp1 q1 cq1 hM=> ?_⟩))))).mono ?_
   ·obtain⟨gq,rfl,_,_⟩:=Mem.some hM (i:=1) rfl (by omega);refine(aFz w w' R gA gq h.aA h.aB h.free h.step h.aD h.aF h.aC h.aG a b p1 _ cp1 _ cq1 kk h.cells h.vs a a1 a2 a3 S1 S2 S3 bk s hk (by omega) q3.2.2.1 q3.2.2.2 j hx hM (fun w2 hx2=>t w2 p1 cp1 _ cq1 ((Mem.sl hM (i:=1) rfl).ext hx2)) HP).mono ?_;rintro e w2 (⟨_,hno,_⟩|⟨_,_,rfl,o⟩)
    ·exact absurd hq hno
    exact⟨p1,cp1,_,cq1,rfl,o⟩
   rintro e w' ⟨p',cap',q',g,rfl,o1,o2,hx⟩;refine⟨p',cap',q',g,?_,o1,?_,hx⟩
   ·simp[bG]
   simpa using o2
  rw[if_neg hq];refine iX h.aA h.aB h.free h.step h.aD h.aF h.aC h.aG 1 a b p _ d q _ c2 h.cells h.cells h.vs w f HL (.inr (.inr (.inr (.inr (.inr (.inl ⟨rfl,fun w' R gA p1 cp1 q1 cq1 hM=> ?_⟩))))));obtain⟨gq,rfl,_,_⟩:=Mem.some hM (i:=1) rfl (by omega);refine(aFz w w' R gA gq h.aA h.aB h.free h.step h.aD h.aF h.aC h.aG a b p1 _ cp1 _ cq1 kk h.cells h.vs a a1 a2 a3 S1 S2 S3 bk s hk (by omega) q3.2.2.1 q3.2.2.2 j hx hM (fun w2 hx2=>t w2 p1 cp1 _ cq1 ((Mem.sl hM (i:=1) rfl).ext hx2)) HP).mono ?_;rintro e w2 (⟨rfl,_,hx2⟩|⟨e1,e2,_,_⟩)
  ·exact⟨rfl,hx2⟩
  exact absurd ⟨e1,e2⟩ hq
 by_cases k2:k=2
 ·subst k2;have HP: ∀(w':World) (p1:OA) (cp1:Nat),Ext w w'→Sl w' p1 h.cells.length cp1 1 (ivs h.cells)→U 100 #[aH h.aA h.aB p1 h.cells.length cp1,a] w' fun e w''=> ∃q c,e= .returned (.tuple #[aH h.aA h.aB q h.cells.length c,I (bW h.aA h.aB h.cells a).2])∧w''.ownsRow w' TI 1 (.slice q h.cells c) h.cells.length (ivs (bW h.aA h.aB h.cells a).1)∧Ext w' w'':=fun w' p1 cp1 hx hs=>by
   have:=aM9 h.aA h.aB a p1 _ cp1 h.cells w' hs q1 (hE.ext hx);have el:(bW h.aA h.aB h.cells a).1.length=h.cells.length:=by
    by_cases h0:0≤(bW h.aA h.aB h.cells a).2
    ·obtain⟨zs,s1,_,_,s4,_⟩:=lD q1 h0;rw[s4,aUi,s1.length_eq]
    unfold bW at h0⊢;split at h0
    ·rfl
    dsimp only at h0;omega
   unfold dA at this;rw[el]at this;exact this
  have el:(bW h.aA h.aB h.cells a).1.length=h.cells.length:=by
   by_cases h0:0≤(bW h.aA h.aB h.cells a).2
   ·obtain⟨zs,s1,_,_,s4,_⟩:=lD q1 h0;rw[s4,aUi,s1.length_eq]
   unfold bW at h0⊢;split at h0
   ·rfl
   dsimp only at h0;omega
  have HM: ∀(w':World) (p1:OA) (cp1:Nat) (q1:OA) (cq1:Nat),Sl w' p1 h.cells.length cp1 1 (ivs h.cells)→Sl w' q1 h.vs.length cq1 4 (h.vs.flatMap aE)→U 71 #[.agg (aVs h p1 cp1 q1 cq1),a] w' (O (.bool (cZ h a)) w'):=fun w' p1 cp1 q1 cq1 hs hv=>tX h a p1 _ cp1 q1 _ cq1 w' ⟨hs,hv⟩
  have e0:bY h 2 a b=(if cZ h a=true∧0≤(bW h.aA h.aB h.cells a).2 then some ({h with cells:=(bW h.aA h.aB h.cells a).1,vs:=h.vs.eraseIdx (vix a h.vs).toNat},(bW h.aA h.aB h.cells a).2)else none):=by unfold bY;rw[if_neg (by omega),if_neg (by omega),if_pos rfl]
  rw[e0];by_cases hmy:cZ h a=true
  ·rw[hmy]at HM;by_cases h0:0≤(bW h.aA h.aB h.cells a).2
   ·rw[if_pos ⟨hmy,h0⟩];have hv: ∃v,bT a h.vs=some v:=by
     have:=hmy;unfold cZ cT at this;rw[if_pos l]at this;cases hv:bT a h.vs with
     |none=>rw[hv]at this;simp at this
     |some v=>exact⟨v,rfl⟩
    obtain⟨v,hv⟩:=hv;obtain⟨v1,v2,v3,v4,v5,v6⟩:=gI hv;generalize hk:(vix a h.vs).toNat=kk at*;have u:(h.vs.eraseIdx kk).length=h.vs.length-1:=by rw[List.length_eraseIdx,if_pos v4]
    refine(mS h.aA h.aB h.free h.step h.aD h.aF h.aC h.aG 2 a b h.aC h.aG (bW h.aA h.aB h.cells a).2 p _ d q _ c2 (h.vs.length-1) h.cells (bW h.aA h.aB h.cells a).1 h.vs (h.vs.eraseIdx kk) w f HL (.inr (.inr (.inr (.inr ⟨rfl,rfl,fun w' R gA p1 cp1 q1 cq1 hM=> ?_⟩))))).mono ?_
    ·obtain⟨gq,rfl,_,_⟩:=Mem.some hM (i:=1) rfl (by omega);refine(aIv w w' R gA h.aA h.aB h.free h.step h.aD h.aF h.aC h.aG a _ p1 _ cp1 gq _ cq1 kk h.cells _ h.vs v4 (by omega) h0 hM (fun w2 hx2=>HM w2 p1 cp1 _ cq1 ((Mem.sl hM (i:=0) rfl).ext hx2) ((Mem.sl hM (i:=1) rfl).ext hx2)) (fun w2 hx2=>HP w2 p1 cp1 (hM.ext.trans hx2) ((Mem.sl hM (i:=0) rfl).ext hx2)) (fun w2 p' cap' hs=> ?_)).mono ?_
     ·have:=kE h.aA h.aB h.free h.step h.aD h.aF h.aC h.aG a p' h.cells.length cap' _ _ cq1 h.vs w2 hs;rwa[v5]at this
     rintro e w2 ⟨p5,c5,rfl,o⟩;exact⟨p5,c5,_,cq1,rfl,o⟩
    rintro e w' ⟨p',cap',q',g,rfl,o1,o2,hx⟩;refine⟨p',cap',q',g,?_,?_,?_,hx⟩
    ·simp only[bG,el,u]
    ·dsimp only;rw[el];exact o1
    dsimp only;rw[u];exact o2
   rw[if_neg (by intro e;exact h0 e.2)];exact iX h.aA h.aB h.free h.step h.aD h.aF h.aC h.aG 2 a b p _ d q _ c2 h.cells h.cells h.vs w f HL (.inr (.inr (.inr (.inr (.inr (.inr ⟨rfl,fun w' R gA p1 cp1 q1 cq1 hM=>aMb w' gA h.aA h.aB h.free h.step h.aD h.aF h.aC h.aG a _ p1 _ cp1 q1 _ cq1 _ (by omega) (Mem.blk hM (i:=2) rfl) (fun w2 hx2=>HM w2 p1 cp1 _ cq1 ((Mem.sl hM (i:=0) rfl).ext hx2) ((Mem.sl hM (i:=1) rfl).ext hx2)) (fun w2 hx2=>HP w2 p1 cp1 (hM.ext.trans hx2) ((Mem.sl hM (i:=0) rfl).ext hx2))⟩))))))
  rw[if_neg (by intro e;exact hmy e.1)];have x:cZ h a=false:=by simpa using hmy
  rw[x]at HM;exact iX h.aA h.aB h.free h.step h.aD h.aF h.aC h.aG 2 a b p _ d q _ c2 h.cells h.cells h.vs w f HL (.inr (.inr (.inr (.inr (.inr (.inr ⟨rfl,fun w' R gA p1 cp1 q1 cq1 hM=>aIw w' gA h.aA h.aB h.free h.step h.aD h.aF h.aC h.aG a 0 p1 _ cp1 q1 _ cq1 (Mem.blk hM (i:=2) rfl) (fun w2 hx2=>HM w2 p1 cp1 _ cq1 ((Mem.sl hM (i:=0) rfl).ext hx2) ((Mem.sl hM (i:=1) rfl).ext hx2))⟩))))))
 by_cases k3:k=3
 ·subst k3;have e0:bY h 3 a b=(if 1≤a∧a≤9999-h.aC then some ({h with aC:=h.aC+a},h.aC+a)else none):=by unfold bY;rw[if_neg (by omega),if_neg (by omega),if_neg (by omega),if_pos rfl]
  rw[e0];by_cases h1:1≤a
  ·by_cases h2:a≤9999-h.aC
   ·rw[if_pos ⟨h1,h2⟩];exact mS h.aA h.aB h.free h.step h.aD h.aF h.aC h.aG 3 a b (h.aC+a) h.aG (h.aC+a) p _ d q _ c2 _ h.cells _ h.vs _ w f HL (.inl ⟨rfl,q3.1,q3.2.1,h1,h2,rfl,rfl,rfl,rfl,rfl,rfl⟩)
   rw[if_neg (by omega)];exact iX h.aA h.aB h.free h.step h.aD h.aF h.aC h.aG 3 a b p _ d q _ c2 h.cells h.cells h.vs w f HL (.inr (.inr (.inl ⟨rfl,q3.1,q3.2.1,h1,by omega⟩)))
  rw[if_neg (by omega)];exact iX h.aA h.aB h.free h.step h.aD h.aF h.aC h.aG 3 a b p _ d q _ c2 h.cells h.cells h.vs w f HL (.inr (.inl ⟨rfl,q3.1,q3.2.1,by omega⟩))
 by_cases k4:k=4
 ·subst k4;have HP:=xQ fun(w':World) (hx:Ext w w')=>aBm h.aA h.aB a b p _ d h.cells w' (hS.ext hx) q1
  have e0:bY h 4 a b=(if bH h.aA h.aB h.cells a b=true then some ({h with cells:=bL h.aA h.aB h.cells a b},0)else none):=by unfold bY;rw[if_neg (by omega),if_neg (by omega),if_neg (by omega),if_neg (by omega),if_pos rfl]
  unfold dB at HP;rw[dG]at HP;rw[e0];cases hm:bH h.aA h.aB h.cells a b with
  |true=>
   rw[hm]at HP;rw[if_pos rfl];refine(mS h.aA h.aB h.free h.step h.aD h.aF h.aC h.aG 4 a b h.aC h.aG 0 p _ d q _ c2 _ h.cells (bL h.aA h.aB h.cells a b) h.vs _ w f HL (.inr (.inl ⟨rfl,rfl,rfl,rfl,rfl,rfl,HP⟩))).mono ?_;rintro e w' ⟨p',cap',q',g,rfl,o1,o2,hx⟩;refine⟨p',cap',q',g,?_,?_,o2,hx⟩
   ·simp only[bG,dG]
   dsimp only;rw[dG];exact o1
  |false=>rw[hm]at HP;rw[if_neg (by simp)];exact iX h.aA h.aB h.free h.step h.aD h.aF h.aC h.aG 4 a b p _ d q _ c2 h.cells (bL h.aA h.aB h.cells a b) h.vs w f HL (.inr (.inr (.inr (.inl ⟨rfl,HP⟩))))
 have e0:bY h k a b=none:=by unfold bY;rw[if_neg k0,if_neg k1,if_neg k2,if_neg k3,if_neg k4]
 rw[e0];exact iX h.aA h.aB h.free h.step h.aD h.aF h.aC h.aG k a b p _ d q _ c2 h.cells h.cells h.vs w f HL (.inl ⟨k0,k1,k2,k3,k4⟩)
section
open Go.Proofs.Tryz
theorem aR4 (h:aL)(p:OA)(a:Nat)(q:OA)(c2:Nat)(lq:OA)(lm lc:Nat)(ds:List Dd3)(w:World)
  (b:xC 19 #[.agg (aVs h p a q c2)] w fun w' e w''=>e= .returned (Value.bool false)∧Ext w' w''):
  U 66 #[.agg #[h.aA,h.aB,.slice p h.cells a,h.free,h.step,h.aD,h.aF,h.aC,h.aG,.slice q h.vs c2],.slice lq lm lc] w (pL w (hZ,[]) w):=by
 go_enter func66,ntmps66;go_wp2_with fail;refine Z (b _ (((Mem.start w).c0 aK (aVs h p a q c2)).c1 aK zT).ext) fun w1 d=>?_
 have M1:=((((Mem.start w).c0 aK (aVs h p a q c2)).c1 aK zT).adv d)
 clear d b;have f_:=(M1.bk 0).tenf;go_wp2;clear f_;have M2:=(M1.put10 (i:=0) rfl (I 0) (I 0) (.slice none 0 0) (I 0) (I 0) (I 0) (I 0) (I 0) (I 0) (.slice none 0 0))
 generalize c:World.setCell _ _ _=wz;rw[c]at M2;clear c M1;have y_:=(M2.bk 0).ten;exact bodyPost_ret (v:= .tuple #[.agg #[(),(),((),()),(),(),(),(),(),(),((),())],((),())]) (by simp[results,results66,go_sem, *]) rfl (show pL w (hZ,[]) w _ _ from⟨none,0,none,0,none,0,rfl,aTe _ _ _ _,aTe _ _ _ _,aTe _ _ _ _,M2.ext⟩)
theorem aSs (h:aL)(p:OA)(a:Nat)(q:OA)(c2:Nat)(lq:OA)(lm lc:Nat)(ds:List Dd3)(w:World)(hb:lm≤1048576)(hE:Hid (BitTab w))(s:Hid (ds.length=lm))(al:Hid (aP h=true))(HS:Hid (Sl w lq lm lc 3 (ds.flatMap cI)))
  (y:xB 19 #[.agg (aVs h p a q c2)] w true)
  (HL:xC 20 #[.agg (aVs h p a q c2)] w fun w' e w''=> ∃p' cap' q' c2',e= .returned (.agg #[h.aA,h.aB,.slice p' h.cells cap',h.free,h.step,h.aD,h.aF,h.aC,h.aG,.slice q' h.vs c2'])∧w''.ownsRow w' TI 1 (.slice p' h.cells cap') h.cells.length (ivs h.cells)∧w''.ownsRow w' TV 4 (.slice q' h.vs c2') h.vs.length (h.vs.flatMap aE)∧Ext w' w''):
  U 66 #[.agg #[h.aA,h.aB,.slice p h.cells a,h.free,h.step,h.aD,h.aF,h.aC,h.aG,.slice q h.vs c2],.slice lq lm lc] w (pL w (iM h ds,eH h ds) w):=by
 have ai:=HS.out.bd;obtain⟨AB,o⟩: ∃AB:Array Value,AB=madeCells #[.bool false] lm:=⟨_,rfl⟩
 have ak: ∀w:World,(Instr.makeSlice 100 (I lm) (I lm)).run prog w= .ok (.slice (some ⟨w,0,none⟩) lm lm) (w.alloc (.cells AB TB)):=fun w=>by rw[o];exact run_make_row' _ _ (Value.bool false) 1 underlying100 (by kernel_rfl) rfl .i64 .i64 lm (by omega) (by omega) w
 have z:Hid (AB.toList=bcs []++List.replicate (lm-0) (Value.bool false)):=by show _=_;rw[o,(jG _ lm).1];simp[bcs]
 have aa:Hid (AB.size=lm):=by show _=_;rw[o];exact(jG _ lm).2
 clear o ai;go_enter func66,ntmps66;go_wp2_with fail;refine Z (y _ (((Mem.start w).c0 aK (aVs h p a q c2)).c1 aK zT).ext) fun w1 af=>?_
 have M1:=((((Mem.start w).c0 aK (aVs h p a q c2)).c1 aK zT).adv af)
 clear af y;have ah:=(M1.bk 1).ten;go_wp2_with fail;clear ah;refine(HL _ M1.ext).mono ?_;rintro e w2 ⟨p1,l,q1,m,rfl,ho,hq,hx⟩;have M2:=(M1.own2 hx ho hq (aT5 _) (by decide))
 clear M1 hx ho hq HL;go_upto_region 4 with fail;obtain⟨gV,u⟩: ∃gV,gV=w2.heap.size:=⟨_,rfl⟩
 rw[←u];have M3:=(M2.blkNew aK (aVs h p1 l q1 m) gV u.symm)
 generalize World.alloc _ _=w3 at M3⊢;clear M2 u;go_upto_region 5 with fail;obtain⟨gD,t⟩: ∃gD,gD=w3.heap.size:=⟨_,rfl⟩
 rw[←t]
 have MD:=(show Mem w (w3.alloc (.cells AB TB)) [aJ w TB 1 (some ⟨gD,0,none⟩) (lm) (lm) (bcs ([])++List.replicate (lm-0) (Value.bool false)),aI w (gV) aK (aVs h p1 l q1 m),aVq w p1 h.cells l,aVr w q1 h.vs m,aI w (w.heap.size+1) aK #[(),(),((),()),(),(),(),(),(),(),((),())],aI w w aK (aVs h p a q c2)]from by
  have h1:=M3.lit TB 1 lm gD AB t.symm (by rw[aa.out];omega) (by simp[maxLen];omega);rw[z.out]at h1
  exact h1)
 generalize ae:World.alloc _ _=w4;rw[ae]at MD;clear ae z aa ak t M3;go_wp2;go_loopw [21] (fun i wr=> ∃(k:Nat) (g:aL) (p3:OA) (c3:Nat) (q3:OA) (d3:Nat),k≤lm∧i=I k∧g=iM h (ds.take k)∧Mem w wr [aJ w TB 1 (some ⟨gD,0,none⟩) (lm) (lm) (bcs (eH h (ds.take k))++List.replicate (lm-k) (Value.bool false)),aVq w p3 g.cells c3,aVr w q3 g.vs d3,aI w (gV) aK (aVs g p3 c3 q3 d3),aI w (w.heap.size+1) aK #[(),(),((),()),(),(),(),(),(),(),((),())],aI w w aK (aVs h p a q c2)]) (fun i _=>lm-(intOf i).toNat)
 case atStart=>exact⟨0,h,p1,l,q1,m,aTd _,rfl,rfl,(show Mem w w4 [aJ w TB 1 (some ⟨gD,0,none⟩) (lm) (lm) (bcs ([])++List.replicate (lm-0) (Value.bool false)),aVq w p1 h.cells l,aVr w q1 h.vs m,aI w (gV) aK (aVs h p1 l q1 m),aI w (w.heap.size+1) aK #[(),(),((),()),(),(),(),(),(),(),((),())],aI w w aK (aVs h p a q c2)]from MD.pick [0,2,3,1,4,5] (by decide) rfl)⟩
 case round=>
  clear MD;obtain⟨k,g,p3,c3,q3,d3,hk,rfl,hg,hM⟩:=hrel;have HM:=hM;have HG:=xQ hg;have x:Hid (aP g=true):=by show _=_;rw[hg];exact aCt _ al.out
  clear hM hg;by_cases hlt:k<lm
  ·obtain⟨b,a3,a0,a1,a2,aj,hx,az,e0,e1,e2⟩:=aK3 (HS.out.ext HM.ext) hlt;subst aj;have HX:=xQ hx;clear hx;have i1:=aVt k;have i2:=aVu k lm;obtain⟨r,num,ok,hr⟩: ∃r num ok,(r,num,ok)=doR g a0 a1 a2:=⟨_,_,_,rfl⟩
   have HR:=xQ hr;clear hr;have ad:Hid (iM h (ds.take (k+1))=r∧eH h (ds.take (k+1))=eH h (ds.take k)++ [ok]):=by show _∧_;rw[bA HX.out,vC,sY,←HG.out,←HR.out];exact⟨rfl,rfl⟩
   have HD:Hid (∀B p c q d w',B≤w'.heap.size→Ext wr w'→IsHouse w' g p g.cells.length c q g.vs.length d→U 31 #[.agg (aVs g p c q d),.agg #[a0,a1,a2]] w' fun e w''=> ∃pa ca qa da,e= .returned (.tuple #[.agg #[r.aA,r.aB,.slice pa r.cells ca,r.free,r.step,r.aD,r.aF,r.aC,r.aG,.slice qa r.vs da],num,.bool ok])∧w''.ownsRow B TI 1 (.slice pa r.cells ca) r.cells.length (ivs r.cells)∧w''.ownsRow B TV 4 (.slice qa r.vs da) r.vs.length (r.vs.flatMap aE)∧Ext w' w''):=fun B p c q d w' hB hx hi=>by refine(wO g a0 a1 a2 p _ c q _ d w' hi x (hE.out.ext (HM.ext.trans hx))).mono (fun e w'' hr=> ?_);have hq:=xO hB x hr;rw[←HR.out]at hq;exact hq
   have IX:=xQ (show IsHouse wr g p3 g.cells.length c3 q3 g.vs.length d3 from⟨(HM.sq 1),(HM.sq 2)⟩);have f:gV<wr:=(HM.hi 3)
   obtain⟨v0,v1,v2,v3,v4,v5,v6,v7,v8,v9⟩:=(HM.bk 3).ten;go_wp2_with fail;clear v0 v1 v2 v3 v4 v5 v6 v7 v8 v9 e0 e1 e2;refine(HD _ _ _ _ _ _ (aT5 _) ((Ext.refl _).alloc _) (IX.out.ext ((Ext.refl _).alloc _))).mono ?_;rintro e w6 ⟨p5,c5,q5,d5,rfl,ho,hq,hx⟩;have M6:=((HM.c0 TDd #[a0,a1,a2]).own2 hx ho hq (aT5 _) (by decide))
   clear HM f hx ho hq HD IX;obtain⟨v0,an,v1,ao,v2,ap,v3,aq,v4,ar,v5,au,v6,av,v7,aw,v8,ax,v9,ay⟩:=(M6.bk 6).tenf;have ag: ¬(gD=gV):=M6.ne (i:=3) (j:=6) (by omega) rfl rfl rfl rfl;have am: ¬(gV=gD):=fun h=>ag h.symm
   have fD:w6.frozen? ⟨gD,k,none⟩=false:=(M6.ow 3).frozenAt k;have ab:(bcs (eH h (ds.take k))).length=k:=by rw[aRj,aBv,aTt,s.out];omega
   have cD:w6.cell? ⟨gD,k,none⟩=some (Value.bool false):=by have:=(M6.ow 3).cellAt k (by omega);rw[this];exact aRg ab hlt
   go_wp2;clear v0 an v1 ao v2 ap v3 aq v4 ar v5 au v6 av v7 aw v8 ax v9 ay ag am fD cD;have M9:=((M6.put10 (i:=6) rfl (I r.aA) (I r.aB) (.slice p5 r.cells c5) (I r.free) (I r.step) (I r.aD) (I r.aF) (I r.aC) (I r.aG) (.slice q5 r.vs d5)).ostore (i:=3) rfl k (Value.bool ok))
   generalize n:World.setCell _ _ _=wz;rw[n]at M9;clear n M6;go_roundw
   case rel=>
    have hd:(bcs (eH h (ds.take k))++List.replicate (lm-k) (Value.bool false)).set k (Value.bool ok)=bcs (eH h (ds.take (k+1)))++List.replicate (lm-(k+1)) (Value.bool false):=by rw[ad.out.2,aGo];exact aPt ab hlt
    exact⟨k+1,r,p5,c5,q5,d5,by omega,by go_num,ad.out.1.symm,by rw[←hd];exact(show Mem w wz [aJ w TB 1 (some ⟨gD,0,none⟩) (lm) (lm) ((bcs (eH h (ds.take k))++List.replicate (lm-k) (Value.bool false)).set k (Value.bool ok)),aVq w p5 r.cells c5,aVr w q5 r.vs d5,aI w (gV) aK (aVs r p5 c5 q5 d5),aI w (w.heap.size+1) aK #[(),(),((),()),(),(),(),(),(),(),((),())],aI w w aK (aVs h p a q c2)]from(show Mem w wz [aVq w p5 r.cells c5,aVr w q5 r.vs d5,aI w wr TDd #[a0,a1,a2],aJ w TB 1 (some ⟨gD,0,none⟩) (lm) (lm) ((bcs (eH h (ds.take k))++List.replicate (lm-k) (Value.bool false)).set k (Value.bool ok)),aVq w p3 g.cells c3,aVr w q3 g.vs d3,aI w (gV) aK (aVs r p5 c5 q5 d5),aI w (w.heap.size+1) aK #[(),(),((),()),(),(),(),(),(),(),((),())],aI w w aK (aVs h p a q c2)]from M9).pick [3,0,1,6,7,8] (by decide) rfl)⟩
   case measure=>simp[intOf];omega
  obtain rfl:lm=k:=by omega
  have f:gV<wr:=(HM.hi 3)
  obtain⟨v0,v1,v2,v3,v4,v5,v6,v7,v8,v9⟩:=(HM.bk 3).ten;have f_:=(HM.bk 4).tenf;go_wp2;clear v0 v1 v2 v3 v4 v5 v6 v7 v8 v9 f_ f;have M6:=(HM.put10 (i:=4) rfl (I g.aA) (I g.aB) (.slice p3 g.cells c3) (I g.free) (I g.step) (I g.aD) (I g.aF) (I g.aC) (I g.aG) (.slice q3 g.vs d3))
  generalize n:World.setCell _ _ _=wz;rw[n]at M6;clear n HM;have y_:=(M6.bk 4).ten;exact bodyPost_ret (v:= .tuple #[.agg #[g.aA,g.aB,.slice p3 g.cells c3,g.free,g.step,g.aD,g.aF,g.aC,g.aG,.slice q3 g.vs d3],.slice (some ⟨gD,0,none⟩) lm lm]) (by simp[results,results66,go_sem, *]) rfl (aJk (by have h1:=HG.out;rw[aTa (by rw[s.out];exact aT5 _)]at h1;exact h1) s.out (M6.ow 1) (M6.ow 2) (by have h1:=(M6.ow 0);rw[aTa (by rw[s.out];exact aT5 _),aV0,List.replicate_zero,aTv]at h1;exact h1) M6.ext)
theorem aDe (h:aL)(p:OA)(n a:Nat)(q:OA)(m c2:Nat)(lq:OA)(lm lc:Nat)(ds:List Dd3)(w:World)(hi:IsHouse w h p n a q m c2)(hS:Sl w lq lm lc 3 (ds.flatMap cI))(hb:lm≤1048576)(hE:BitTab w):
  U 66 #[bG h p n a q m c2,.slice lq lm lc] w (pL w (yM h ds) w):=by
 have hl:=hi.clen;have c:=hi.vlen;have b:ds.length=lm:=by have:=hS.len;rw[dD cI 3 (fun _=>rfl)]at this;omega
 subst hl c;have HV:=xQ fun(w':World) (hx:Ext w w')=>iW h p _ a q _ c2 w' (hi.ext hx)
 by_cases hok:aP h=true
 ·have d:=fA hok;unfold yM;rw[if_pos hok];rw[hok]at HV;have HL:=xQ fun(w':World) (hx:Ext w w')=>lG h p _ a q _ c2 w' (by omega) (by omega) (hi.ext hx)
  unfold RetHouse at HL;exact aSs h p a q c2 lq lm lc ds w hb hE b hok hS HV HL
 unfold yM;rw[if_neg hok];rw[show aP h=false by simpa using hok]at HV;exact aR4 h p a q c2 lq lm lc ds w HV
end
theorem pJ {h:aL}(hn:h.cells.length≤1048576):(cC h).length≤1000:=by
 cases hok:aP h with
 |false=>unfold cC;rw[hok];simp
 |true=>
  rw[nU hok];have h1:=kX hok;unfold aN at h1;rw[aTf]at h1;have hb:=cG h1.1;have h2:=aLd (if(0:Int)∈h.cells then []else [h.cells.headD 0]) (cS h.cells);have h3:=kT h.cells;rw[jM]at h2;have h4:(if(0:Int)∈h.cells then([]:List Int)else [h.cells.headD 0]).length≤1:=by split<;>simp
  omega
theorem nH (h:aL)(id:Int):aQ h id≤10000∧ -10000≤aQ h id:=by
 cases hok:aP h with
 |false=>simp[aQ,cT,hok]
 |true=>
  cases hv:bT id h.vs with
  |none=>simp[aQ,cT,hok,hv]
  |some v=>
   have hm:v∈h.vs:=aUa hv;have hb:=oH hok hm;have e:aQ h id=qV h v:=by unfold aQ cT qV;rw[if_pos hok,hv];rfl
   rw[e];omega
theorem zU (h:aL)(k:Nat):(bE (aQ h) ((cC h).take k)).length≤k*41:=by refine aTg (aDu _ _ 40 (fun x _=> ?_)) (aUw 41 (List.length_take_le _ _));have:=nH h x;unfold dP;omega
theorem aC1 {h:aL}(hn:h.cells.length≤1048576):(bE (aQ h) (cC h)).length≤100000:=by have h1:=zU h (cC h).length;rw[aUv]at h1;have:=pJ hn;omega
theorem aDi (h:aL)(p:OA)(n a:Nat)(q:OA)(m c2:Nat)(w:World)(hn:h.cells.length≤1048576)(hi:IsHouse w h p n a q m c2):
  U 67 #[bG h p n a q m c2] w (mX (bE (aQ h) (cC h)) w):=
 aP1 h.aA h.aB h.free h.step h.aD h.aF h.aC h.aG p n a q m c2 (cC h) (aQ h) w (pJ hn)
  (fun w' hx=>aDh h p n a q m c2 w' (hi.ext hx)) (fun x _ w' hx=>tY h x p n a q m c2 w' (hi.ext hx)) (fun x _=>nH h x) (fun k=>zU h k)
theorem aCk (h:aL)(p:OA)(n a:Nat)(q:OA)(m c2:Nat)(w:World)(hn:h.cells.length≤1048576)(hi:IsHouse w h p n a q m c2):
  U 89 #[bG h p n a q m c2] w (mX (bE (aQ h) (cC h)) w):=
 aNm h.aA h.aB h.free h.step h.aD h.aF h.aC h.aG p n a q m c2 (cC h) (aQ h) w (pJ hn)
  (fun w' hx=>aCj h p n a q m c2 w' (hi.ext hx)) (fun x _ w' hx=>oQ h x p n a q m c2 w' (hi.ext hx))
  (fun x _ w'=>by
   have hb:=nH h x;refine(aH0 x (aQ h x) w' hb.1 hb.2).mono ?_;rintro e b ⟨q,c,rfl,ho,hx⟩;rw[mI]at ho⊢
   exact⟨q,c,rfl,ho,hx⟩)
  (fun x _=>nH h x) (fun k=>zU h k)
section
open Go.Proofs.Tryz
def uH (h:aL):aL:=(yM h (bE (aQ h) (cC h))).1
theorem aSo (h r:aL)(p:OA)(a:Nat)(q:OA)(c2:Nat)(ds:List Dd3)(nb:Nat)(w:World)
  (HI:Hid (IsHouse w h p h.cells.length a q h.vs.length c2))
  (HE:Hid (∀w',Ext w w'→U 89 #[.agg (aVs h p a q c2)] w' (mX ds w')))
  (HR:Hid (∀B pe ce w',B≤w'.heap.size→Ext w w'→Sl w' pe ds.length ce 3 (ds.flatMap cI)→U 88 #[.agg (aVs h p a q c2),.slice pe ds ce] w' fun e w''=> ∃pa ca qa da ps cs,e= .returned (.tuple #[.agg #[r.aA,r.aB,.slice pa r.cells ca,r.free,r.step,r.aD,r.aF,r.aC,r.aG,.slice qa r.vs da],.slice ps nb cs])∧w''.ownsRow B TI 1 (.slice pa r.cells ca) r.cells.length (ivs r.cells)∧w''.ownsRow B TV 4 (.slice qa r.vs da) r.vs.length (r.vs.flatMap aE)∧Ext w' w'')):
  U 50 #[.agg #[h.aA,h.aB,.slice p h.cells a,h.free,h.step,h.aD,h.aF,h.aC,h.aG,.slice q h.vs c2]] w (RetHouse r w):=by
 go_enter func50,ntmps50;go_upto_region 1 with fail;have M1:=(((Mem.start w).c0 aK (aVs h p a q c2)).c1 aK zT)
 generalize World.alloc _ _=v0 at M1⊢;have j:=M1.hi 0;have xm:=M1.ext;have ap:=(M1.bk 1).ten;have n: ¬(v0.heap.size=w.heap.size):=by omega
 go_cut [3,4] (fun s1 _ wx=> ∃(g5:Nat) (p5:OA) (c5:Nat) (q5:OA) (d5:Nat),s1= .pointer (some ⟨g5,0,none⟩)∧Mem w wx [aI w (g5) aK (aVs r p5 c5 q5 d5),aVq w p5 r.cells c5,aVr w q5 r.vs d5,aI w (w.heap.size+1) aK #[(),(),((),()),(),(),(),(),(),(),((),())],aI w w aK (aVs h p a q c2)])
 case first=>
  go_region_held3 (fun w'=>w'.cell? ⟨w,0,none⟩=some (I h.aA)∧w'.cell? ⟨w,1,none⟩=some (I h.aB)∧w'.cell? ⟨w,2,none⟩=some (.slice p h.cells a)∧w'.cell? ⟨w,3,none⟩=some (I h.free)∧w'.cell? ⟨w,4,none⟩=some (I h.step)∧w'.cell? ⟨w,5,none⟩=some (I h.aD)∧w'.cell? ⟨w,6,none⟩=some (I h.aF)∧w'.cell? ⟨w,7,none⟩=some (I h.aC)∧w'.cell? ⟨w,8,none⟩=some (I h.aG)∧w'.cell? ⟨w,9,none⟩=some (.slice q h.vs c2))
   (first|(refine⟨?_,?_,?_,?_,?_,?_,?_,?_,?_,?_⟩<;>with_reducible assumption)|go_keep)
   (first
    |(go_at_call 89
      refine(HE _ xE).mono ?_;rintro e we ⟨pe,ce,rfl,oe,m⟩;have g:Ext v0 we:=xE;have Ie:=xQ (Sl.own oe);clear oe;have au:=((M1.bk 1).ext g).ten
      have aq: ¬(we.heap.size=w.heap.size):=by have:=g.sz;omega)
    |(go_at_call 88
      refine(HR v0 _ _ _ (Ext.sz (show Ext v0 _ from xE)) xE (by first|with_reducible exact Ie.out|with_reducible exact Ie.out.ext ((Ext.refl _).alloc _))).mono ?_;rintro e ws ⟨p5,c5,q5,d5,av,ar,rfl,os,d,f⟩;have c:Ext v0 ws:=xE;have aw:=((M1.bk 1).ext c).ten
      first
       |(with_reducible have hz:Ext (v0.alloc (.cells #[(),(),((),()),(),(),(),(),(),(),((),())] aK)) ws:=m.trans f;have MB:=(Mem.own2blk M1 c ((Blk.new v0 aK #[(),(),((),()),(),(),(),(),(),(),((),())]).ext hz) (aT5 _) os d (by decide) (by decide) (by decide));obtain⟨o,af,s,ag,t,ah,u,ai,x,aj,y,ak,aa,al,ab,am,ad,an,ae,ao⟩:=(MB.blk (i:=2) rfl).tenf)
       |(with_reducible have hz:Ext (v0.alloc (.cells #[(),(),((),()),(),(),(),(),(),(),((),())] aK)) ws:=m.of_drew.trans f;have MB:=(Mem.own2blk M1 c ((Blk.new v0 aK #[(),(),((),()),(),(),(),(),(),(),((),())]).ext hz) (aT5 _) os d (by decide) (by decide) (by decide));obtain⟨o,af,s,ag,t,ah,u,ai,x,aj,y,ak,aa,al,ab,am,ad,an,ae,ao⟩:=(MB.blk (i:=2) rfl).tenf)
       |(with_reducible have hz:Ext (we.alloc (.cells #[(),(),((),()),(),(),(),(),(),(),((),())] aK)) ws:=f;have MB:=(Mem.own2blk M1 c ((Blk.new we aK #[(),(),((),()),(),(),(),(),(),(),((),())]).ext hz) g.sz os d (by decide) (by decide) (by decide));obtain⟨o,af,s,ag,t,ah,u,ai,x,aj,y,ak,aa,al,ab,am,ad,an,ae,ao⟩:=(MB.blk (i:=2) rfl).tenf)
       |(have MA:=(Mem.own2 M1 c os d (aT5 _) (by decide)))))
  all_goals (
   go_wp2_with fail;go_meet
   first
    |exact⟨_,p5,c5,q5,d5,rfl,(MB.put10 (i:=2) rfl (I r.aA) (I r.aB) (.slice p5 r.cells c5) (I r.free) (I r.step) (I r.aD) (I r.aF) (I r.aC) (I r.aG) (.slice q5 r.vs d5)).pick [2,0,1,3,4] (by decide) rfl⟩
    |exact⟨_,p5,c5,q5,d5,rfl,MA.bn aK (aVs r p5 c5 q5 d5) _⟩)
 case rest=>
  clear ap n xm HE HR HI;obtain⟨g5,p5,c5,q5,d5,rfl,k⟩:=hcut;obtain⟨v5,rfl⟩: ∃z,z=wc:=⟨_,rfl⟩
  have MC:=k;clear k M1 j;obtain⟨v0,v1,v2,v3,v4,v5,v6,v7,v8,v9⟩:=(MC.bk 0).ten;have f_:=(MC.bk 3).tenf;go_wp2;clear v0 v1 v2 v3 v4 v5 v6 v7 v8 v9 f_;have b:=(MC.put10 (i:=3) rfl (I r.aA) (I r.aB) (.slice p5 r.cells c5) (I r.free) (I r.step) (I r.aD) (I r.aF) (I r.aC) (I r.aG) (.slice q5 r.vs d5))
  generalize l:World.setCell _ _ _=wz;rw[l]at b;clear l MC;have y_:=(b.bk 3).ten;exact bodyPost_ret (v:= .agg #[r.aA,r.aB,.slice p5 r.cells c5,r.free,r.step,r.aD,r.aF,r.aC,r.aG,.slice q5 r.vs d5]) (by simp[results,results50,go_sem, *]) rfl (show RetHouse r w _ _ from⟨p5,c5,q5,d5,rfl,(b.ow 1),(b.ow 2),b.ext⟩)
theorem aCh (h:aL)(p:OA)(n a:Nat)(q:OA)(m c2:Nat)(w:World)(hn:h.cells.length≤1048576)(hi:IsHouse w h p n a q m c2):
  U 50 #[bG h p n a q m c2] w (RetHouse (uH h) w):=by
 have hl:=hi.clen;have b:=hi.vlen;subst hl b
 exact aSo h (uH h) p a q c2 (bE (aQ h) (cC h)) (yM h (bE (aQ h) (cC h))).2.length w hi
  (fun w' hx=>aCk h p _ a q _ c2 w' hn (hi.ext hx))
  (fun B pe ce w' hB hx hS=>(aCg h p _ a q _ c2 pe _ ce _ w' (hi.ext hx) hS (aTg (aC1 hn) (by omega))).mono (by
   rintro e d ⟨pa,ca,qa,da,ps,cs,rfl,o1,o2,_,c⟩
   exact⟨pa,ca,qa,da,ps,cs,rfl,cH o1 hB,cH o2 hB,c⟩))
theorem aSu (h r:aL)(p:OA)(a:Nat)(q:OA)(c2:Nat)(ds:List Dd3)(nb:Nat)(w:World)
  (HI:Hid (IsHouse w h p h.cells.length a q h.vs.length c2))
  (HE:Hid (∀w',Ext w w'→U 67 #[.agg (aVs h p a q c2)] w' (mX ds w')))
  (HR:Hid (∀B pe ce w',B≤w'.heap.size→Ext w w'→Sl w' pe ds.length ce 3 (ds.flatMap cI)→U 66 #[.agg (aVs h p a q c2),.slice pe ds ce] w' fun e w''=> ∃pa ca qa da ps cs,e= .returned (.tuple #[.agg #[r.aA,r.aB,.slice pa r.cells ca,r.free,r.step,r.aD,r.aF,r.aC,r.aG,.slice qa r.vs da],.slice ps nb cs])∧w''.ownsRow B TI 1 (.slice pa r.cells ca) r.cells.length (ivs r.cells)∧w''.ownsRow B TV 4 (.slice qa r.vs da) r.vs.length (r.vs.flatMap aE)∧Ext w' w'')):
  U 33 #[.agg #[h.aA,h.aB,.slice p h.cells a,h.free,h.step,h.aD,h.aF,h.aC,h.aG,.slice q h.vs c2]] w (RetHouse r w):=by
 go_enter func33,ntmps33;go_upto_region 1 with fail;have M1:=(((Mem.start w).c0 aK (aVs h p a q c2)).c1 aK zT)
 generalize World.alloc _ _=v0 at M1⊢;have j:=M1.hi 0;have xm:=M1.ext;have ap:=(M1.bk 1).ten;have n: ¬(v0.heap.size=w.heap.size):=by omega
 go_cut [3,4] (fun s1 _ wx=> ∃(g5:Nat) (p5:OA) (c5:Nat) (q5:OA) (d5:Nat),s1= .pointer (some ⟨g5,0,none⟩)∧Mem w wx [aI w (g5) aK (aVs r p5 c5 q5 d5),aVq w p5 r.cells c5,aVr w q5 r.vs d5,aI w (w.heap.size+1) aK #[(),(),((),()),(),(),(),(),(),(),((),())],aI w w aK (aVs h p a q c2)])
 case first=>
  go_region_held3 (fun w'=>w'.cell? ⟨w,0,none⟩=some (I h.aA)∧w'.cell? ⟨w,1,none⟩=some (I h.aB)∧w'.cell? ⟨w,2,none⟩=some (.slice p h.cells a)∧w'.cell? ⟨w,3,none⟩=some (I h.free)∧w'.cell? ⟨w,4,none⟩=some (I h.step)∧w'.cell? ⟨w,5,none⟩=some (I h.aD)∧w'.cell? ⟨w,6,none⟩=some (I h.aF)∧w'.cell? ⟨w,7,none⟩=some (I h.aC)∧w'.cell? ⟨w,8,none⟩=some (I h.aG)∧w'.cell? ⟨w,9,none⟩=some (.slice q h.vs c2))
   (first|(refine⟨?_,?_,?_,?_,?_,?_,?_,?_,?_,?_⟩<;>with_reducible assumption)|go_keep)
   (first
    |(go_at_call 67
      refine(HE _ xE).mono ?_;rintro e we ⟨pe,ce,rfl,oe,m⟩;have g:Ext v0 we:=xE;have Ie:=xQ (Sl.own oe);clear oe;have au:=((M1.bk 1).ext g).ten
      have aq: ¬(we.heap.size=w.heap.size):=by have:=g.sz;omega)
    |(go_at_call 66
      refine(HR v0 _ _ _ (Ext.sz (show Ext v0 _ from xE)) xE (by first|with_reducible exact Ie.out|with_reducible exact Ie.out.ext ((Ext.refl _).alloc _))).mono ?_;rintro e ws ⟨p5,c5,q5,d5,av,ar,rfl,os,d,f⟩;have c:Ext v0 ws:=xE;have aw:=((M1.bk 1).ext c).ten
      first
       |(with_reducible have hz:Ext (v0.alloc (.cells #[(),(),((),()),(),(),(),(),(),(),((),())] aK)) ws:=m.trans f;have MB:=(Mem.own2blk M1 c ((Blk.new v0 aK #[(),(),((),()),(),(),(),(),(),(),((),())]).ext hz) (aT5 _) os d (by decide) (by decide) (by decide));obtain⟨o,af,s,ag,t,ah,u,ai,x,aj,y,ak,aa,al,ab,am,ad,an,ae,ao⟩:=(MB.blk (i:=2) rfl).tenf)
       |(with_reducible have hz:Ext (v0.alloc (.cells #[(),(),((),()),(),(),(),(),(),(),((),())] aK)) ws:=m.of_drew.trans f;have MB:=(Mem.own2blk M1 c ((Blk.new v0 aK #[(),(),((),()),(),(),(),(),(),(),((),())]).ext hz) (aT5 _) os d (by decide) (by decide) (by decide));obtain⟨o,af,s,ag,t,ah,u,ai,x,aj,y,ak,aa,al,ab,am,ad,an,ae,ao⟩:=(MB.blk (i:=2) rfl).tenf)
       |(with_reducible have hz:Ext (we.alloc (.cells #[(),(),((),()),(),(),(),(),(),(),((),())] aK)) ws:=f;have MB:=(Mem.own2blk M1 c ((Blk.new we aK #[(),(),((),()),(),(),(),(),(),(),((),())]).ext hz) g.sz os d (by decide) (by decide) (by decide));obtain⟨o,af,s,ag,t,ah,u,ai,x,aj,y,ak,aa,al,ab,am,ad,an,ae,ao⟩:=(MB.blk (i:=2) rfl).tenf)
       |(have MA:=(Mem.own2 M1 c os d (aT5 _) (by decide)))))
  all_goals (
   go_wp2_with fail;go_meet
   first
    |exact⟨_,p5,c5,q5,d5,rfl,(MB.put10 (i:=2) rfl (I r.aA) (I r.aB) (.slice p5 r.cells c5) (I r.free) (I r.step) (I r.aD) (I r.aF) (I r.aC) (I r.aG) (.slice q5 r.vs d5)).pick [2,0,1,3,4] (by decide) rfl⟩
    |exact⟨_,p5,c5,q5,d5,rfl,MA.bn aK (aVs r p5 c5 q5 d5) _⟩)
 case rest=>
  clear ap n xm HE HR HI;obtain⟨g5,p5,c5,q5,d5,rfl,k⟩:=hcut;obtain⟨v5,rfl⟩: ∃z,z=wc:=⟨_,rfl⟩
  have MC:=k;clear k M1 j;obtain⟨v0,v1,v2,v3,v4,v5,v6,v7,v8,v9⟩:=(MC.bk 0).ten;have f_:=(MC.bk 3).tenf;go_wp2;clear v0 v1 v2 v3 v4 v5 v6 v7 v8 v9 f_;have b:=(MC.put10 (i:=3) rfl (I r.aA) (I r.aB) (.slice p5 r.cells c5) (I r.free) (I r.step) (I r.aD) (I r.aF) (I r.aC) (I r.aG) (.slice q5 r.vs d5))
  generalize l:World.setCell _ _ _=wz;rw[l]at b;clear l MC;have y_:=(b.bk 3).ten;exact bodyPost_ret (v:= .agg #[r.aA,r.aB,.slice p5 r.cells c5,r.free,r.step,r.aD,r.aF,r.aC,r.aG,.slice q5 r.vs d5]) (by simp[results,results33,go_sem, *]) rfl (show RetHouse r w _ _ from⟨p5,c5,q5,d5,rfl,(b.ow 1),(b.ow 2),b.ext⟩)
theorem aDf (h:aL)(p:OA)(n a:Nat)(q:OA)(m c2:Nat)(w:World)(hn:h.cells.length≤1048576)(hi:IsHouse w h p n a q m c2)(hE:BitTab w):
  U 33 #[bG h p n a q m c2] w (RetHouse (uH h) w):=by
 have hl:=hi.clen;have b:=hi.vlen;subst hl b
 exact aSu h (uH h) p a q c2 (bE (aQ h) (cC h)) (yM h (bE (aQ h) (cC h))).2.length w hi
  (fun w' hx=>aDi h p _ a q _ c2 w' hn (hi.ext hx))
  (fun B pe ce w' hB hx hS=>(aDe h p _ a q _ c2 pe _ ce _ w' (hi.ext hx) hS (aTg (aC1 hn) (by omega)) (hE.ext hx)).mono (by
   rintro e d ⟨pa,ca,qa,da,ps,cs,rfl,o1,o2,_,c⟩
   exact⟨pa,ca,qa,da,ps,cs,rfl,cH o1 hB,cH o2 hB,c⟩))
end
def aA0 (h:aL)(l:List UInt8):List UInt8:=
 if l= [104,97,108,108]then eA h.aA h.aB h.cells
 else if l= [99,108,111,99,107]then dec h.aC
 else if l= [98,97,110,107]then dec h.aG
 else if l= [111,119,101,100]then dec (dW h)
 else if l= [104,111,117,115,101]then kY h
 else match dY 4 (iQ 32 l)with
  |none=> [119,104,97,116]
  |some id=>
   if gY 32 l= [100,117,101]then(if aQ h id<0 then [110,111,110,101]else dec (aQ h id))
   else if gY 32 l= [109,97,121]then(if aQ h id<0 then [110,111,110,101]else if cZ h id=true then [121,101,115]else [110,111])
   else [119,104,97,116]
def iF (h:aL)(l:List UInt8):aL×List UInt8:=
 if aP h=true then
  (match bQ l with
  |some (k,a,b)=>((doR h k a b).1,if(doR h k a b).2.2=true then dec (doR h k a b).2.1 else [110,111])
  |none=>if l= [101,110,100]then(uH h,[111,107])else(h,aA0 h l))
 else(hZ,[])
theorem aLe {m:Nat}{l:List UInt8}{id:Int}{c:UInt8}(h:dY m l=some id)(hc:eO c=false):c∉l:=by
 unfold dY at h;split at h
 ·rename_i hq;intro hm;have:=aU6.1 hq.2.2.2 c hm;rw[hc]at this;simp at this
 simp at h
theorem aO5 {m:Nat}(hm:m≤5){l:List UInt8}{id:Int}(h:dY m l=some id):0≤id:=by
 unfold dY at h;split at h
 ·rename_i hq;have:=(yU l hq.2.2.2 (by omega)).1;simp only[aUq]at h;omega
 simp at h
theorem aKe {l a b:List UInt8}(h:cR 32 l= [a,b]):gY 32 l=a∧iQ 32 l=b:=by
 by_cases hm:(32:UInt8)∈l
 ·obtain⟨x,y,rfl,hx⟩:=rV 32 l hm;rw[jY 32 x y hx]at h;obtain⟨h1,h2⟩:=jI 32 x y hx;simp only[List.cons.injEq]at h;obtain⟨rfl,h3⟩:=h;by_cases hy:(32:UInt8)∈y
  ·obtain⟨u,v,rfl,hu⟩:=rV 32 y hy;rw[jY 32 u v hu]at h3;simp only[List.cons.injEq]at h3;exact absurd h3.2 (lF 32 v)
  rw[mL 32 y hy]at h3;simp only[List.cons.injEq,and_true]at h3;subst h3;exact⟨h1,h2⟩
 rw[mL 32 l hm]at h;simp at h
theorem aKf {l:List UInt8}{id:Int}(h:dY 4 (iQ 32 l)=some id):cR 32 l= [gY 32 l,iQ 32 l]:=by
 by_cases hm:(32:UInt8)∈l
 ·obtain⟨x,y,rfl,hx⟩:=rV 32 l hm;obtain⟨h1,h2⟩:=jI 32 x y hx;rw[h2]at h;rw[jY 32 x y hx,h1,h2,mL 32 y (aLe h (by decide))]
 rw[(qW 32 l hm).2]at h;simp[dY]at h
theorem aE6 {h:aL}(a:aP h=true):bT (-1) h.vs=none:=by
 unfold bT;rw[List.find?_eq_none];intro v hv hc;obtain⟨q1,q2,q3,q4,q5⟩:=(dF h).1 a;have h1:v.1∈cS h.cells:=by rw[←q4];exact List.mem_map_of_mem hv
 have h2:v.1= -1:=by simpa using hc
 have h3:=(aTs.1 ((fW _).mem_iff.1 h1)).2;rw[h2]at h3;simp at h3
theorem aRf {h:aL}(a:aP h=true):aQ h (-1)= -1∧cZ h (-1)=false:=by unfold aQ cZ cT;rw[if_pos a,aE6 a];exact⟨rfl,rfl⟩
theorem aBu {h:aL}(a:aP h=true)(id:Int):(aQ h id= -1∧cZ h id=false)∨(0≤aQ h id∧aQ h id≤693):=by
 cases hv:bT id h.vs with
 |none=>left;unfold aQ cZ cT;rw[if_pos a,hv];exact⟨rfl,rfl⟩
 |some v=>right;have hm:v∈h.vs:=aUa hv;have:=oH a hm;unfold aQ cT;rw[if_pos a,hv];exact this
theorem aCx {h:aL}(a:aP h=true):0≤dW h∧dW h≤8316:=by unfold dW;rw[if_pos a];exact aQr a
theorem aDw {h:aL}(a:aP h=true){id:Int}{v:aR}(hv:bT id h.vs=some v):aQ h id=cF h.free h.step h.aD h.aF v.2.1 v.2.2.1 v.2.2.2 h.aC:=by unfold aQ cT;rw[if_pos a,hv];rfl
theorem aJm {h:aL}(a:aP h=true){id amt:Int}{g:aL}{n:Int}(hd:oY h id amt=some (g,n)):
  ∃v,bT id h.vs=some v∧1≤amt∧amt≤300∧1≤aQ h id∧n=amt-min (aQ h id) amt∧h.aG+min (aQ h id) amt≤99999∧
   g={h with aG:=h.aG+min (aQ h id) amt,vs:=h.vs.set (vix id h.vs).toNat (id,v.2.1,v.2.2.1+min (aQ h id) amt,h.aC)}:=by
 obtain⟨q1,q2,q3,q4,q5⟩:=(dF h).1 a;unfold oY at hd;split at hd
 ·cases hd
 rename_i v hv;obtain⟨v1,v2,v3,v4,v5,v6⟩:=gI hv;obtain⟨s1,s2⟩:=(iT _ _).1 (q5 v (aT7 v3));obtain⟨b1,b2⟩:=kR q2 s1 s2 q3.2.1;have hD:=aDw a hv;rw[←hD]at b1 b2;by_cases ha:1≤amt∧amt≤300
 ·by_cases hn:aQ h id=0
  ·have hp:(gC h.free h.step h.aD h.aF v.2.1 v.2.2.1 v.2.2.2 h.aC amt).2.2=false:=by unfold gC;rw[if_pos ha,←hD,if_pos hn]
   rw[if_neg (by rw[hp];simp)]at hd;cases hd
  have hp:gC h.free h.step h.aD h.aF v.2.1 v.2.2.1 v.2.2.2 h.aC amt=((v.2.1,v.2.2.1+min (aQ h id) amt,h.aC),amt-min (aQ h id) amt,true):=by unfold gC;rw[if_pos ha,←hD,if_neg hn]
  rw[hp]at hd;dsimp only at hd;by_cases hb:h.aG+amt-(amt-min (aQ h id) amt)≤99999
  ·rw[if_pos ⟨rfl,hb⟩]at hd;injection hd with hd;simp only[aTu]at hd;obtain⟨rfl,rfl⟩:=hd;refine⟨v,hv,ha.1,ha.2,by omega,rfl,by omega,?_⟩;rw[show h.aG+amt-(amt-min (aQ h id) amt)=h.aG+min (aQ h id) amt by omega]
  rw[if_neg (fun hh=>hb hh.2)]at hd;cases hd
 have hp:(gC h.free h.step h.aD h.aF v.2.1 v.2.2.1 v.2.2.2 h.aC amt).2.2=false:=by unfold gC;rw[if_neg ha]
 rw[if_neg (by rw[hp];simp)]at hd;cases hd
theorem aPv {h:aL}{k a b:Int}{g:aL}{n:Int}(hd:bY h k a b=some (g,n)):
  (k=0∧0≤(cN h.aA h.aB h.cells a).2∧g={h with cells:=(cN h.aA h.aB h.cells a).1,vs:=lX (a,h.aC,0,h.aC) h.vs})∨
  (k=1∧oY h a b=some (g,n))∨
  (k=2∧cZ h a=true∧0≤(bW h.aA h.aB h.cells a).2∧g={h with cells:=(bW h.aA h.aB h.cells a).1,vs:=h.vs.eraseIdx (vix a h.vs).toNat})∨
  (k=3∧1≤a∧a≤9999-h.aC∧g={h with aC:=h.aC+a})∨
  (k=4∧bH h.aA h.aB h.cells a b=true∧g={h with cells:=bL h.aA h.aB h.cells a b}):=by
 unfold bY at hd;split at hd
 ·rename_i k0;split at hd
  ·rename_i h0;injection hd with hd;simp only[aTu]at hd;exact .inl ⟨k0,h0,hd.1.symm⟩
  cases hd
 split at hd
 ·rename_i k1;exact .inr (.inl ⟨k1,hd⟩)
 split at hd
 ·rename_i k2;split at hd
  ·rename_i hm;injection hd with hd;simp only[aTu]at hd;exact .inr (.inr (.inl ⟨k2,hm.1,hm.2,hd.1.symm⟩))
  cases hd
 split at hd
 ·rename_i k3;split at hd
  ·rename_i hm;injection hd with hd;simp only[aTu]at hd;exact .inr (.inr (.inr (.inl ⟨k3,hm.1,hm.2,hd.1.symm⟩)))
  cases hd
 split at hd
 ·rename_i k4;split at hd
  ·rename_i hm;injection hd with hd;simp only[aTu]at hd;exact .inr (.inr (.inr (.inr ⟨k4,hm,hd.1.symm⟩)))
  cases hd
 cases hd
theorem aLm {h:aL}{id:Int}(hm:cZ h id=true): ∃v,bT id h.vs=some v:=by
 unfold cZ cT at hm;split at hm
 ·cases hv:bT id h.vs with
  |none=>rename_i s hs;split at hs
         ·rw[hv]at hs;cases hs
         cases hs
  |some v=>exact⟨v,rfl⟩
 cases hm
theorem aSg {h:aL}(c:aP h=true){k a b:Int}{g:aL}{n:Int}(hd:bY h k a b=some (g,n)):
  aP g=true∧0≤n∧h.aG≤g.aG∧g.aG-h.aG≤max (aQ h a) 0∧g≠h:=by
 obtain⟨o1,o2,_⟩:=kZ c hd;refine⟨o1,o2.1,?_⟩;rcases aPv hd with⟨_,_,rfl⟩|⟨_,hp⟩|⟨_,hm,_,rfl⟩|⟨_,h1,_,rfl⟩|⟨_,hm,rfl⟩
 ·refine⟨Int.le_refl _,by dsimp only;omega,fun e=> ?_⟩;have:=congrArg (fun x=>x.vs.length) e;simp only[qH]at this;omega
 ·obtain⟨v,hv,a1,a2,a3,a4,a5,rfl⟩:=aJm c hp;refine⟨by dsimp only;omega,by dsimp only;omega,fun e=> ?_⟩;have:=congrArg aL.aG e;dsimp only at this;omega
 ·obtain⟨v,hv⟩:=aLm hm;obtain⟨v1,v2,v3,v4,v5,v6⟩:=gI hv;refine⟨Int.le_refl _,by dsimp only;omega,fun e=> ?_⟩;have:=congrArg (fun x=>x.vs.length) e;simp only[List.length_eraseIdx,if_pos v4]at this;omega
 ·refine⟨Int.le_refl _,by dsimp only;omega,fun e=> ?_⟩;have:=congrArg aL.aC e;dsimp only at this;omega
 obtain⟨s1,s2,s3,s4,s5,s6,s7,s8,s9⟩:=kH hm;refine⟨Int.le_refl _,by dsimp only;omega,fun e=> ?_⟩;have:=congrArg (fun x=>x.cells.getD a.toNat 0) e;unfold bL at this;rw[if_pos hm]at this;rw[show(((h.cells.set b.toNat (h.cells.getD a.toNat 0)).set a.toNat 0).getD a.toNat 0)=0 by rw[aTb,aTh (by rw[aUi];omega)];rfl]at this;omega
theorem aMk (n:Nat)(c:UInt8)(h:c∈Lib.decDigits n):48≤c.toNat∧c.toNat≤57:=by have:=(aJ8 n n (aT5 _)).1;rw[aU6]at this;have:=this c h;simp[eO]at this;omega
end Go.Proofs.YthfmmibomhhmpaaGreatDoor
