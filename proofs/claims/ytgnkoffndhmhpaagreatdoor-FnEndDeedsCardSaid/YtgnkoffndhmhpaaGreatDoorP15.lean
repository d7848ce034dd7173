/-
  Texts of this proof, packed (@packed).
-/
import Derived.Test.YtgnkoffndhmhpaaGreatDoorP5
import Derived.Test.YtgnkoffndhmhpaaGreatDoorP13
import Derived.Test.YtgnkoffndhmhpaaGreatDoorP14
namespace Go.Proofs.YtgnkoffndhmhpaaGreatDoor
set_option linter.unusedVariables false
structure mX (adj:Nat→List Nat) (D:Nat→Int) (g:Nat→Nat) (d start:Nat):Prop where
 zero:g 0=start
 dist: ∀j,j≤d→D (g j)=d-j
 next: ∀j,j<d→(adj (g j)).find? (fun v=>decide (D v=D (g j)-1))=some (g (j+1))
structure aBx (adj:Nat→List Nat) (D:Nat→Int) (N:Nat):Prop where
 edge: ∀u v,u<N→v∈adj u→0≤D u→0≤D v∧D u≤D v+1
 bd: ∀u v,u<N→v∈adj u→v<N
structure Fwd (adj:Nat→List Nat) (D:Nat→Int) (g:Nat→Nat) (d N start k:Nat) (B A:List Int) (Q:List Nat):Prop where
 inv:Inv adj [start] N k (A,Q)
 blen:B.length=N
 bmem: ∀v,v<N→(0≤B.getD v 0↔v∈Q)
 ngoal: ∀(i u:Nat),i<k→Q[i]? =some u→D u≠0
 tri: ∀v∈Q,0≤D v∧(d:Int)≤A.getD v 0+D v
 chain: ∀j:Nat,j<d→g (j+1)∈Q→A.getD (g (j+1)) 0=j+1→B.getD (g (j+1)) 0=g j
 tight: ∀(i v:Nat),Q[i]? =some v→A.getD v 0+D v=d→ ∃i',i'≤i∧Q[i']? =some (g (A.getD v 0).toNat)
structure FMid (adj:Nat→List Nat) (D:Nat→Int) (g:Nat→Nat) (d N start k u:Nat) (ws:List Nat) (A0:List Int) (Q0:List Nat) (B A:List Int) (Q:List Nat):Prop where
 mid:Mid adj [start] N k u ws (A0,Q0) (A,Q)
 blen:B.length=N
 bmem: ∀v,v<N→(0≤B.getD v 0↔v∈Q)
 tri: ∀v∈Q,0≤D v∧(d:Int)≤A.getD v 0+D v
 chain: ∀j:Nat,j<d→g (j+1)∈Q→A.getD (g (j+1)) 0=j+1→B.getD (g (j+1)) 0=g j
 tight: ∀(i v:Nat),Q[i]? =some v→A.getD v 0+D v=d→ ∃i',i'≤i∧Q[i']? =some (g (A.getD v 0).toNat)
theorem FMid.step {adj:Nat→List Nat}{D:Nat→Int}{g:Nat→Nat}{d N start k u w:Nat}{ws post:List Nat}{B0 A0:List Int}{Q0:List Nat}{B A:List Int}{Q:List Nat}
  (hG:mX adj D g d start)(hD:aBx adj D N)(h0:Fwd adj D g d N start k B0 A0 Q0)(hu:Q0[k]? =some u) (h:FMid adj D g d N start k u ws A0 Q0 B A Q) (hadj:adj u=ws++w::post):
  ∃B' A' Q',eF (u:Int) (B,Q) w=(B',Q')∧eF (A0.getD u 0+1) (A,Q) w=(A',Q')∧FMid adj D g d N start k u (ws++ [w]) A0 Q0 B' A' Q':=by
 have n:u∈Q0:=List.mem_of_getElem? hu
 have p:u<N:=h0.inv.bd u n
 have hw:w∈adj u:=by rw[hadj];simp
 have l:w<N:=hD.bd u w p hw
 have o:A0.getD u 0=A.getD u 0:=(h.mid.same u n).symm
 have m:=h.mid.step n hw l o
 obtain⟨r,hr⟩:=h.mid.pre
 dsimp only at hr
 have y:u∈Q:=by rw[hr];exact List.mem_append_left _ n
 have t:Q[k]? =some u:=by
  have hk:k<Q0.length:=(List.getElem?_eq_some_iff.1 hu).1
  rw[hr,List.getElem?_append_left hk];exact hu
 have al:0≤A.getD u 0:=(h.mid.mem u p).2 y
 by_cases hc:w∈Q
 ·have hB: ¬B.getD w 0<0:=by have:=(h.bmem w l).2 hc;omega
  have hA: ¬A.getD w 0<0:=by have:=(h.mid.mem w l).2 hc;dsimp only at this;omega
  refine⟨B,A,Q,by unfold eF;rw[if_neg hB],by unfold eF;rw[if_neg hA],?_⟩
  have e:eF (A0.getD u 0+1) (A,Q) w=(A,Q):=by unfold eF;rw[if_neg hA]
  rw[e]at m
  exact⟨m,h.blen,h.bmem,h.tri,h.chain,h.tight⟩
 ·have hB:B.getD w 0<0:=by
   by_cases hh:B.getD w 0<0
   ·exact hh
   ·exact absurd ((h.bmem w l).1 (by omega)) hc
  have hA:A.getD w 0<0:=by
   by_cases hh:A.getD w 0<0
   ·exact hh
   ·exact absurd ((h.mid.mem w l).1 (by dsimp only;omega)) hc
  have ab: ∀v∈Q,w≠v:=fun v hv e=>hc (by rw[e];exact hv)
  refine⟨B.set w u,A.set w (A0.getD u 0+1),Q++ [w],by unfold eF;rw[if_pos hB],by unfold eF;rw[if_pos hA],?_⟩
  have e:eF (A0.getD u 0+1) (A,Q) w=(A.set w (A0.getD u 0+1),Q++ [w]):=by unfold eF;rw[if_pos hA]
  rw[e]at m
  have ae:w<B.length:=by rw[h.blen];exact l
  have ai:w<A.length:=by have:=h.mid.len;dsimp only at this;omega
  have sB:(B.set w (u:Int)).getD w 0=u:=cG ae
  have sA:(A.set w (A0.getD u 0+1)).getD w 0=A.getD u 0+1:=by rw[cG ai,o]
  obtain⟨ag,an⟩:=h.tri u y
  obtain⟨e1,e2⟩:=hD.edge u w p hw ag
  -- if w is tight, then so is u; and the step that is first is there
  have aa:A.getD u 0+1+D w=d→ ∃i',i'≤k∧Q[i']? =some (g (A.getD u 0).toNat)∧(i'<k→g ((A.getD u 0).toNat+1)∈Q)∧(i'=k→u=g (A.getD u 0).toNat):=by
   intro ht
   obtain⟨i',f,hq⟩:=h.tight k u t (by omega)
   refine⟨i',f,hq,fun hlt=> ?_,fun he=> ?_⟩
   ·have hk:k<Q0.length:=(List.getElem?_eq_some_iff.1 hu).1
    have af:Q0[i']? =some (g (A.getD u 0).toNat):=by rw[hr,List.getElem?_append_left (by omega)]at hq;exact hq
    have c:(A.getD u 0).toNat<d:=by omega
    have q:g ((A.getD u 0).toNat+1)∈adj (g (A.getD u 0).toNat):=List.mem_of_find?_eq_some (hG.next _ c)
    have:=(h0.inv.done i' _ hlt af _ q).1
    rw[hr];exact List.mem_append_left _ this
   ·subst he;rw[t]at hq;injection hq
  have first:A.getD u 0+1+D w=d→g ((A.getD u 0).toNat+1)∈Q∨g ((A.getD u 0).toNat+1)=w:=by
   intro ht
   obtain⟨i',f,hq,k1,k2⟩:=aa ht
   by_cases he:i'=k
   ·have s:=k2 he
    have c:(A.getD u 0).toNat<d:=by omega
    have hn:=hG.next _ c
    rw[←s,hadj]at hn
    have ak:D u=d-(A.getD u 0).toNat:=by
     have:=hG.dist _ (Nat.le_of_lt c)
     rw[←s]at this;exact this
    rw[List.find?_append]at hn
    cases hf:ws.find? (fun v=>decide (D v=D u-1))with
    |some x=>
     rw[hf,Option.some_or]at hn
     injection hn with hn
     left
     rw[←hn]
     exact h.mid.seen x (List.mem_of_find?_eq_some hf)
    |none=>
     rw[hf]at hn
     right
     rw[Option.none_or,List.find?_cons_of_pos (by simp;omega)]at hn
     injection hn with hn
     exact hn.symm
   ·exact .inl (k1 (by omega))
  refine⟨m,by simp[h.blen],?_,?_,?_,?_⟩
  ·intro v hv
   by_cases ev:w=v
   ·subst ev
    rw[sB]
    exact⟨fun _=>by simp,fun _=>by omega⟩
   ·rw[bN ev,h.bmem v hv]
    simp
    intro e2;exact absurd e2.symm ev
  ·intro v hv
   rcases List.mem_append.1 hv with hv|hv
   ·rw[bN (ab v hv)];exact h.tri v hv
   ·simp at hv;subst hv;rw[sA];exact⟨e1,by omega⟩
  ·intro j hj hm ha
   by_cases ev:w=g (j+1)
   ·rw[←ev]at ha⊢
    rw[sA]at ha
    rw[sB]
    have am:D w=d-(j+1:Nat):=by rw[ev];exact hG.dist (j+1) (by omega)
    have ht:A.getD u 0+1+D w=d:=by omega
    obtain⟨i',f,hq,k1,k2⟩:=aa ht
    have z:(A.getD u 0).toNat=j:=by omega
    by_cases he:i'=k
    ·have:=k2 he;rw[z]at this;rw[this]
    ·have:=k1 (by omega)
     rw[z,←ev]at this
     exact absurd this hc
   ·rcases List.mem_append.1 hm with hm|hm
    ·rw[bN ev]at ha⊢
     exact h.chain j hj hm ha
    ·simp at hm;exact absurd hm.symm ev
  ·intro i v hi ht
   by_cases hiQ:i<Q.length
   ·rw[List.getElem?_append_left hiQ]at hi
    have ah:v∈Q:=List.mem_of_getElem? hi
    rw[bN (ab v ah)]at ht⊢
    obtain⟨i',a,b⟩:=h.tight i v hi ht
    exact⟨i',a,by rw[List.getElem?_append_left (by omega)];exact b⟩
   ·have ad:i<(Q++ [w]).length:=(List.getElem?_eq_some_iff.1 hi).1
    have aj:i=Q.length:=by simp at ad;omega
    subst aj
    simp at hi
    subst hi
    rw[sA]at ht⊢
    have e3:(A.getD u 0+1).toNat=(A.getD u 0).toNat+1:=by omega
    rw[e3]
    rcases first ht with hm|hm
    ·obtain⟨i',f,ei⟩:=List.getElem_of_mem hm
     exact⟨i',by omega,by rw[List.getElem?_append_left f,List.getElem?_eq_getElem f,ei]⟩
    ·exact⟨Q.length,Nat.le_refl _,by rw[hm,List.getElem?_append_right (Nat.le_refl _)];simp⟩
theorem Fwd.mid {adj:Nat→List Nat}{D:Nat→Int}{g:Nat→Nat}{d N start k u:Nat}{B A:List Int}{Q:List Nat}(h:Fwd adj D g d N start k B A Q)(hu:Q[k]? =some u):FMid adj D g d N start k u [] A Q B A Q:=
 ⟨h.inv.mid hu,h.blen,h.bmem,h.tri,h.chain,h.tight⟩
theorem FMid.many {adj:Nat→List Nat}{D:Nat→Int}{g:Nat→Nat}{d N start k u:Nat}{B0 A0:List Int}{Q0:List Nat}
  (hG:mX adj D g d start)(hD:aBx adj D N)(h0:Fwd adj D g d N start k B0 A0 Q0)(hu:Q0[k]? =some u):
  ∀(vs ws:List Nat) (B A:List Int) (Q:List Nat),FMid adj D g d N start k u ws A0 Q0 B A Q→adj u=ws++vs→(bJ (A0.getD u 0+1) (A,Q) vs).2=(bJ (u:Int) (B,Q) vs).2∧FMid adj D g d N start k u (ws++vs) A0 Q0 (bJ (u:Int) (B,Q) vs).1 (bJ (A0.getD u 0+1) (A,Q) vs).1 (bJ (u:Int) (B,Q) vs).2:=by
 intro vs
 induction vs with
 |nil=>intro ws B A Q h _;exact⟨rfl,by simpa[bJ]using h⟩
 |cons v vs ih=>
  intro ws B A Q h e
  obtain⟨B',A',Q',e1,e2,h1⟩:=h.step hG hD h0 hu e
  have e3:bJ (u:Int) (B,Q) (v::vs)=bJ (u:Int) (B',Q') vs:=by
   show vs.foldl _ (eF (u:Int) (B,Q) v)=_
   rw[e1];rfl
  have e4:bJ (A0.getD u 0+1) (A,Q) (v::vs)=bJ (A0.getD u 0+1) (A',Q') vs:=by
   show vs.foldl _ (eF (A0.getD u 0+1) (A,Q) v)=_
   rw[e2];rfl
  have:=ih (ws++ [v]) B' A' Q' h1 (by rw[e];simp)
  rw[e3,e4]
  simpa using this
theorem Fwd.step {adj:Nat→List Nat}{D:Nat→Int}{g:Nat→Nat}{d N start k u:Nat}{B A:List Int}{Q:List Nat}(hG:mX adj D g d start)(hD:aBx adj D N)(h:Fwd adj D g d N start k B A Q)(hu:Q[k]? =some u) (hg:D u≠0):
  ∃A',Fwd adj D g d N start (k+1) (bJ (u:Int) (B,Q) (adj u)).1 A' (bJ (u:Int) (B,Q) (adj u)).2:=by
 have a:=h.inv.bd u (List.mem_of_getElem? hu)
 obtain⟨e,m⟩:=FMid.many hG hD h hu (adj u) [] B A Q (h.mid hu) rfl
 have hi:=h.inv.step hu (fun v hv=>hD.bd u v a hv)
 have e2:bJ (A.getD u 0+1) (A,Q) (adj u)=((bJ (A.getD u 0+1) (A,Q) (adj u)).1,(bJ (u:Int) (B,Q) (adj u)).2):=by rw[←e]
 dsimp only at hi
 rw[e2]at hi
 obtain⟨r,hr⟩:=m.mid.pre
 dsimp only at hr
 refine⟨_,hi,m.blen,m.bmem,?_,m.tri,m.chain,m.tight⟩
 intro i v b hv
 have hk:k<Q.length:=(List.getElem?_eq_some_iff.1 hu).1
 by_cases he:i=k
 ·subst he
  rw[hr,List.getElem?_append_left hk,hu]at hv
  injection hv with hv
  rw[←hv];exact hg
 ·rw[hr,List.getElem?_append_left (by omega)]at hv
  exact h.ngoal i v (by omega) hv
theorem Fwd.way {adj:Nat→List Nat}{D:Nat→Int}{g:Nat→Nat}{d N start k:Nat}{B A:List Int}{Q:List Nat}(hG:mX adj D g d start)(h:Fwd adj D g d N start k B A Q)
  (hp: ∀(i v:Nat),Q[i]? =some v→A.getD v 0<d→i<k): ∀j,j≤d→g j∈Q∧A.getD (g j) 0=j:=by
 intro j
 induction j with
 |zero=>
  intro _
  obtain⟨a,b⟩:=h.inv.src start (by simp)
  rw[hG.zero]
  exact⟨a,by simpa using b⟩
 |succ j ih=>
  intro hj
  obtain⟨a,b⟩:=ih (by omega)
  obtain⟨i,hi,e⟩:=List.getElem_of_mem a
  have hq:Q[i]? =some (g j):=by rw[List.getElem?_eq_getElem hi,e]
  have c:=hp i (g j) hq (by omega)
  have hm:g (j+1)∈adj (g j):=List.mem_of_find?_eq_some (hG.next j (by omega))
  obtain⟨c1,c2⟩:=h.inv.done i (g j) c hq _ hm
  have t:=(h.tri (g (j+1)) c1).2
  have dd:=hG.dist (j+1) hj
  dsimp only at c2
  exact⟨c1,by omega⟩
theorem Fwd.goal {adj:Nat→List Nat}{D:Nat→Int}{g:Nat→Nat}{d N start k u:Nat}{B A:List Int}{Q:List Nat}(hG:mX adj D g d start)(h:Fwd adj D g d N start k B A Q)(hu:Q[k]? =some u) (hz:D u=0):
  u=g d∧ ∀j,j<d→B.getD (g (j+1)) 0=g j:=by
 have n:u∈Q:=List.mem_of_getElem? hu
 have hk:k<Q.length:=(List.getElem?_eq_some_iff.1 hu).1
 have m:Q[k]=u:=(List.getElem?_eq_some_iff.1 hu).2
 have t:=(h.tri u n).2
 have l:=List.pairwise_iff_getElem.1 h.inv.mono
 have hp: ∀(i v:Nat),Q[i]? =some v→A.getD v 0<A.getD u 0→i<k:=by
  intro i v hv hlt
  obtain⟨hi,e⟩:=List.getElem?_eq_some_iff.1 hv
  by_cases hik:i<k
  ·exact hik
  ·exfalso
   by_cases he:i=k
   ·subst he;rw[m]at e;subst e;omega
   ·have:=l k i hk hi (by omega)
    dsimp only at this
    rw[m,e]at this
    omega
 have hw:=h.way hG (fun i v hv hlt=>hp i v hv (by omega))
 obtain⟨w1,w2⟩:=hw d (Nat.le_refl _)
 have q:=hG.dist d (Nat.le_refl _)
 have f:D (g d)=0:=by omega
 obtain⟨i,hi,e⟩:=List.getElem_of_mem w1
 have hq:Q[i]? =some (g d):=by rw[List.getElem?_eq_getElem hi,e]
 have p:A.getD u 0=d:=by
  by_cases hh:A.getD u 0=d
  ·exact hh
  ·exfalso
   have:=hp i (g d) hq (by omega)
   exact h.ngoal i _ this hq f
 obtain⟨i',o,c⟩:=h.tight k u hu (by omega)
 have e1:(A.getD u 0).toNat=d:=by omega
 rw[e1]at c
 have hik:i'=k:=by
  by_cases hh:i'=k
  ·exact hh
  ·exact absurd f (h.ngoal i' _ (by omega) c)
 subst hik
 rw[hu]at c
 injection c with c
 refine⟨c,fun j hj=> ?_⟩
 obtain⟨a,b⟩:=hw (j+1) (by omega)
 exact h.chain j hj a (by omega)
theorem Fwd.more {adj:Nat→List Nat}{D:Nat→Int}{g:Nat→Nat}{d N start k:Nat}{B A:List Int}{Q:List Nat}(hG:mX adj D g d start)(h:Fwd adj D g d N start k B A Q):k<Q.length:=by
 by_cases hk:k<Q.length
 ·exact hk
 ·exfalso
  have hp: ∀(i v:Nat),Q[i]? =some v→i<k:=fun i v hv=>by have:=(List.getElem?_eq_some_iff.1 hv).1;omega
  obtain⟨a,b⟩:=h.way hG (fun i v hv _=>hp i v hv) d (Nat.le_refl _)
  obtain⟨i,hi,e⟩:=List.getElem_of_mem a
  have hq:Q[i]? =some (g d):=by rw[List.getElem?_eq_getElem hi,e]
  have c:=hG.dist d (Nat.le_refl _)
  exact h.ngoal i _ (hp i _ hq) hq (by omega)
theorem Fwd.start {adj:Nat→List Nat}{D:Nat→Int}{g:Nat→Nat}{d N start:Nat}(hG:mX adj D g d start)(hs:start<N):
  Fwd adj D g d N start 0 ((List.replicate N (-1)).set start (start:Int)) ((List.replicate N (-1)).set start 0) [start]:=by
 have hl:start<(List.replicate N (-1:Int)).length:=by simpa using hs
 have a: ∀(x:Int) v,v<N→start≠v→((List.replicate N (-1:Int)).set start x).getD v 0= -1:=by
  intro x v hv e
  rw[bN e]
  simp[List.getD,hv]
 refine⟨⟨by simp,by simpa using hs,?_,by simp,by simp,?_,?_,?_,fun i u hi=>by omega⟩,by simp,?_,fun i u hi=>by omega,?_,?_,?_⟩
 ·intro v hv
  dsimp only
  by_cases e:start=v
  ·subst e;rw[cG hl];simp
  ·rw[a 0 v hv e];simp;exact fun h=>e h.symm
 ·intro u hu v hv
  simp at hu hv;subst hu hv
  omega
 ·intro v hv
  simp at hv;subst hv
  dsimp only
  rw[cG hl]
  simp[nA]
 ·intro v hv
  simp at hv;subst hv
  exact⟨by simp,cG hl⟩
 ·intro v hv
  by_cases e:start=v
  ·subst e;rw[cG hl];simp
  ·rw[a _ v hv e];simp;exact fun h=>e h.symm
 ·intro v hv
  simp at hv;subst hv
  have:=hG.dist 0 (Nat.zero_le _)
  rw[hG.zero]at this
  rw[cG hl]
  omega
 ·intro j hj hm ha
  simp at hm
  rw[hm,cG hl]at ha
  omega
 ·intro i v hi ht
  have b:i=0:=by have:=(List.getElem?_eq_some_iff.1 hi).1;simp at this;omega
  subst b
  simp at hi;subst hi
  rw[cG hl]
  exact⟨0,Nat.le_refl _,by simp[hG.zero]⟩
open Go.RowKit
set_option linter.unusedSimpArgs false
def zH (adj:Nat→List Nat):Nat→Nat→List Int×List Nat→List Int×List Nat
 |0,_,s=>s
 |m+1,k,s=>match s.2[k]? with
  |none=>s
  |some u=>zH adj m (k+1) (bJ (s.1.getD u 0+1) s (adj u))
theorem aBu {adj:Nat→List Nat}{src:List Nat}{N:Nat}(ha: ∀u v,u<N→v∈adj u→v<N): ∀(m k:Nat) (s:List Int×List Nat),Inv adj src N k s→N≤k+m→qR adj src N (zH adj m k s).1:=by
 intro m
 induction m with
 |zero=>intro k s hI hk;exact hI.dist (Nat.le_trans hI.qlen (by omega))
 |succ m ih=>
  intro k s hI hk
  rw[zH]
  cases hu:s.2[k]? with
  |none=>exact hI.dist (by rw[List.getElem?_eq_none_iff]at hu;exact hu)
  |some u=>exact ih (k+1) _ (hI.step hu (fun v hv=>ha _ v (hI.bd _ (List.mem_of_getElem? hu)) hv)) (by omega)
def fV (aA:Int)(n many:Nat):List Int:=(zH (vB aA n MM) NN 0 (iE NN (tP n many),tP n many)).1
theorem kV {aA:Int}{n many:Nat}(hn:n≤12):eO aA n many (fV aA n many):=
 aBu (qP hn) _ _ _ (Inv.begin (aEf hn) tO) (by omega)
abbrev iN (e:Nat×Nat):Sl2:=((e.1:Int),(e.2:Int))
def nB (aA:Int)(n:Nat)(dd:Nat→Nat→Int)(s:Nat×Nat)(j:Nat):List Sl2:=(List.range j).map (fun i=>iN (fU aA n dd s i))
theorem nE (aA:Int)(n:Nat)(dd:Nat→Nat→Int)(s:Nat×Nat)(j:Nat):(nB aA n dd s j).length=j:=by simp[nB]
theorem vZ (aA:Int)(n:Nat)(dd:Nat→Nat→Int)(s:Nat×Nat)(j:Nat):nB aA n dd s (j+1)=nB aA n dd s j++ [iN (fU aA n dd s j)]:=by
 simp[nB,List.range_succ]
def ddH (aA:Int)(xs:List Int):Nat→Nat→Int:=aV (fV aA xs.length (bI xs).length)
def dI (aA:Int)(xs:List Int)(c:Nat):Option (List Sl2):=
 if ddH aA xs c (aM xs)<0 then none else some (nB aA xs.length (ddH aA xs) (c,aM xs) (ddH aA xs c (aM xs)).toNat)
theorem kF {xs:List Int}{c:Nat}{id:Int}(hc:xs[c]? =some id) (h0:id≠0):nD xs.length (bI xs).length (c,aM xs):=by
 obtain⟨hl,he⟩:=List.getElem?_eq_some_iff.1 hc
 refine⟨hl,mT xs,?_,yX xs⟩
 show(aM xs).testBit c=false
 rw[eG,fH hl,List.getD_eq_getElem?_getD,hc]
 simpa using h0
section
variable {aA aB:Int} {xs:List Int} {c:Nat} {id:Int} {D:List Int}
theorem aH6 (h:aN aA aB xs=true)(hc:xs[c]? =some id) (h0:id≠0) (hD:eO aA xs.length (bI xs).length D) {d:Nat} (hd:aV D c (aM xs)=d):
  ∀j,j≤d→ ∃ys,aZ aA aB xs (nB aA xs.length (aV D) (c,aM xs) j)=(ys,j)∧aN aA aB ys=true∧ys.length=xs.length∧aM ys=(gP aA xs.length (aV D) (c,aM xs) j).2∧ys[(gP aA xs.length (aV D) (c,aM xs) j).1]? =some id:=by
 obtain⟨b1,b2,b3,b4,b5,b6,b7⟩:=bX (cM h)
 have hp:=kF hc h0
 intro j
 induction j with
 |zero=>intro _;exact⟨xs,rfl,h,rfl,rfl,hc⟩
 |succ j ih=>
  intro hj
  obtain⟨ys,h1,h2,h3,h4,h5⟩:=ih (by omega)
  obtain⟨e1,e2,e3⟩:=jS b5 b6 hD hp hd (show j<d by omega)
  have hw:=vZ aA xs.length (aV D) (c,aM xs) j
  generalize fU aA xs.length (aV D) (c,aM xs) j=e at*
  obtain⟨f,t⟩:=e
  rw[←h4,←h3]at e2
  obtain⟨m1,m2,m3,m4⟩:=rS h2 e2
  refine⟨bG aA aB ys (f:Int) (t:Int),?_,iB _ _ h2,by rw[cW,h3],?_,?_⟩
  ·rw[hw,oX _ _ _ (by rw[h1,nE]),h1,nE]
   dsimp only
   rw[if_pos m1]
  ·rw[m3,e3,h4];rfl
  ·rw[e3];exact m4 _ _ h5 h0
theorem rU (h:aN aA aB xs=true)(hc:xs[c]? =some id) (h0:id≠0) (hD:eO aA xs.length (bI xs).length D):(bI xs≠ []→0≤aV D c (aM xs)∧aV D c (aM xs)≤60)∧(c=0→aV D c (aM xs)=0)∧(bI xs= []→c≠0→aV D c (aM xs)<0):=by
 obtain⟨b1,b2,b3,b4,b5,b6,b7⟩:=bX (cM h)
 have hp:=kF hc h0
 obtain⟨k1,k2,k3⟩:=mL b6 hp
 refine⟨fun hf=> ?_,fun hc0=> ?_,fun hf hc0=> ?_⟩
 ·obtain⟨u,hu⟩:=List.exists_mem_of_ne_nil _ hf
  obtain⟨u1,u2⟩:=jJ hu
  have hb:(aM xs).testBit u=true:=by rw[eG,fH u1,u2];rfl
  have hg:=jI h
  obtain⟨a,b⟩:=aJn hg b5 b6 hD _ _ u (Nat.le_refl _) k1 (by rw[k3];exact hp.many) (by rw[k3];exact hb)
  rw[k2]at b
  exact⟨a,Int.le_trans b (by have:=(uA hg hp.car u1).1;exact_mod_cast this)⟩
 ·subst hc0
  refine(hD.zero _ (nK b6 k1)).2 (iT.2 ?_)
  rw[Nat.zero_mul,Nat.zero_add]
  exact⟨hp.set,hp.occ,hp.many⟩
 ·rcases Int.lt_or_le (aV D c (aM xs)) 0 with f|d
  ·exact f
  ·exfalso
   rcases Int.lt_or_eq_of_le d with h1|h1
   ·obtain⟨e,e1,e2,_⟩:=rD b5 b6 hD hp h1
    obtain⟨_,g2,_,_,g5⟩:=eR.1 e2
    have hm:e.2∈bI xs:=by
     unfold bI
     rw[List.mem_filter]
     exact⟨List.mem_range.2 g2,by rw[←eG];exact g5⟩
    rw[hf]at hm;cases hm
   ·have hz:=(hD.zero _ (nK b6 k1)).1 h1.symm
    have h2:=(iT.1 hz).1
    have h3:=Nat.div_eq_of_lt (Nat.lt_of_lt_of_le h2 (gX b6))
    rw[k2]at h3
    exact hc0 h3
theorem aH3 (h:aN aA aB xs=true)(hc:xs[c]? =some id) (h0:id≠0) (hD:eO aA xs.length (bI xs).length D):
  (0≤aV D c (aM xs)↔0≤ddH aA xs c (aM xs))∧(0≤aV D c (aM xs)→aV D c (aM xs)=ddH aA xs c (aM xs)∧nB aA xs.length (aV D) (c,aM xs) (aV D c (aM xs)).toNat=nB aA xs.length (ddH aA xs) (c,aM xs) (ddH aA xs c (aM xs)).toNat):=by
 obtain⟨b1,b2,b3,b4,b5,b6,b7⟩:=bX (cM h)
 have hp:=kF hc h0
 have hE:=kV (aA:=aA) (many:=(bI xs).length) b6
 obtain⟨s1,s2⟩:=xD hD hE (nK b6 (mL b6 hp).1)
 refine⟨s1,fun h1=> ?_⟩
 have e1:aV D c (aM xs)=ddH aA xs c (aM xs):=s2 h1
 refine⟨e1,?_⟩
 obtain⟨d,hd⟩:=Int.eq_ofNat_of_zero_le h1
 rw[←e1,hd]
 unfold nB
 refine List.map_congr_left fun i hi=> ?_
 have:=List.mem_range.1 hi
 rw[aE4 b5 b6 hD hE hp hd (show i<d by simpa using this)]
 rfl
theorem uY (h:aN aA aB xs=true)(hc:xs[c]? =some id) (h0:id≠0) (hD:eO aA xs.length (bI xs).length D):dI aA xs c=if aV D c (aM xs)<0 then none else some (nB aA xs.length (aV D) (c,aM xs) (aV D c (aM xs)).toNat):=by
 obtain⟨a,b⟩:=aH3 h hc h0 hD
 unfold dI
 by_cases h1:0≤aV D c (aM xs)
 ·rw[if_neg (by have:=a.1 h1;omega),if_neg (by omega),(b h1).2]
 ·rw[if_pos (by have:=fun x=>h1 (a.2 x);omega),if_pos (by omega)]
theorem lJ (h:aN aA aB xs=true)(hc:xs[c]? =some id) (h0:id≠0):(dI aA xs c=none↔bI xs= []∧c≠0)∧ ∀l,dI aA xs c=some l→l.length≤60∧ ∃ys,aZ aA aB xs l=(ys,l.length)∧aN aA aB ys=true∧ys.length=xs.length∧ys[0]? =some id:=by
 obtain⟨b1,b2,b3,b4,b5,b6,b7⟩:=bX (cM h)
 have hE:=kV (aA:=aA) (many:=(bI xs).length) b6
 obtain⟨n1,n2,n3⟩:=rU h hc h0 hE
 have e:ddH aA xs c (aM xs)=aV (fV aA xs.length (bI xs).length) c (aM xs):=rfl
 constructor
 ·unfold dI
  rw[e]
  constructor
  ·intro hn
   by_cases hf:bI xs= []
   ·refine⟨hf,fun hc0=> ?_⟩
    rw[n2 hc0]at hn;simp at hn
   ·rw[if_neg (by have:=(n1 hf).1;omega)]at hn;cases hn
  ·rintro⟨hf,hc0⟩
   rw[if_pos (n3 hf hc0)]
 ·intro l hl
  unfold dI at hl
  rw[e]at hl
  by_cases h1:aV (fV aA xs.length (bI xs).length) c (aM xs)<0
  ·rw[if_pos h1]at hl;cases hl
  ·rw[if_neg h1]at hl
   injection hl with hl
   obtain⟨d,hd⟩:=Int.eq_ofNat_of_zero_le (show 0≤aV (fV aA xs.length (bI xs).length) c (aM xs) by omega)
   have a:l.length=d:=by rw[←hl,nE,hd];rfl
   have b:d≤60:=by
    by_cases hf:bI xs= []
    ·by_cases hc0:c=0
     ·have:=n2 hc0;omega
     ·exact absurd (n3 hf hc0) h1
    ·have:=(n1 hf).2;omega
   refine⟨by omega,?_⟩
   obtain⟨ys,w1,w2,w3,w4,w5⟩:=aH6 h hc h0 hE hd d (Nat.le_refl _)
   have hz:=(aJ4 b5 b6 hE (kF hc h0) hd (Nat.le_refl d)).2 rfl
   rw[hz]at w5
   refine⟨ys,?_,w2,w3,w5⟩
   rw[a,←w1,←hl,hd];rfl
end
def kG (aA aB:Int)(xs:List Int)(id:Int):Option (List Int×Nat):=
 if id<1∨id∉xs then none else(dI aA xs (nC xs id).toNat).map (fun l=>((aZ aA aB xs l).1.set 0 0,l.length))
/-! the other search: its states, coded by 2^n -/
def eM (n:Nat)(s:Nat×Nat):Nat:=s.1*2 ^ n+s.2
def ddM (n:Nat)(dd:Nat→Nat→Int)(v:Nat):Int:=dd (v/2 ^ n) (v%2 ^ n)
theorem jU {n:Nat}{s:Nat×Nat}(h:s.2<2 ^ n):eM n s/2 ^ n=s.1∧eM n s%2 ^ n=s.2:=⟨kW h,gG h⟩
theorem uV {n:Nat}{dd:Nat→Nat→Int}{s:Nat×Nat}(h:s.2<2 ^ n):ddM n dd (eM n s)=dd s.1 s.2:=by
 obtain⟨a,b⟩:=jU h
 unfold ddM;rw[a,b]
section
variable {aA:Int} {n many:Nat} {D:List Int}
theorem aGz {s:Nat×Nat}(h:s.2<2 ^ n):mV aA n (2 ^ n) (eM n s)=(eC aA n s.2).map (fun e=>eM n (jB s e)):=by
 obtain⟨a,b⟩:=jU h
 unfold mV;rw[a,b];rfl
theorem qN {s:Nat×Nat}(h1:s.1<n)(h2:s.2<2 ^ n):eM n s<n*2 ^ n:=by
 unfold eM
 have:(s.1+1)*2 ^ n≤n*2 ^ n:=Nat.mul_le_mul_right _ h1
 rw[Nat.succ_mul]at this
 omega
theorem uP (hn0:4≤n)(hn:n≤12)(hD:eO aA n many D){s:Nat×Nat}(h:nD n many s){d:Nat}(hd:aV D s.1 s.2=d):
  mX (mV aA n (2 ^ n)) (ddM n (aV D)) (fun j=>eM n (gP aA n (aV D) s j)) d (eM n s):=by
 refine⟨rfl,fun j hj=> ?_,fun j hj=> ?_⟩
 ·obtain⟨a,b⟩:=iV hn0 hn hD h hd j hj
  show ddM n (aV D) (eM n (gP aA n (aV D) s j))=_
  rw[uV a.set,b]
 ·obtain⟨a,b⟩:=iV hn0 hn hD h hd j (by omega)
  obtain⟨e1,e2,e3⟩:=jS hn0 hn hD h hd hj
  rw[aGz a.set,uV a.set,e3]
  rw[List.find?_map]
  have c:(eC aA n (gP aA n (aV D) s j).2).find? ((fun v=>decide (ddM n (aV D) v=aV D (gP aA n (aV D) s j).1 (gP aA n (aV D) s j).2-1))∘fun e=>eM n (jB (gP aA n (aV D) s j) e))=lA aA n (aV D) (gP aA n (aV D) s j):=by
   unfold lA
   have k2: ∀l:List (Nat×Nat),(∀e∈l,e∈eC aA n (gP aA n (aV D) s j).2)→l.find? ((fun v=>decide (ddM n (aV D) v=aV D (gP aA n (aV D) s j).1 (gP aA n (aV D) s j).2-1))∘fun e=>eM n (jB (gP aA n (aV D) s j) e))=l.find? (fun e=>decide (aV D (dK (gP aA n (aV D) s j).1 e.1 e.2) (cX (gP aA n (aV D) s j).2 e.1 e.2)=aV D (gP aA n (aV D) s j).1 (gP aA n (aV D) s j).2-1)):=by
    intro l
    induction l with
    |nil=>intro _;rw[List.find?_nil,List.find?_nil]
    |cons e l ih=>
     intro hl
     rw[List.find?_cons,List.find?_cons,ih (fun x hx=>hl x (by simp[hx]))]
     have hp:=(yF hn a (hl e (by simp))).2
     have:ddM n (aV D) (eM n (jB (gP aA n (aV D) s j) e))=aV D (dK (gP aA n (aV D) s j).1 e.1 e.2) (cX (gP aA n (aV D) s j).2 e.1 e.2):=uV hp.set
     simp only[Function.comp_apply,this]
   exact k2 _ (fun e he=>he)
  rw[c,e1];rfl
theorem qJ (hn0:4≤n)(hn:n≤12)(hD:eO aA n many D):aBx (mV aA n (2 ^ n)) (ddM n (aV D)) (n*2 ^ n):=by
 have c:0<2 ^ n:=Nat.two_pow_pos n
 have bd: ∀u v,u<n*2 ^ n→v∈mV aA n (2 ^ n) u→v/2 ^ n<n∧v%2 ^ n<2 ^ n:=fun u v hu hv=>
  aEv (Nat.le_refl _) ((Nat.div_lt_iff_lt_mul c).2 hu) (Nat.mod_lt _ c) (nY.1 hv)
 refine⟨fun u v hu hv h0=> ?_,fun u v hu hv=> ?_⟩
 ·obtain⟨f,t,h1,h2,h3,h4,h5,h6,h7,h8⟩:=kK (Nat.le_refl _) (Nat.mod_lt u c) (nY.1 hv)
  have hc:=(Nat.div_lt_iff_lt_mul c).2 hu
  have hS:=Nat.mod_lt u c
  have e:u/2 ^ n*MM+u%2 ^ n<NN:=by
   have:=gX hn
   show u/2 ^ n*4096+u%2 ^ n<49152
   have h4:(MM:Nat)=4096:=rfl
   omega
  obtain⟨k,hk⟩:=Int.eq_ofNat_of_zero_le h0
  obtain⟨u1,u2⟩:=aEw hn0 hn hD k _ e hk
  have d:u%2 ^ n<MM:=Nat.lt_of_lt_of_le hS (gX hn)
  have hE:pP aA n MM (u/2 ^ n*MM+u%2 ^ n) (v/2 ^ n*MM+v%2 ^ n):=⟨f,t,h1,h2,h3,by rw[gG d];exact h4,by rw[gG d];exact h5,by rw[kW d,gG d,h6,h7];rfl⟩
  obtain⟨a,b⟩:=xG hn0 hn hD u1 hE
  exact⟨a.1 h0,(b h0).1⟩
 ·obtain⟨a,b⟩:=bd u v hu hv
  have:=qN (s:=(v/2 ^ n,v%2 ^ n)) a b
  unfold eM at this
  rw[Nat.mul_comm (v/2 ^ n),Nat.div_add_mod]at this
  exact this
theorem aJp (hn0:4≤n)(hn:n≤12)(hD:eO aA n many D){v:Nat}(hv:v<n*2 ^ n)(hok:vX n (2 ^ n) v)(hm:gC (v%2 ^ n)=many):ddM n (aV D) v=0↔v/2 ^ n=0:=by
 have hp:nD n many (v/2 ^ n,v%2 ^ n):=⟨hok.car,hok.set,hok.occ,hm⟩
 obtain⟨k1,k2,k3⟩:=mL hn hp
 have hz:=hD.zero _ (nK hn k1)
 have e:ddM n (aV D) v=D.getD ((v/2 ^ n)*MM+v%2 ^ n) 0:=rfl
 rw[e]
 constructor
 ·intro h
  have h1:=(iT.1 (hz.1 h)).1
  have h2:=Nat.div_eq_of_lt (Nat.lt_of_lt_of_le h1 (gX hn))
  rwa[k2]at h2
 ·intro h
  refine hz.2 (iT.2 ?_)
  dsimp only
  rw[h,Nat.zero_mul,Nat.zero_add]
  have:=hok.occ
  rw[h]at this
  exact⟨hok.set,this,hm⟩
theorem walk_ok (hn:n≤12){s:Nat×Nat}(h:nD n many s): ∀(k v:Nat),nA (mV aA n (2 ^ n)) [eM n s] k v→vX n (2 ^ n) v∧gC (v%2 ^ n)=many:=by
 intro k
 induction k with
 |zero=>
  intro v hv
  have:v=eM n s:=by simpa[nA]using hv
  subst this
  obtain⟨a,b⟩:=jU (n:=n) h.set
  exact⟨⟨by rw[a];exact h.car,by rw[b];exact h.set,by rw[a,b];exact h.occ⟩,by rw[b];exact h.many⟩
 |succ k ih=>
  rintro v ⟨u,hu,hv⟩
  obtain⟨a,b⟩:=ih u hu
  exact⟨qL (Nat.le_refl _) a (nY.1 hv),by rw[oP (Nat.le_refl _) a.set (nY.1 hv)];exact b⟩
end
end Go.Proofs.YtgnkoffndhmhpaaGreatDoor
namespace Go.Proofs.YtgnkoffndhmhpaaGreatDoor
open Go.RowKit
set_option linter.unusedVariables false
set_option linter.unusedSimpArgs false
set_option maxHeartbeats 8000000
set_option maxRecDepth 100000
theorem aDe (S:Nat)(w:World)(hS:S≤1099511627776):Calls Tryz.prog 182 #[(S:Int)] w fun e w'=>e= .returned (.int .i64 (gC S:Int))∧w=w':=by
 go_enter Tryz.func182,Tryz.ntmps182
 go_wp2
 go_loopw [0,3] (fun v i wr=> ∃(T c:Nat),v= .int .i64 (T:Int)∧i= .int .i64 (c:Int)∧c+gC T=gC S∧T≤S∧c+T≤2*S∧w=wr) (fun v _ _=>(intOf v).toNat)
 case atStart=>exact⟨S,0,rfl,rfl,by omega,Nat.le_refl _,by omega,rfl⟩
 case round=>
  obtain⟨T,c,rfl,rfl,h1,h2,h3,rfl⟩:=hrel
  by_cases h0:0<T
  ·have t0:decide ((0:Int)<(T:Int))=true:=by simp;omega
   have t1:(T:Int).tmod 2=((T%2:Nat):Int):=rfl
   have t2:(T:Int).tdiv 2=((T/2:Nat):Int):=rfl
   have hp:=pX T
   have hw:IntKind.i64.wrap ((c:Int)+((T%2:Nat):Int))=(c:Int)+((T%2:Nat):Int):=IntWalk.i64_in _ (by omega)
   have HP:=xQ hp
   have H1:=xQ h1
   clear hp h1
   go_wp2
   go_roundw
   case rel=>exact⟨T/2,c+T%2,by first|rfl|go_num,by first|rfl|go_num,by have:=HP.out;have:=H1.out;omega,by omega,by omega,by trivial⟩
   case measure=>simp[intOf];omega
  ·have t0:decide ((0:Int)<(T:Int))=false:=by simp;omega
   have hc:Hid (c=gC S):=by show _=_;rw[←h1,show T=0 by omega];simp[gC]
   clear h1
   go_wp2
   go_ret
   exact⟨by rw[hc.out];rfl,rfl⟩
def aEq (fr:List Nat):Nat:=fr.foldl (fun a f=>a+2 ^ f) 0
theorem aKy: ∀(l:List Nat) (a:Nat),(∀f∈l,f<12)→l.foldl (fun a f=>a+2 ^ f) a≤a+l.length*4096:=by
 intro l
 induction l with
 |nil=>intro a _;simp
 |cons f l ih=>
  intro a h
  have h1:=ih (a+2 ^ f) (fun x hx=>h x (by simp[hx]))
  have h2:2 ^ f≤4096:=Nat.le_trans (Nat.pow_le_pow_right (by omega) (show f≤11 by have:=h f (by simp);omega)) (by decide)
  rw[List.foldl_cons,List.length_cons,Nat.succ_mul]
  omega
theorem aKz {fr:List Nat}(h: ∀f∈fr,f<12)(k:Nat):(fr.take k).foldl (fun a f=>a+2 ^ f) 0≤k*4096:=by
 have h1:=aKy (fr.take k) 0 (fun f hf=>h f (List.mem_of_mem_take hf))
 have h2:(fr.take k).length≤k:=by rw[List.length_take];omega
 have h3:=Nat.mul_le_mul_right 4096 h2
 omega
theorem aJa (xs:List Int):aEq (bI xs)=aM xs:=by
 unfold aEq bI aM
 generalize xs.length=k
 induction k with
 |zero=>rfl
 |succ k ih=>
  rw[List.range_succ,List.filter_append,List.foldl_append,ih,show iO (cR xs) (k+1)=iO (cR xs) k+(if cR xs k then 2 ^ k else 0)from rfl]
  cases h:cR xs k<;>simp[h]
theorem aCm (aA aB:Int)(p:OA)(n cap:Nat)(fr:List Nat)(F:Nat)(w:World)(hF:Hid (fr.length=F))(hF12:F≤12)(hfr:Hid (∀x∈fr,x<12))
  (HF:xC 134 #[aH aA aB p n cap] w fun w' e w''=> ∃q c,e= .returned (.slice q F c)∧w''.ownsRow w'.heap.size TI 1 (.slice q F c) F (ivs (bE fr))∧Ext w' w''):
  Calls Tryz.prog 158 #[aH aA aB p n cap] w fun e w'=>e= .returned (.int .i64 (aEq fr:Int))∧Ext w w':=by
 go_enter Tryz.func158,Tryz.ntmps158
 go_wp2_with fail
 refine(HF _ ((Mem.start w).bn TH3 #[aA,aB,.slice p n cap] (w.heap.size)).ext).mono ?_
 rintro e w1 ⟨q1,c1,rfl,d,g⟩
 have M1:=(((Mem.start w).bn TH3 #[aA,aB,.slice p n cap] (w.heap.size)).call g d)
 have h:=M1.hi 1
 clear g d
 go_wp2
 go_loopw [3,5] (fun v i wr=> ∃(k T:Nat),k≤F∧i= .int .i64 (k:Int)∧v= .int .i64 (T:Int)∧T=(fr.take k).foldl (fun a f=>a+2 ^ f) 0∧w1=wr) (fun _ i _=>F-(intOf i).toNat)
 case atStart=>exact⟨0,0,Nat.zero_le _,rfl,rfl,rfl,rfl⟩
 case round=>
  obtain⟨k,T,hk,rfl,rfl,hT,rfl⟩:=hrel
  have HT:=xQ hT
  have u:T≤12*4096:=by have:=aKz hfr.out k;rw[hT];have:k≤12:=by omega
                       omega
  clear hT
  by_cases hlt:k<F
  ·obtain⟨f,hf⟩: ∃f,fr[k]? =some f:=⟨_,List.getElem?_eq_getElem (by rw[hF.out];exact hlt)⟩
   have o:f<12:=hfr.out f (List.mem_of_getElem? hf)
   obtain⟨gf,rfl,l,j⟩:=M1.so 0
   have cu:w1.cell? ⟨gf,k,none⟩=some (.int .i64 (f:Int)):=by have:=(M1.ow 0).cellAt k (by omega);rw[this];simp[ivs,bE,hf]
   have hn:=xQ (show(fr.take (k+1)).foldl (fun a f=>a+2 ^ f) 0=T+2 ^ f by rw[bD hf,List.foldl_append,←HT.out];rfl)
   clear hf
   have i1:(0:Int)≤(k:Int):=by omega
   have i2:(k:Int)<(F:Int):=by omega
   obtain⟨P,hP⟩: ∃P:Nat,P=2 ^ f:=⟨_,rfl⟩
   have s:P≤2048:=by rw[hP];exact Nat.le_trans (Nat.pow_le_pow_right (by omega) (show f≤11 by omega)) (by decide)
   have r:(2:Int) ^ f=(P:Int):=by rw[hP];simp
   have m:IntKind.i64.wrap (P:Int)=(P:Int):=IntWalk.i64_in _ (by omega)
   have t:IntKind.i64.wrap ((T:Int)+(P:Int))=(T:Int)+(P:Int):=IntWalk.i64_in _ (by omega)
   rw[←hP]at hn
   clear hP
   go_wp2
   go_roundw
   case rel=>exact⟨k+1,T+P,by omega,by go_num,by first|rfl|go_num,hn.out.symm,by trivial⟩
   case measure=>simp[intOf];omega
  ·obtain rfl:F=k:=by omega
   have b:Hid ((T:Int)=((aEq fr:Nat):Int)):=by
    show _=_
    rw[HT.out,List.take_of_length_le (by rw[hF.out];omega)];rfl
   go_wp2
   go_ret
   exact⟨by rw[b.out];rfl,M1.ext⟩
theorem qI (aA aB:Int)(p:OA)(n cap:Nat)(xs:List Int)(w:World)(hS:Sl w p n cap 1 (ivs xs))(hok:aN aA aB xs=true):
  Calls Tryz.prog 134 #[aH aA aB p n cap] w fun e w'=> ∃q c,e= .returned (.slice q (bI xs).length c)∧w'.ownsRow w.heap.size TI 1 (.slice q (bI xs).length c) (bI xs).length (ivs (bE (bI xs)))∧Ext w w':=by
 have:=aCi aA aB p n cap xs w hS
 rw[hok,if_pos rfl,qK]at this
 refine this.mono fun e w'' h=> ?_
 obtain⟨q,c,h1,h2,h3⟩:=h
 rw[List.length_map]at h1 h2
 exact⟨q,c,h1,h2,h3⟩
theorem aJ9 {aA aB:Int}{xs:List Int}(hok:aN aA aB xs=true):(bI xs).length≤12:=by
 obtain⟨g1,g2,g3,g4,g5,g6,g7⟩:=bX (cM hok)
 unfold bI
 exact Nat.le_trans (List.length_filter_le _ _) (by simp;omega)
theorem uE (aA aB:Int)(p:OA)(n cap:Nat)(xs:List Int)(w:World)(hS:Sl w p n cap 1 (ivs xs))(hok:aN aA aB xs=true):
  Calls Tryz.prog 158 #[aH aA aB p n cap] w fun e w'=>e= .returned (.int .i64 (aM xs:Int))∧Ext w w':=by
 have hl:=hS.ilen
 obtain⟨g1,g2,g3,g4,g5,g6,g7⟩:=bX (cM hok)
 rw[←aJa]
 exact aCm aA aB p n cap (bI xs) _ w rfl (aJ9 hok) (fun x hx=>by have:=(jJ hx).1;omega) (fun w' hy=>qI aA aB p n cap xs w' (hS.ext hy) hok)
abbrev TSS:TypeId:=22
theorem aMa:ElT Tryz.prog 189 TSS 1:=
 ⟨Tryz.underlying189,by
  obtain⟨i,hi,h0,h1,h2⟩:=info_parts (show(Tryz.prog.info? TSS).map (fun i=>(i.zero,i.size,i.bytes))=some (some (.slice none 0 0),1,24) by kernel_rfl)
  exact⟨i,_,hi,h0,h1,by omega,rfl⟩,by omega⟩
def oU (aA:Int)(n k:Nat)(rows:List RowD):Prop:=rows.length=k∧ ∀(j:Nat) (r:RowD),rows[j]? =some r→r.n=(aT aA n j).length∧r.xs=ivs (bE (aT aA n j))
def zI (aA:Int)(n:Nat)(w:World)(e:Ending)(w':World):Prop:=
 ∃q c rows,e= .returned (.slice q n c)∧oU aA n n rows∧zK w.heap.size TSS TI 1 q c rows w'∧Ext w w'
theorem sU {aA:Int}{n k:Nat}{rows:List RowD}{q:OA}{c:Nat}(h:oU aA n k rows):oU aA n (k+1) (rows++ [⟨q,(aT aA n k).length,c,ivs (bE (aT aA n k))⟩]):=by
 refine⟨by rw[List.length_append,h.1];rfl,fun j r hj=> ?_⟩
 by_cases hk:j<k
 ·rw[List.getElem?_append_left (by rw[h.1];exact hk)]at hj;exact h.2 j r hj
 ·have hl:=(List.getElem?_eq_some_iff.1 hj).1
  rw[List.length_append,h.1]at hl
  simp at hl
  obtain rfl:j=k:=by omega
  rw[List.getElem?_append_right (by rw[h.1];exact Nat.le_refl _),h.1,Nat.sub_self]at hj
  simp at hj
  subst hj
  exact⟨rfl,by simp[ivs,bE]⟩
theorem aFn (aA aB:Int)(p:OA)(n cap:Nat)(w:World)(hn:n≤12)
  (HC:Hid (∀(k:Nat),k<n→ ∀w',Ext w w'→Calls Tryz.prog 201 #[aH aA aB p n cap,(k:Int)] w' (aX (bE (aT aA n k)) w'))):
  Calls Tryz.prog 183 #[aH aA aB p n cap] w (zI aA n w):=by
 go_enter Tryz.func183,Tryz.ntmps183
 have ME:=(((Mem.start w).bn TH3 #[aA,aB,.slice p n cap] (w.heap.size)).made0 TSS 1 (w.heap.size+1) (by simp))
 go_wp2
 go_loopw [3,4] (fun v i wr=> ∃(k:Nat) (q:OA) (c:Nat) (rows:List RowD),k≤n∧i= .int .i64 (k:Int)∧v= .slice q k c∧oU aA n k rows∧Mem w wr [gQ w.heap.size TI 1 rows,aJ w.heap.size TSS 1 (q) (k) (c) (rows.map RowD.v),aI w.heap.size (w.heap.size) TH3 #[aA,aB,.slice p n cap]]) (fun _ i _=>n-(intOf i).toNat)
 case atStart=>exact⟨0,some ⟨w.heap.size+1,0,none⟩,0,[],Nat.zero_le _,rfl,rfl,⟨rfl,fun j r h=>by simp at h⟩,ME.rows0 rfl⟩
 case round=>
  clear ME
  obtain⟨k,q,c,rows,hk,rfl,rfl,a,hM⟩:=hrel
  have HM:=hM
  have HR:=xQ a
  clear hM a
  have f:=(HM.hi 2)
  obtain⟨c0,c1,c2⟩:=(HM.bk 2).tri
  by_cases hlt:k<n
  ·go_wp2_with fail
   clear c0 c1 c2
   refine(HC k hlt _ HM.ext).mono ?_
   rintro e w2 ⟨q2,c2,rfl,o2,b⟩
   rw[List.length_map]at o2⊢
   have M2:=(HM.call b o2)
   have M3:=(M2.rowsAdd rfl)
   have d:=xQ (sU (q:=q2) (c:=c2) HR.out)
   clear o2 b M2 HM HR
   go_wp2_with (at_builtin;go_loud (refine cJ aMa rfl _ _ rfl (M3.adv ((Ext.refl _).alloc (.cells #[.slice q2 (aT aA n k).length c2] TSS))) 1 rfl rfl [.slice q2 (aT aA n k).length c2] rfl (dY _ _ _ 1 1 _ (by first|rfl|simp) (by first|rfl|simp) (by simp[maxLen])) (fun u hu=>by obtain rfl:=List.mem_singleton.1 hu;rfl) (by omega) ?_;intro q7 c7 w6 M6))
   have M7:=(show Mem w w6 [gQ w.heap.size TI 1 (rows++ [⟨q2,(aT aA n k).length,c2,ivs (bE (aT aA n k))⟩]),aJ w.heap.size TSS 1 q7 (k+1) c7 ((rows++ [⟨q2,(aT aA n k).length,c2,ivs (bE (aT aA n k))⟩]:List RowD).map RowD.v),aI w.heap.size (w.heap.size) TH3 #[aA,aB,.slice p n cap]]from by rw[List.map_append];exact M6)
   clear M6 M3
   go_wp2
   go_roundw
   case rel=>exact⟨k+1,q7,c7,_,by omega,by go_num,rfl,d.out,M7⟩
   case measure=>simp[intOf];omega
  ·obtain rfl:n=k:=by omega
   go_wp2
   go_ret
   have hl:=HR.out.1
   have h1:=HM.ow 1
   refine⟨q,c,rows,rfl,HR.out,⟨?_,fun r hr=>HM.ok (gQ w.heap.size TI 1 rows) (by simp) r hr⟩,HM.ext⟩
   rw[hl];exact h1
theorem yI (aA aB:Int)(p:OA)(n cap:Nat)(xs:List Int)(w:World)(hS:Sl w p n cap 1 (ivs xs))(hok:aN aA aB xs=true):
  Calls Tryz.prog 183 #[aH aA aB p n cap] w (zI aA n w):=by
 have hl:=hS.ilen
 obtain⟨g1,g2,g3,g4,g5,g6,g7⟩:=bX (cM hok)
 exact aFn aA aB p n cap w (by omega) (fun k hk w' hx=>by
  have:=aCq aA aB k p n cap xs w' (hS.ext hx) hok (by omega) (by omega)
  rwa[kL]at this)
end Go.Proofs.YtgnkoffndhmhpaaGreatDoor
namespace Go.Proofs.YtgnkoffndhmhpaaGreatDoor
open Go.RowKit
theorem aEz (S h:Nat):S.testBit h=decide (S/2 ^ h%2=1):=by exact Nat.testBit_eq_decide_div_mod_eq
def kA (k:Nat):List Int:=List.replicate k (-1)++List.replicate (NN-k) 0
theorem aDa {k:Nat}(h:k<NN):(kA k).set k (-1)=kA (k+1):=by
 unfold kA
 obtain⟨m,hm⟩: ∃m,NN-k=m+1:=⟨NN-k-1,by omega⟩
 rw[hm,show NN-(k+1)=m by omega,List.replicate_succ]
 rw[List.set_append_right _ _ (by rw[List.length_replicate];exact Nat.le_refl _),List.length_replicate,Nat.sub_self,List.set_cons_zero,List.replicate_succ',List.append_assoc]
 rfl
theorem aDb {k:Nat}(h:k<NN):(kA k)[k]? =some 0:=by
 unfold kA
 rw[List.getElem?_append_right (by rw[List.length_replicate];exact Nat.le_refl _),List.length_replicate,Nat.sub_self]
 rw[List.getElem?_replicate,if_pos (by omega)]
def eP (many m:Nat):List Nat:=(List.range m).filter (fun s=> !s.testBit 0&&decide (gC s=many))
theorem aDc (many:Nat):kA NN=iE NN (eP many 0):=by
 unfold kA iE eP
 rw[Nat.sub_self,List.replicate_zero,List.append_nil]
 rfl
theorem zR {many m:Nat}(hm:m%2=0):eP many (m+2)=eP many m++(if gC m=many then [m]else []):=by
 unfold eP
 rw[List.range_succ,List.range_succ,List.filter_append,List.filter_append,List.append_assoc]
 have h0:m.testBit 0=false:=by rw[Nat.testBit_zero];simp;omega
 have h1:(m+1).testBit 0=true:=by rw[Nat.testBit_zero];simp;omega
 congr 1
 by_cases hp:gC m=many
 ·simp only[List.filter_cons,List.filter_nil,h0,h1];simp[hp]
 ·simp only[List.filter_cons,List.filter_nil,h0,h1];simp[hp]
theorem zS (many m:Nat):(eP many m).length≤m:=by
 unfold eP;exact Nat.le_trans (List.length_filter_le _ _) (by simp)
def fB (aA:Int)(n M s h:Nat):List Nat:=if(s%M).testBit h then((aT aA n h).filter (fun f=> !(s%M).testBit f)).map (fun f=>fS M (s/M) (s%M) f h)else []
def iG (aA:Int)(n M s h:Nat):List Nat:=(List.range h).flatMap (fB aA n M s)
def jA (aA:Int)(n M s h j:Nat):List Nat:=(((aT aA n h).take j).filter (fun f=> !(s%M).testBit f)).map (fun f=>fS M (s/M) (s%M) f h)
theorem rE (aA:Int)(n M s:Nat):iG aA n M s n=vB aA n M s:=rfl
theorem uC (aA:Int)(n M s h:Nat):iG aA n M s (h+1)=iG aA n M s h++fB aA n M s h:=by
 unfold iG;rw[List.range_succ,List.flatMap_append];simp
theorem aM7 {aA:Int}{n M s h:Nat}(hb:(s%M).testBit h=false):fB aA n M s h= []:=by unfold fB;rw[hb];rfl
theorem aJe {aA:Int}{n M s h:Nat}(hb:(s%M).testBit h=true):fB aA n M s h=jA aA n M s h (aT aA n h).length:=by unfold fB jA;rw[if_pos hb,List.take_length]
theorem aD1 (aA:Int)(n M s h:Nat):jA aA n M s h 0= []:=rfl
theorem aI7 {aA:Int}{n M s h j f:Nat}(hj:(aT aA n h)[j]? =some f) (hb:(s%M).testBit f=true):jA aA n M s h (j+1)=jA aA n M s h j:=by
 unfold jA;rw[bD hj,List.filter_append];simp[hb]
theorem aFv {aA:Int}{n M s h j f:Nat}(hj:(aT aA n h)[j]? =some f) (hb:(s%M).testBit f=false):jA aA n M s h (j+1)=jA aA n M s h j++ [fS M (s/M) (s%M) f h]:=by
 unfold jA;rw[bD hj,List.filter_append];simp[hb]
theorem aD2 {aA:Int}{n M s h j:Nat}(hh:h<n)(hb:(s%M).testBit h=true): ∀v∈iG aA n M s h++jA aA n M s h j,v∈vB aA n M s:=by
 intro v hv
 rw[←rE]
 unfold iG
 rw[List.mem_flatMap]
 rcases List.mem_append.1 hv with hv|hv
 ·unfold iG at hv
  obtain⟨a,ha,hm⟩:=List.mem_flatMap.1 hv
  exact⟨a,List.mem_range.2 (by have:=List.mem_range.1 ha;omega),hm⟩
 ·refine⟨h,List.mem_range.2 hh,?_⟩
  rw[aJe hb]
  unfold jA at hv⊢
  obtain⟨f,hf,rfl⟩:=List.mem_map.1 hv
  obtain⟨h1,h2⟩:=List.mem_filter.1 hf
  exact List.mem_map.2 ⟨f,List.mem_filter.2 ⟨by rw[List.take_length];exact List.mem_of_mem_take h1,h2⟩,rfl⟩
theorem aFw {aA:Int}{n M s h:Nat}(hh:h≤n): ∀v∈iG aA n M s h,v∈vB aA n M s:=by
 intro v hv
 rw[←rE]
 unfold iG at hv⊢
 obtain⟨a,ha,hm⟩:=List.mem_flatMap.1 hv
 exact List.mem_flatMap.2 ⟨a,List.mem_range.2 (by have:=List.mem_range.1 ha;omega),hm⟩
theorem aAo {adj:Nat→List Nat}{src:List Nat}{N k u:Nat}{D:List Int}{Q:List Nat}(h:Inv adj src N k (D,Q))(hu:Q[k]? =some u) (ha: ∀v∈adj u,v<N) {vs:List Nat} (hv: ∀v∈vs,v∈adj u) {D2:List Int} {Q2:List Nat} (he:(D2,Q2)=bJ (D.getD u 0+1) (D,Q) vs):
  Mid adj src N k u vs (D,Q) (D2,Q2):=by
 rw[he]
 have:=Mid.many (List.mem_of_getElem? hu) vs [] (D,Q) (h.mid hu) (fun v hv'=>⟨hv v hv',ha v (hv v hv')⟩)
 simpa using this
end Go.Proofs.YtgnkoffndhmhpaaGreatDoor
