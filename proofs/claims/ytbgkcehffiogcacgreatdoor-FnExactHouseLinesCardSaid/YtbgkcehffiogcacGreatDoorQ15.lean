/-
  Texts of this proof, packed (@packed).
-/
import Derived.Test.YtbgkcehffiogcacGreatDoorQ14
namespace Go.Proofs.YtbgkcehffiogcacGreatDoor
set_option linter.unusedSimpArgs false
set_option linter.unusedVariables false
set_option maxHeartbeats 8000000
set_option maxRecDepth 100000
structure oM (adj:Nat→List Nat) (D:Nat→Int) (g:Nat→Nat) (d start:Nat):Prop where
 zero:g 0=start
 dist: ∀j,j≤d→D (g j)=d-j
 next: ∀j,j<d→(adj (g j)).find? (fun v=>decide (D v=D (g j)-1))=some (g (j+1))
structure aFh (adj:Nat→List Nat) (D:Nat→Int) (N:Nat):Prop where
 edge: ∀u v,u<N→v∈adj u→0≤D u→0≤D v∧D u≤D v+1
 bd: ∀u v,u<N→v∈adj u→v<N
structure Fwd (adj:Nat→List Nat) (D:Nat→Int) (g:Nat→Nat) (d N start k:Nat) (B A:List Int) (Q:List Nat):Prop where
 inv:Inv adj [start] N k (A,Q)
 blen:B.length=N
 bmem: ∀v,v<N→(0≤B.getD v 0↔v∈Q)
 ngoal: ∀(i u:Nat),i<k→Q[i]? =some u→D u≠0
 tri: ∀v∈Q,0≤D v∧(d:Int)≤A.getD v 0+D v
 chain: ∀j:Nat,j<d→g (j+1)∈Q→A.getD (g (j+1)) 0=j+1→B.getD (g (j+1)) 0=g j
 tight: ∀(i v:Nat),Q[i]? =some v→A.getD v 0+D v=d→ ∃i',i'≤i∧Q[i']? =some (g (A.getD v 0).toNat)
structure FMid (adj:Nat→List Nat) (D:Nat→Int) (g:Nat→Nat) (d N start k u:Nat) (ws:List Nat) (A0:List Int) (Q0:List Nat) (B A:List Int) (Q:List Nat):Prop where
 mid:Mid adj [start] N k u ws (A0,Q0) (A,Q)
 blen:B.length=N
 bmem: ∀v,v<N→(0≤B.getD v 0↔v∈Q)
 tri: ∀v∈Q,0≤D v∧(d:Int)≤A.getD v 0+D v
 chain: ∀j:Nat,j<d→g (j+1)∈Q→A.getD (g (j+1)) 0=j+1→B.getD (g (j+1)) 0=g j
 tight: ∀(i v:Nat),Q[i]? =some v→A.getD v 0+D v=d→ ∃i',i'≤i∧Q[i']? =some (g (A.getD v 0).toNat)
theorem FMid.step {adj:Nat→List Nat}{D:Nat→Int}{g:Nat→Nat}{d N c k u w:Nat}{ws af:List Nat}{B0 A0:List Int}{Q0:List Nat}{B A:List Int}{Q:List Nat}
  (hG:oM adj D g d c)(hD:aFh adj D N)(h0:Fwd adj D g d N c k B0 A0 Q0)(hu:Q0[k]? =some u) (h:FMid adj D g d N c k u ws A0 Q0 B A Q) (p:adj u=ws++w::af):
  ∃B' A' Q',eS (u:Int) (B,Q) w=(B',Q')∧eS (A0.getD u 0+1) (A,Q) w=(A',Q')∧FMid adj D g d N c k u (ws++ [w]) A0 Q0 B' A' Q':=by
 have o:u∈Q0:=aRs hu;have s:u<N:=h0.inv.bd u o;have hw:w∈adj u:=by rw[p];simp
 have n:w<N:=hD.bd u w s hw;have q:A0.getD u 0=A.getD u 0:=(h.mid.same u o).symm;have m:=h.mid.step o hw n q;obtain⟨r,hr⟩:=h.mid.pre;dsimp only at hr;have ab:u∈Q:=by rw[hr];exact aSr _ o
 have y:Q[k]? =some u:=by have hk:k<Q0.length:=(aRt.1 hu).1;rw[hr,aS8 hk];exact hu
 have ap:0≤A.getD u 0:=(h.mid.mem u s).2 ab;by_cases hc:w∈Q
 ·have hB: ¬B.getD w 0<0:=by have:=(h.bmem w n).2 hc;omega
  have hA: ¬A.getD w 0<0:=by have:=(h.mid.mem w n).2 hc;dsimp only at this;omega
  refine⟨B,A,Q,by unfold eS;rw[if_neg hB],by unfold eS;rw[if_neg hA],?_⟩;have e:eS (A0.getD u 0+1) (A,Q) w=(A,Q):=by unfold eS;rw[if_neg hA]
  rw[e]at m;exact⟨m,h.blen,h.bmem,h.tri,h.chain,h.tight⟩
 have hB:B.getD w 0<0:=by
  by_cases hh:B.getD w 0<0
  ·exact hh
  exact absurd ((h.bmem w n).1 (by omega)) hc
 have hA:A.getD w 0<0:=by
  by_cases hh:A.getD w 0<0
  ·exact hh
  exact absurd ((h.mid.mem w n).1 (by dsimp only;omega)) hc
 have aa: ∀v∈Q,w≠v:=fun v hv e=>hc (by rw[e];exact hv)
 refine⟨B.set w u,A.set w (A0.getD u 0+1),Q++ [w],by unfold eS;rw[if_pos hB],by unfold eS;rw[if_pos hA],?_⟩;have e:eS (A0.getD u 0+1) (A,Q) w=(A.set w (A0.getD u 0+1),Q++ [w]):=by unfold eS;rw[if_pos hA]
 rw[e]at m;have al:w<B.length:=by rw[h.blen];exact n
 have ak:w<A.length:=by have:=h.mid.len;dsimp only at this;omega
 have sB:(B.set w (u:Int)).getD w 0=u:=cJ al;have sA:(A.set w (A0.getD u 0+1)).getD w 0=A.getD u 0+1:=by rw[cJ ak,q]
 obtain⟨am,aq⟩:=h.tri u ab;obtain⟨e1,e2⟩:=hD.edge u w s hw am
 -- if w is tight, then so is u; and the step that is first is there
 have ae:A.getD u 0+1+D w=d→ ∃i',i'≤k∧Q[i']? =some (g (A.getD u 0).toNat)∧(i'<k→g ((A.getD u 0).toNat+1)∈Q)∧(i'=k→u=g (A.getD u 0).toNat):=by
  intro ht;obtain⟨i',l,hq⟩:=h.tight k u y (by omega);refine⟨i',l,hq,fun hlt=> ?_,fun he=> ?_⟩
  ·have hk:k<Q0.length:=(aRt.1 hu).1;have ai:Q0[i']? =some (g (A.getD u 0).toNat):=by rw[hr,aS8 (by omega)]at hq;exact hq
   have f:(A.getD u 0).toNat<d:=by omega
   have z:g ((A.getD u 0).toNat+1)∈adj (g (A.getD u 0).toNat):=aT6 (hG.next _ f);have:=(h0.inv.done i' _ hlt ai _ z).1;rw[hr];exact aSr _ this
  subst he;rw[y]at hq;injection hq
 have first:A.getD u 0+1+D w=d→g ((A.getD u 0).toNat+1)∈Q∨g ((A.getD u 0).toNat+1)=w:=by
  intro ht;obtain⟨i',l,hq,k1,k2⟩:=ae ht;by_cases he:i'=k
  ·have ad:=k2 he;have f:(A.getD u 0).toNat<d:=by omega
   have hn:=hG.next _ f;rw[←ad,p]at hn;have an:D u=d-(A.getD u 0).toNat:=by have:=hG.dist _ (Nat.le_of_lt f);rw[←ad]at this;exact this
   rw[List.find?_append]at hn;cases hf:ws.find? (fun v=>decide (D v=D u-1))with
   |some x=>rw[hf,Option.some_or]at hn;injection hn with hn;left;rw[←hn];exact h.mid.seen x (aT6 hf)
   |none=>rw[hf]at hn;right;rw[Option.none_or,List.find?_cons_of_pos (by simp;omega)]at hn;injection hn with hn;exact hn.symm
  exact .inl (k1 (by omega))
 refine⟨m,by simp[h.blen],?_,?_,?_,?_⟩
 ·intro v hv;by_cases ev:w=v
  ·subst ev;rw[sB];exact⟨fun _=>by simp,fun _=>by omega⟩
  rw[bR ev,h.bmem v hv];simp;intro e2;exact absurd e2.symm ev
 ·intro v hv;rcases aSa.1 hv with hv|hv
  ·rw[bR (aa v hv)];exact h.tri v hv
  simp at hv;subst hv;rw[sA];exact⟨e1,by omega⟩
 ·intro j hj hm ha;by_cases ev:w=g (j+1)
  ·rw[←ev]at ha⊢;rw[sA]at ha;rw[sB];have ao:D w=d-(j+1:Nat):=by rw[ev];exact hG.dist (j+1) (by omega)
   have ht:A.getD u 0+1+D w=d:=by omega
   obtain⟨i',l,hq,k1,k2⟩:=ae ht;have t:(A.getD u 0).toNat=j:=by omega
   by_cases he:i'=k
   ·have:=k2 he;rw[t]at this;rw[this]
   have:=k1 (by omega);rw[t,←ev]at this;exact absurd this hc
  rcases aSa.1 hm with hm|hm
  ·rw[bR ev]at ha⊢;exact h.chain j hj hm ha
  simp at hm;exact absurd hm.symm ev
 intro i v hi ht;by_cases hiQ:i<Q.length
 ·rw[aS8 hiQ]at hi;have aj:v∈Q:=aRs hi;rw[bR (aa v aj)]at ht⊢;obtain⟨i',a,b⟩:=h.tight i v hi ht;exact⟨i',a,by rw[aS8 (by omega)];exact b⟩
 have ah:i<(Q++ [w]).length:=(aRt.1 hi).1;have ag:i=Q.length:=by simp at ah;omega
 subst ag;simp at hi;subst hi;rw[sA]at ht⊢;have e3:(A.getD u 0+1).toNat=(A.getD u 0).toNat+1:=by omega
 rw[e3];rcases first ht with hm|hm
 ·obtain⟨i',l,ei⟩:=aT5 hm;exact⟨i',by omega,by rw[aS8 l,aRq l,ei]⟩
 exact⟨Q.length,aRp _,by rw[hm,aS3 (aRp _)];simp⟩
theorem Fwd.mid {adj:Nat→List Nat}{D:Nat→Int}{g:Nat→Nat}{d N a k u:Nat}{B A:List Int}{Q:List Nat}(h:Fwd adj D g d N a k B A Q)(hu:Q[k]? =some u):FMid adj D g d N a k u [] A Q B A Q:=
 ⟨h.inv.mid hu,h.blen,h.bmem,h.tri,h.chain,h.tight⟩
theorem FMid.many {adj:Nat→List Nat}{D:Nat→Int}{g:Nat→Nat}{d N a k u:Nat}{B0 A0:List Int}{Q0:List Nat}
  (hG:oM adj D g d a)(hD:aFh adj D N)(h0:Fwd adj D g d N a k B0 A0 Q0)(hu:Q0[k]? =some u):
  ∀(vs ws:List Nat) (B A:List Int) (Q:List Nat),FMid adj D g d N a k u ws A0 Q0 B A Q→adj u=ws++vs→(bQ (A0.getD u 0+1) (A,Q) vs).2=(bQ (u:Int) (B,Q) vs).2∧FMid adj D g d N a k u (ws++vs) A0 Q0 (bQ (u:Int) (B,Q) vs).1 (bQ (A0.getD u 0+1) (A,Q) vs).1 (bQ (u:Int) (B,Q) vs).2:=by
 intro vs;induction vs with
 |nil=>intro ws B A Q h _;exact⟨rfl,by simpa[bQ]using h⟩
 |cons v vs ih=>
  intro ws B A Q h e;obtain⟨B',A',Q',e1,e2,h1⟩:=h.step hG hD h0 hu e;have e3:bQ (u:Int) (B,Q) (v::vs)=bQ (u:Int) (B',Q') vs:=by show vs.foldl _ (eS (u:Int) (B,Q) v)=_;rw[e1];rfl
  have e4:bQ (A0.getD u 0+1) (A,Q) (v::vs)=bQ (A0.getD u 0+1) (A',Q') vs:=by show vs.foldl _ (eS (A0.getD u 0+1) (A,Q) v)=_;rw[e2];rfl
  have:=ih (ws++ [v]) B' A' Q' h1 (by rw[e];simp);rw[e3,e4];simpa using this
theorem Fwd.step {adj:Nat→List Nat}{D:Nat→Int}{g:Nat→Nat}{d N a k u:Nat}{B A:List Int}{Q:List Nat}(hG:oM adj D g d a)(hD:aFh adj D N)(h:Fwd adj D g d N a k B A Q)(hu:Q[k]? =some u) (hg:D u≠0):
  ∃A',Fwd adj D g d N a (k+1) (bQ (u:Int) (B,Q) (adj u)).1 A' (bQ (u:Int) (B,Q) (adj u)).2:=by
 have b:=h.inv.bd u (aRs hu);obtain⟨e,m⟩:=FMid.many hG hD h hu (adj u) [] B A Q (h.mid hu) rfl;have hi:=h.inv.step hu (fun v hv=>hD.bd u v b hv);have e2:bQ (A.getD u 0+1) (A,Q) (adj u)=((bQ (A.getD u 0+1) (A,Q) (adj u)).1,(bQ (u:Int) (B,Q) (adj u)).2):=by rw[←e]
 dsimp only at hi;rw[e2]at hi;obtain⟨r,hr⟩:=m.mid.pre;dsimp only at hr;refine⟨_,hi,m.blen,m.bmem,?_,m.tri,m.chain,m.tight⟩;intro i v c hv;have hk:k<Q.length:=(aRt.1 hu).1;by_cases he:i=k
 ·subst he;rw[hr,aS8 hk,hu]at hv;injection hv with hv;rw[←hv];exact hg
 rw[hr,aS8 (by omega)]at hv;exact h.ngoal i v (by omega) hv
theorem Fwd.way {adj:Nat→List Nat}{D:Nat→Int}{g:Nat→Nat}{d N c k:Nat}{B A:List Int}{Q:List Nat}(hG:oM adj D g d c)(h:Fwd adj D g d N c k B A Q)
  (hp: ∀(i v:Nat),Q[i]? =some v→A.getD v 0<d→i<k): ∀j,j≤d→g j∈Q∧A.getD (g j) 0=j:=by
 intro j;induction j with
 |zero=>intro _;obtain⟨a,b⟩:=h.inv.src c (by simp);rw[hG.zero];exact⟨a,by simpa using b⟩
 |succ j ih=>
  intro hj;obtain⟨a,b⟩:=ih (by omega);obtain⟨i,hi,e⟩:=aT5 a;have hq:Q[i]? =some (g j):=by rw[aRq hi,e]
  have f:=hp i (g j) hq (by omega);have hm:g (j+1)∈adj (g j):=aT6 (hG.next j (by omega));obtain⟨c1,c2⟩:=h.inv.done i (g j) f hq _ hm;have t:=(h.tri (g (j+1)) c1).2;have dd:=hG.dist (j+1) hj;dsimp only at c2;exact⟨c1,by omega⟩
theorem Fwd.goal {adj:Nat→List Nat}{D:Nat→Int}{g:Nat→Nat}{d N f k u:Nat}{B A:List Int}{Q:List Nat}(hG:oM adj D g d f)(h:Fwd adj D g d N f k B A Q)(hu:Q[k]? =some u) (hz:D u=0):
  u=g d∧ ∀j,j<d→B.getD (g (j+1)) 0=g j:=by
 have o:u∈Q:=aRs hu;have hk:k<Q.length:=(aRt.1 hu).1;have n:Q[k]=u:=(aRt.1 hu).2;have t:=(h.tri u o).2;have m:=List.pairwise_iff_getElem.1 h.inv.mono;have hp: ∀(i v:Nat),Q[i]? =some v→A.getD v 0<A.getD u 0→i<k:=by
  intro i v hv hlt;obtain⟨hi,e⟩:=aRt.1 hv;by_cases hik:i<k
  ·exact hik
  exfalso;by_cases he:i=k
  ·subst he;rw[n]at e;subst e;omega
  have:=m k i hk hi (by omega);dsimp only at this;rw[n,e]at this;omega
 have hw:=h.way hG (fun i v hv hlt=>hp i v hv (by omega));obtain⟨w1,w2⟩:=hw d (aRp _);have q:=hG.dist d (aRp _);have l:D (g d)=0:=by omega
 obtain⟨i,hi,e⟩:=aT5 w1;have hq:Q[i]? =some (g d):=by rw[aRq hi,e]
 have p:A.getD u 0=d:=by
  by_cases hh:A.getD u 0=d
  ·exact hh
  exfalso;have:=hp i (g d) hq (by omega);exact h.ngoal i _ this hq l
 obtain⟨i',r,c⟩:=h.tight k u hu (by omega);have e1:(A.getD u 0).toNat=d:=by omega
 rw[e1]at c;have hik:i'=k:=by
  by_cases hh:i'=k
  ·exact hh
  exact absurd l (h.ngoal i' _ (by omega) c)
 subst hik;rw[hu]at c;injection c with c;refine⟨c,fun j hj=> ?_⟩;obtain⟨a,b⟩:=hw (j+1) (by omega);exact h.chain j hj a (by omega)
theorem Fwd.more {adj:Nat→List Nat}{D:Nat→Int}{g:Nat→Nat}{d N c k:Nat}{B A:List Int}{Q:List Nat}(hG:oM adj D g d c)(h:Fwd adj D g d N c k B A Q):k<Q.length:=by
 by_cases hk:k<Q.length
 ·exact hk
 exfalso;have hp: ∀(i v:Nat),Q[i]? =some v→i<k:=fun i v hv=>by have:=(aRt.1 hv).1;omega
 obtain⟨a,b⟩:=h.way hG (fun i v hv _=>hp i v hv) d (aRp _);obtain⟨i,hi,e⟩:=aT5 a;have hq:Q[i]? =some (g d):=by rw[aRq hi,e]
 have f:=hG.dist d (aRp _);exact h.ngoal i _ (hp i _ hq) hq (by omega)
theorem Fwd.start {adj:Nat→List Nat}{D:Nat→Int}{g:Nat→Nat}{d N a:Nat}(hG:oM adj D g d a)(hs:a<N):
  Fwd adj D g d N a 0 ((List.replicate N (-1)).set a (a:Int)) ((List.replicate N (-1)).set a 0) [a]:=by
 have hl:a<(List.replicate N (-1:Int)).length:=by simpa using hs
 have b: ∀(x:Int) v,v<N→a≠v→((List.replicate N (-1:Int)).set a x).getD v 0= -1:=by intro x v hv e;rw[bR e];simp[List.getD,hv]
 refine⟨⟨by simp,by simpa using hs,?_,by simp,by simp,?_,?_,?_,fun i u hi=>by omega⟩,by simp,?_,fun i u hi=>by omega,?_,?_,?_⟩
 ·intro v hv;dsimp only;by_cases e:a=v
  ·subst e;rw[cJ hl];simp
  rw[b 0 v hv e];simp;exact fun h=>e h.symm
 ·intro u hu v hv;simp at hu hv;subst hu hv;omega
 ·intro v hv;simp at hv;subst hv;dsimp only;rw[cJ hl];simp[oQ]
 ·intro v hv;simp at hv;subst hv;exact⟨by simp,cJ hl⟩
 ·intro v hv;by_cases e:a=v
  ·subst e;rw[cJ hl];simp
  rw[b _ v hv e];simp;exact fun h=>e h.symm
 ·intro v hv;simp at hv;subst hv;have:=hG.dist 0 (aRv _);rw[hG.zero]at this;rw[cJ hl];omega
 ·intro j hj hm ha;simp at hm;rw[hm,cJ hl]at ha;omega
 intro i v hi ht;have c:i=0:=by have:=(aRt.1 hi).1;simp at this;omega
 subst c;simp at hi;subst hi;rw[cJ hl];exact⟨0,aRp _,by simp[hG.zero]⟩
section
open Go.RowKit
def aCt (adj:Nat→List Nat):Nat→Nat→List Int×List Nat→List Int×List Nat
 |0,_,s=>s
 |m+1,k,s=>match s.2[k]? with
  |none=>s
  |some u=>aCt adj m (k+1) (bQ (s.1.getD u 0+1) s (adj u))
theorem aFc {adj:Nat→List Nat}{src:List Nat}{N:Nat}(ha: ∀u v,u<N→v∈adj u→v<N): ∀(m k:Nat) (s:List Int×List Nat),Inv adj src N k s→N≤k+m→tG adj src N (aCt adj m k s).1:=by
 intro m;induction m with
 |zero=>intro k s hI hk;exact hI.dist (aRz hI.qlen (by omega))
 |succ m ih=>
  intro k s hI hk;rw[aCt];cases hu:s.2[k]? with
  |none=>exact hI.dist (by rw[List.getElem?_eq_none_iff]at hu;exact hu)
  |some u=>exact ih (k+1) _ (hI.step hu (fun v hv=>ha _ v (hI.bd _ (aRs hu)) hv)) (by omega)
def gQ (aA:Int)(n many:Nat):List Int:=(aCt (yQ aA n MM) NN 0 (jB NN (wM n many),wM n many)).1
theorem mF {aA:Int}{n many:Nat}(hn:n≤12):fA aA n many (gQ aA n many):=
 aFc (tE hn) _ _ _ (Inv.begin (aI6 hn) wL) (by omega)
abbrev jL (e:Nat×Nat):Sl2:=((e.1:Int),(e.2:Int))
def oR (aA:Int)(n:Nat)(dd:Nat→Nat→Int)(s:Nat×Nat)(j:Nat):List Sl2:=(List.range j).map (fun i=>jL (gO aA n dd s i))
theorem oT (aA:Int)(n:Nat)(dd:Nat→Nat→Int)(s:Nat×Nat)(j:Nat):(oR aA n dd s j).length=j:=by simp[oR]
theorem zR (aA:Int)(n:Nat)(dd:Nat→Nat→Int)(s:Nat×Nat)(j:Nat):oR aA n dd s (j+1)=oR aA n dd s j++ [jL (gO aA n dd s j)]:=by simp[oR,aTc]
def ddH (aA:Int)(xs:List Int):Nat→Nat→Int:=aV (gQ aA xs.length (bP xs).length)
def dX (aA:Int)(xs:List Int)(c:Nat):Option (List Sl2):=
 if ddH aA xs c (aN xs)<0 then none else some (oR aA xs.length (ddH aA xs) (c,aN xs) (ddH aA xs c (aN xs)).toNat)
theorem lG {xs:List Int}{c:Nat}{id:Int}(hc:xs[c]? =some id) (h0:id≠0):oS xs.length (bP xs).length (c,aN xs):=by obtain⟨hl,he⟩:=aRt.1 hc;refine⟨hl,oH xs,?_,aCk xs⟩;show(aN xs).testBit c=false;rw[eT,fX hl,aRw,hc];simpa using h0
section
variable {aA aB:Int} {xs:List Int} {c:Nat} {id:Int} {D:List Int}
theorem aLl (h:aO aA aB xs=true)(hc:xs[c]? =some id) (h0:id≠0) (hD:fA aA xs.length (bP xs).length D) {d:Nat} (hd:aV D c (aN xs)=d):
  ∀j,j≤d→ ∃ys,bD aA aB xs (oR aA xs.length (aV D) (c,aN xs) j)=(ys,j)∧aO aA aB ys=true∧ys.length=xs.length∧aN ys=(gP aA xs.length (aV D) (c,aN xs) j).2∧ys[(gP aA xs.length (aV D) (c,aN xs) j).1]? =some id:=by
 obtain⟨b1,b2,b3,b4,b5,b6,b7⟩:=cE (cQ h);have hp:=lG hc h0;intro j;induction j with
 |zero=>intro _;exact⟨xs,rfl,h,rfl,rfl,hc⟩
 |succ j ih=>
  intro hj;obtain⟨ys,h1,h2,h3,h4,h5⟩:=ih (by omega);obtain⟨e1,e2,e3⟩:=kW b5 b6 hD hp hd (show j<d by omega);have hw:=zR aA xs.length (aV D) (c,aN xs) j;generalize gO aA xs.length (aV D) (c,aN xs) j=e at*;obtain⟨f,t⟩:=e;rw[←h4,←h3]at e2;obtain⟨m1,m2,m3,m4⟩:=uG h2 e2;refine⟨bI aA aB ys (f:Int) (t:Int),?_,iW _ _ h2,by rw[dB,h3],?_,?_⟩
  ·rw[hw,qV _ _ _ (by rw[h1,oT]),h1,oT];dsimp only;rw[if_pos m1]
  ·rw[m3,e3,h4];rfl
  rw[e3];exact m4 _ _ h5 h0
theorem uJ (h:aO aA aB xs=true)(hc:xs[c]? =some id) (h0:id≠0) (hD:fA aA xs.length (bP xs).length D):(bP xs≠ []→0≤aV D c (aN xs)∧aV D c (aN xs)≤60)∧(c=0→aV D c (aN xs)=0)∧(bP xs= []→c≠0→aV D c (aN xs)<0):=by
 obtain⟨b1,b2,b3,b4,b5,b6,b7⟩:=cE (cQ h);have hp:=lG hc h0;obtain⟨k1,k2,k3⟩:=nY b6 hp;refine⟨fun hf=> ?_,fun hc0=> ?_,fun hf hc0=> ?_⟩
 ·obtain⟨u,hu⟩:=List.exists_mem_of_ne_nil _ hf;obtain⟨u1,u2⟩:=kK hu;have hb:(aN xs).testBit u=true:=by rw[eT,fX u1,u2];rfl
  have hg:=kI h;obtain⟨a,b⟩:=aOb hg b5 b6 hD _ _ u (aRp _) k1 (by rw[k3];exact hp.many) (by rw[k3];exact hb);rw[k2]at b;exact⟨a,Int.le_trans b (by have:=(wX hg hp.car u1).1;exact_mod_cast this)⟩
 ·subst hc0;refine(hD.zero _ (pA b6 k1)).2 (jQ.2 ?_);rw[Nat.zero_mul,aSs];exact⟨hp.set,hp.occ,hp.many⟩
 rcases Int.lt_or_le (aV D c (aN xs)) 0 with f|d
 ·exact f
 exfalso;rcases Int.lt_or_eq_of_le d with h1|h1
 ·obtain⟨e,e1,e2,_⟩:=tV b5 b6 hD hp h1;obtain⟨_,g2,_,_,g5⟩:=fN.1 e2;have hm:e.2∈bP xs:=by
   unfold bP;rw[aSi];exact⟨aS7.2 g2,by rw[←eT];exact g5⟩
  rw[hf]at hm;cases hm
 have hz:=(hD.zero _ (pA b6 k1)).1 h1.symm;have h2:=(jQ.1 hz).1;have h3:=Nat.div_eq_of_lt (aRo h2 (iQ b6));rw[k2]at h3;exact hc0 h3
theorem aLi (h:aO aA aB xs=true)(hc:xs[c]? =some id) (h0:id≠0) (hD:fA aA xs.length (bP xs).length D):
  (0≤aV D c (aN xs)↔0≤ddH aA xs c (aN xs))∧(0≤aV D c (aN xs)→aV D c (aN xs)=ddH aA xs c (aN xs)∧oR aA xs.length (aV D) (c,aN xs) (aV D c (aN xs)).toNat=oR aA xs.length (ddH aA xs) (c,aN xs) (ddH aA xs c (aN xs)).toNat):=by
 obtain⟨b1,b2,b3,b4,b5,b6,b7⟩:=cE (cQ h);have hp:=lG hc h0;have hE:=mF (aA:=aA) (many:=(bP xs).length) b6;obtain⟨s1,s2⟩:=aAr hD hE (pA b6 (nY b6 hp).1);refine⟨s1,fun h1=> ?_⟩;have e1:aV D c (aN xs)=ddH aA xs c (aN xs):=s2 h1;refine⟨e1,?_⟩;obtain⟨d,hd⟩:=aTk h1;rw[←e1,hd];unfold oR;refine List.map_congr_left fun i hi=> ?_
 have:=aS7.1 hi;rw[aHv b5 b6 hD hE hp hd (show i<d by simpa using this)];rfl
theorem yM (h:aO aA aB xs=true)(hc:xs[c]? =some id) (h0:id≠0) (hD:fA aA xs.length (bP xs).length D):dX aA xs c=if aV D c (aN xs)<0 then none else some (oR aA xs.length (aV D) (c,aN xs) (aV D c (aN xs)).toNat):=by
 obtain⟨a,b⟩:=aLi h hc h0 hD;unfold dX;by_cases h1:0≤aV D c (aN xs)
 ·rw[if_neg (by have:=a.1 h1;omega),if_neg (by omega),(b h1).2]
 rw[if_pos (by have:=fun x=>h1 (a.2 x);omega),if_pos (by omega)]
theorem pU (h:aO aA aB xs=true)(hc:xs[c]? =some id) (h0:id≠0):(dX aA xs c=none↔bP xs= []∧c≠0)∧ ∀l,dX aA xs c=some l→l.length≤60∧ ∃ys,bD aA aB xs l=(ys,l.length)∧aO aA aB ys=true∧ys.length=xs.length∧ys[0]? =some id:=by
 obtain⟨b1,b2,b3,b4,b5,b6,b7⟩:=cE (cQ h);have hE:=mF (aA:=aA) (many:=(bP xs).length) b6;obtain⟨n1,n2,n3⟩:=uJ h hc h0 hE;have e:ddH aA xs c (aN xs)=aV (gQ aA xs.length (bP xs).length) c (aN xs):=rfl;constructor
 ·unfold dX;rw[e];constructor
  ·intro hn;by_cases hf:bP xs= []
   ·refine⟨hf,fun hc0=> ?_⟩;rw[n2 hc0]at hn;simp at hn
   rw[if_neg (by have:=(n1 hf).1;omega)]at hn;cases hn
  rintro⟨hf,hc0⟩;rw[if_pos (n3 hf hc0)]
 intro l hl;unfold dX at hl;rw[e]at hl;by_cases h1:aV (gQ aA xs.length (bP xs).length) c (aN xs)<0
 ·rw[if_pos h1]at hl;cases hl
 rw[if_neg h1]at hl;injection hl with hl;obtain⟨d,hd⟩:=aTk (show 0≤aV (gQ aA xs.length (bP xs).length) c (aN xs) by omega);have a:l.length=d:=by rw[←hl,oT,hd];rfl
 have b:d≤60:=by
  by_cases hf:bP xs= []
  ·by_cases hc0:c=0
   ·have:=n2 hc0;omega
   exact absurd (n3 hf hc0) h1
  have:=(n1 hf).2;omega
 refine⟨by omega,?_⟩;obtain⟨ys,w1,w2,w3,w4,w5⟩:=aLl h hc h0 hE hd d (aRp _);have hz:=(aNw b5 b6 hE (lG hc h0) hd (aRp d)).2 rfl;rw[hz]at w5;refine⟨ys,?_,w2,w3,w5⟩;rw[a,←w1,←hl,hd];rfl
end
def mU (aA aB:Int)(xs:List Int)(id:Int):Option (List Int×Nat):=
 if id<1∨id∉xs then none else(dX aA xs (qS xs id).toNat).map (fun l=>((bD aA aB xs l).1.set 0 0,l.length))
/-! the other search: its states, coded by 2^n -/
def eY (n:Nat)(s:Nat×Nat):Nat:=s.1*2 ^ n+s.2
def ddM (n:Nat)(dd:Nat→Nat→Int)(v:Nat):Int:=dd (v/2 ^ n) (v%2 ^ n)
theorem kY {n:Nat}{s:Nat×Nat}(h:s.2<2 ^ n):eY n s/2 ^ n=s.1∧eY n s%2 ^ n=s.2:=⟨mG h,iC h⟩
theorem yJ {n:Nat}{dd:Nat→Nat→Int}{s:Nat×Nat}(h:s.2<2 ^ n):ddM n dd (eY n s)=dd s.1 s.2:=by obtain⟨a,b⟩:=kY h;unfold ddM;rw[a,b]
section
variable {aA:Int} {n many:Nat} {D:List Int}
theorem aLe {s:Nat×Nat}(h:s.2<2 ^ n):oK aA n (2 ^ n) (eY n s)=(eO aA n s.2).map (fun e=>eY n (kC s e)):=by obtain⟨a,b⟩:=kY h;unfold oK;rw[a,b];rfl
theorem tB {s:Nat×Nat}(h1:s.1<n)(h2:s.2<2 ^ n):eY n s<n*2 ^ n:=by unfold eY;have:(s.1+1)*2 ^ n≤n*2 ^ n:=aSj _ h1;rw[aT2]at this;omega
theorem yD (c:4≤n)(hn:n≤12)(hD:fA aA n many D){s:Nat×Nat}(h:oS n many s){d:Nat}(hd:aV D s.1 s.2=d):
  oM (oK aA n (2 ^ n)) (ddM n (aV D)) (fun j=>eY n (gP aA n (aV D) s j)) d (eY n s):=by
 refine⟨rfl,fun j hj=> ?_,fun j hj=> ?_⟩
 ·obtain⟨a,b⟩:=jU c hn hD h hd j hj;show ddM n (aV D) (eY n (gP aA n (aV D) s j))=_;rw[yJ a.set,b]
 obtain⟨a,b⟩:=jU c hn hD h hd j (by omega);obtain⟨e1,e2,e3⟩:=kW c hn hD h hd hj;rw[aLe a.set,yJ a.set,e3];rw[List.find?_map];have f:(eO aA n (gP aA n (aV D) s j).2).find? ((fun v=>decide (ddM n (aV D) v=aV D (gP aA n (aV D) s j).1 (gP aA n (aV D) s j).2-1))∘fun e=>eY n (kC (gP aA n (aV D) s j) e))=mM aA n (aV D) (gP aA n (aV D) s j):=by
  unfold mM;have k2: ∀l:List (Nat×Nat),(∀e∈l,e∈eO aA n (gP aA n (aV D) s j).2)→l.find? ((fun v=>decide (ddM n (aV D) v=aV D (gP aA n (aV D) s j).1 (gP aA n (aV D) s j).2-1))∘fun e=>eY n (kC (gP aA n (aV D) s j) e))=l.find? (fun e=>decide (aV D (dS (gP aA n (aV D) s j).1 e.1 e.2) (dC (gP aA n (aV D) s j).2 e.1 e.2)=aV D (gP aA n (aV D) s j).1 (gP aA n (aV D) s j).2-1)):=by
   intro l;induction l with
   |nil=>intro _;rw[List.find?_nil,List.find?_nil]
   |cons e l ih=>intro hl;rw[List.find?_cons,List.find?_cons,ih (fun x hx=>hl x (by simp[hx]))];have hp:=(aBq hn a (hl e (by simp))).2;have:ddM n (aV D) (eY n (kC (gP aA n (aV D) s j) e))=aV D (dS (gP aA n (aV D) s j).1 e.1 e.2) (dC (gP aA n (aV D) s j).2 e.1 e.2):=yJ hp.set;simp only[Function.comp_apply,this]
  exact k2 _ (fun e he=>he)
 rw[f,e1];rfl
theorem sW (e:4≤n)(hn:n≤12)(hD:fA aA n many D):aFh (oK aA n (2 ^ n)) (ddM n (aV D)) (n*2 ^ n):=by
 have c:0<2 ^ n:=aU5 n;have bd: ∀u v,u<n*2 ^ n→v∈oK aA n (2 ^ n) u→v/2 ^ n<n∧v%2 ^ n<2 ^ n:=fun u v hu hv=>aIm (aRp _) ((Nat.div_lt_iff_lt_mul c).2 hu) (Nat.mod_lt _ c) (pV.1 hv)
 refine⟨fun u v hu hv h0=> ?_,fun u v hu hv=> ?_⟩
 ·obtain⟨f,t,h1,h2,h3,h4,h5,h6,h7,h8⟩:=lN (aRp _) (Nat.mod_lt u c) (pV.1 hv);have hc:=(Nat.div_lt_iff_lt_mul c).2 hu;have hS:=Nat.mod_lt u c;have g:u/2 ^ n*MM+u%2 ^ n<NN:=by
   have:=iQ hn;show u/2 ^ n*4096+u%2 ^ n<49152;have h4:(MM:Nat)=4096:=rfl;omega
  obtain⟨k,hk⟩:=aTk h0;obtain⟨u1,u2⟩:=aIo e hn hD k _ g hk;have d:u%2 ^ n<MM:=aRo hS (iQ hn);have hE:rP aA n MM (u/2 ^ n*MM+u%2 ^ n) (v/2 ^ n*MM+v%2 ^ n):=⟨f,t,h1,h2,h3,by rw[iC d];exact h4,by rw[iC d];exact h5,by rw[mG d,iC d,h6,h7];rfl⟩
  obtain⟨a,b⟩:=aAt e hn hD u1 hE;exact⟨a.1 h0,(b h0).1⟩
 obtain⟨a,b⟩:=bd u v hu hv;have:=tB (s:=(v/2 ^ n,v%2 ^ n)) a b;unfold eY at this;rw[Nat.mul_comm (v/2 ^ n),aU1]at this;exact this
theorem aOe (b:4≤n)(hn:n≤12)(hD:fA aA n many D){v:Nat}(hv:v<n*2 ^ n)(a:zQ n (2 ^ n) v)(hm:gZ (v%2 ^ n)=many):ddM n (aV D) v=0↔v/2 ^ n=0:=by
 have hp:oS n many (v/2 ^ n,v%2 ^ n):=⟨a.car,a.set,a.occ,hm⟩
 obtain⟨k1,k2,k3⟩:=nY hn hp;have hz:=hD.zero _ (pA hn k1);have e:ddM n (aV D) v=D.getD ((v/2 ^ n)*MM+v%2 ^ n) 0:=rfl;rw[e];constructor
 ·intro h;have h1:=(jQ.1 (hz.1 h)).1;have h2:=Nat.div_eq_of_lt (aRo h1 (iQ hn));rwa[k2]at h2
 intro h;refine hz.2 (jQ.2 ?_);dsimp only;rw[h,Nat.zero_mul,aSs];have:=a.occ;rw[h]at this;exact⟨a.set,this,hm⟩
theorem walk_ok (hn:n≤12){s:Nat×Nat}(h:oS n many s): ∀(k v:Nat),oQ (oK aA n (2 ^ n)) [eY n s] k v→zQ n (2 ^ n) v∧gZ (v%2 ^ n)=many:=by
 intro k;induction k with
 |zero=>
  intro v hv;have:v=eY n s:=by simpa[oQ]using hv
  subst this;obtain⟨a,b⟩:=kY (n:=n) h.set;exact⟨⟨by rw[a];exact h.car,by rw[b];exact h.set,by rw[a,b];exact h.occ⟩,by rw[b];exact h.many⟩
 |succ k ih=>rintro v ⟨u,hu,hv⟩;obtain⟨a,b⟩:=ih u hu;exact⟨sY (aRp _) a (pV.1 hv),by rw[qO (aRp _) a.set (pV.1 hv)];exact b⟩
end
end
section
open Go.RowKit Go.Proofs.Tryz
theorem aH0 (S:Nat)(w:World)(hS:S≤1099511627776):U 171 #[S] w fun e w'=>e= .returned (I (gZ S))∧w=w':=by
 go_enter func171,ntmps171;go_wp2;go_loopw [0,3] (fun v i wr=> ∃(T c:Nat),v=I T∧i=I c∧c+gZ T=gZ S∧T≤S∧c+T≤2*S∧w=wr) (fun v _ _=>(intOf v).toNat)
 case atStart=>exact⟨S,0,rfl,rfl,by omega,aRp _,by omega,rfl⟩
 case round=>
  obtain⟨T,c,rfl,rfl,h1,h2,h3,rfl⟩:=hrel;by_cases h0:0<T
  ·have t1:(T:Int).tmod 2=((T%2:Nat):Int):=rfl;have t2:(T:Int).tdiv 2=((T/2:Nat):Int):=rfl;have hp:=sF T;have hw:IntKind.i64.wrap ((c:Int)+((T%2:Nat):Int))=(c:Int)+((T%2:Nat):Int):=aRr _ (by omega);have HP:=xQ hp;have H1:=xQ h1;clear hp h1;go_wp2;go_roundw
   case rel=>exact⟨T/2,c+T%2,by first|rfl|go_num,by first|rfl|go_num,by have:=HP.out;have:=H1.out;omega,by omega,by omega,by trivial⟩
   case measure=>simp[intOf];omega
  have hc:Hid (c=gZ S):=by show _=_;rw[←h1,show T=0 by omega];simp[gZ]
  clear h1;go_wp2;go_ret;exact⟨by rw[hc.out];rfl,rfl⟩
def aIh (fr:List Nat):Nat:=fr.foldl (fun a f=>a+2 ^ f) 0
theorem aPy: ∀(l:List Nat) (a:Nat),(∀f∈l,f<12)→l.foldl (fun a f=>a+2 ^ f) a≤a+l.length*4096:=by
 intro l;induction l with
 |nil=>intro a _;simp
 |cons f l ih=>intro a h;have h1:=ih (a+2 ^ f) (fun x hx=>h x (by simp[hx]));have h2:2 ^ f≤4096:=aRz (aS0 (by omega) (show f≤11 by have:=h f (by simp);omega)) (by decide);rw[List.foldl_cons,aSo,aT2];omega
theorem aPz {fr:List Nat}(h: ∀f∈fr,f<12)(k:Nat):(fr.take k).foldl (fun a f=>a+2 ^ f) 0≤k*4096:=by
 have h1:=aPy (fr.take k) 0 (fun f hf=>h f (aTi hf));have h2:(fr.take k).length≤k:=by rw[aSd];omega
 omega
theorem aO0 (xs:List Int):aIh (bP xs)=aN xs:=by
 unfold aIh bP aN;generalize xs.length=k;induction k with
 |zero=>rfl
 |succ k ih=>rw[aTc,aSl,List.foldl_append,ih,show jM (cX xs) (k+1)=jM (cX xs) k+(if cX xs k then 2 ^ k else 0)from rfl];cases h:cX xs k<;>simp[h]
theorem aG4 (aA aB:Int)(p:OA)(n cap:Nat)(fr:List Nat)(F:Nat)(w:World)(hF:Hid (fr.length=F))(j:F≤12)(d:Hid (∀x∈fr,x<12))
  (HF:xC 144 #[aH aA aB p n cap] w fun w' e w''=> ∃q c,e= .returned (.slice q F c)∧w''.ownsRow w' TI 1 (.slice q F c) F (ivs (bG fr))∧Ext w' w''):
  U 141 #[aH aA aB p n cap] w (O (I (aIh fr)) w):=by
 go_enter func141,ntmps141;go_wp2_with fail;refine(HF _ ((Mem.start w).c0 TH3 #[aA,aB,.slice p n cap]).ext).mono ?_;rintro e w1 ⟨q1,c1,rfl,g,h⟩;have M1:=(((Mem.start w).c0 TH3 #[aA,aB,.slice p n cap]).call h g)
 clear h g;go_wp2;go_loopw [3,5] (fun v i wr=> ∃(k T:Nat),k≤F∧i=I k∧v=I T∧T=(fr.take k).foldl (fun a f=>a+2 ^ f) 0∧w1=wr) (fun _ i _=>F-(intOf i).toNat)
 case atStart=>exact⟨0,0,aRv _,rfl,rfl,rfl,rfl⟩
 case round=>
  obtain⟨k,T,hk,rfl,rfl,hT,rfl⟩:=hrel;have HT:=xQ hT
  have m:T≤12*4096:=by have:=aPz d.out k;rw[hT];have:k≤12:=by omega
                       omega
  clear hT;by_cases hlt:k<F
  ·obtain⟨f,hf⟩: ∃f,fr[k]? =some f:=⟨_,aRq (by rw[hF.out];exact hlt)⟩
   have s:f<12:=d.out f (aRs hf);obtain⟨gf,rfl,o,r⟩:=M1.so 0;have cu:w1.cell? ⟨gf,k,none⟩=some (I f):=by have:=(M1.ow 0).cellAt k (by omega);rw[this];simp[ivs,bG,hf]
   have hn:=xQ (show(fr.take (k+1)).foldl (fun a f=>a+2 ^ f) 0=T+2 ^ f by rw[aY hf,List.foldl_append,←HT.out];rfl);clear hf;have i1:(0:Int)≤(k:Int):=by omega
   have i2:(k:Int)<(F:Int):=by omega
   obtain⟨P,hP⟩: ∃P:Nat,P=2 ^ f:=⟨_,rfl⟩
   have l:P≤2048:=by rw[hP];exact aRz (aS0 (by omega) (show f≤11 by omega)) (by decide)
   have t:(2:Int) ^ f=(P:Int):=by rw[hP];simp
   have u:IntKind.i64.wrap (P:Int)=(P:Int):=aRr _ (by omega);have y:IntKind.i64.wrap ((T:Int)+(P:Int))=(T:Int)+(P:Int):=aRr _ (by omega);rw[←hP]at hn;clear hP;go_wp2;go_roundw
   case rel=>exact⟨k+1,T+P,by omega,by go_num,by first|rfl|go_num,hn.out.symm,by trivial⟩
   case measure=>simp[intOf];omega
  obtain rfl:F=k:=by omega
  have b:Hid ((T:Int)=((aIh fr:Nat):Int)):=by show _=_;rw[HT.out,aRu (by rw[hF.out];omega)];rfl
  go_wp2;go_ret;exact⟨by rw[b.out];rfl,M1.ext⟩
theorem sV (aA aB:Int)(p:OA)(n cap:Nat)(xs:List Int)(w:World)(hS:Sl w p n cap 1 (ivs xs))(a:aO aA aB xs=true):
  U 144 #[aH aA aB p n cap] w fun e w'=> ∃q c,e= .returned (.slice q (bP xs).length c)∧w'.ownsRow w TI 1 (.slice q (bP xs).length c) (bP xs).length (ivs (bG (bP xs)))∧Ext w w':=by
 have:=aG1 aA aB p n cap xs w hS;rw[a,if_pos rfl,yE]at this;refine this.mono fun e w'' h=> ?_
 obtain⟨q,c,h1,h2,h3⟩:=h;rw[aSg]at h1 h2;exact⟨q,c,h1,h2,h3⟩
theorem aNz {aA aB:Int}{xs:List Int}(a:aO aA aB xs=true):(bP xs).length≤12:=by obtain⟨g1,g2,g3,g4,g5,g6,g7⟩:=cE (cQ a);unfold bP;exact aRz (aSt _ _) (by simp;omega)
theorem xK (aA aB:Int)(p:OA)(n cap:Nat)(xs:List Int)(w:World)(hS:Sl w p n cap 1 (ivs xs))(a:aO aA aB xs=true):
  U 141 #[aH aA aB p n cap] w (O (I (aN xs)) w):=by
 have hl:=hS.ilen;obtain⟨g1,g2,g3,g4,g5,g6,g7⟩:=cE (cQ a);rw[←aO0];exact aG4 aA aB p n cap (bP xs) _ w rfl (aNz a) (fun x hx=>by have:=(kK hx).1;omega) (fun w' hy=>sV aA aB p n cap xs w' (hS.ext hy) a)
abbrev TSS:TypeId:=22
theorem aRm:ElT prog 183 TSS 1:=
 ⟨underlying183,by
  obtain⟨i,hi,h0,h1,h2⟩:=info_parts (show(prog.info? TSS).map (fun i=>(i.zero,i.size,i.bytes))=some (some (.slice none 0 0),1,24) by kernel_rfl)
  exact⟨i,_,hi,h0,h1,by omega,rfl⟩,by omega⟩
def qR (aA:Int)(n k:Nat)(rows:List RowD):Prop:=rows.length=k∧ ∀(j:Nat) (r:RowD),rows[j]? =some r→r.n=(aS aA n j).length∧r.xs=ivs (bG (aS aA n j))
def aCv (aA:Int)(n:Nat)(w:World)(e:Ending)(w':World):Prop:=
 ∃q c rows,e= .returned (.slice q n c)∧qR aA n n rows∧aCw w.heap.size TSS TI 1 q c rows w'∧Ext w w'
theorem vK {aA:Int}{n k:Nat}{rows:List RowD}{q:OA}{c:Nat}(h:qR aA n k rows):qR aA n (k+1) (rows++ [⟨q,(aS aA n k).length,c,ivs (bG (aS aA n k))⟩]):=by
 refine⟨by rw[aRx,h.1];rfl,fun j r hj=> ?_⟩;by_cases hk:j<k
 ·rw[aS8 (by rw[h.1];exact hk)]at hj;exact h.2 j r hj
 have hl:=(aRt.1 hj).1;rw[aRx,h.1]at hl;simp at hl;obtain rfl:j=k:=by omega
 rw[aS3 (by rw[h.1];exact aRp _),h.1,aT0]at hj;simp at hj;subst hj;exact⟨rfl,by simp[ivs,bG]⟩
theorem aJq (aA aB:Int)(p:OA)(n cap:Nat)(w:World)(hn:n≤12)
  (HC:Hid (∀(k:Nat),k<n→ ∀w',Ext w w'→U 207 #[aH aA aB p n cap,k] w' (bA (bG (aS aA n k)) w'))):
  U 172 #[aH aA aB p n cap] w (aCv aA n w):=by
 go_enter func172,ntmps172;have ME:=(((Mem.start w).c0 TH3 #[aA,aB,.slice p n cap]).made0 TSS 1 (w.heap.size+1) (by simp))
 go_wp2;go_loopw [3,4] (fun v i wr=> ∃(k:Nat) (q:OA) (c:Nat) (rows:List RowD),k≤n∧i=I k∧v= .slice q k c∧qR aA n k rows∧Mem w wr [iL w TI 1 rows,aI w TSS 1 (q) (k) (c) (rows.map RowD.v),aJ w w TH3 #[aA,aB,.slice p n cap]]) (fun _ i _=>n-(intOf i).toNat)
 case atStart=>exact⟨0,some ⟨w.heap.size+1,0,none⟩,0,[],aRv _,rfl,rfl,⟨rfl,fun j r h=>by simp at h⟩,ME.rows0 rfl⟩
 case round=>
  clear ME;obtain⟨k,q,c,rows,hk,rfl,rfl,a,hM⟩:=hrel;have HM:=hM;have HR:=xQ a;clear hM a;obtain⟨c0,c1,c2⟩:=(HM.bk 2).tri;by_cases hlt:k<n
  ·go_wp2_with fail;clear c0 c1 c2;refine(HC k hlt _ HM.ext).mono ?_;rintro e w2 ⟨q2,c2,rfl,o2,b⟩;rw[aSg]at o2⊢;have M2:=(HM.call b o2)
   have M3:=(M2.rowsAdd rfl)
   have d:=xQ (vK (q:=q2) (c:=c2) HR.out);clear o2 b M2 HM HR;go_wp2_with (at_builtin;go_loud (refine cG aRm rfl _ _ rfl (M3.adv ((Ext.refl _).alloc (.cells #[.slice q2 (aS aA n k).length c2] TSS))) 1 rfl rfl [.slice q2 (aS aA n k).length c2] rfl (eJ _ _ _ 1 1 _ (by first|rfl|simp) (by first|rfl|simp) (by simp[maxLen])) (fun u hu=>by obtain rfl:=aSc.1 hu;rfl) (by omega) ?_;intro q7 c7 w6 M6));have M7:=(show Mem w w6 [iL w TI 1 (rows++ [⟨q2,(aS aA n k).length,c2,ivs (bG (aS aA n k))⟩]),aI w TSS 1 q7 (k+1) c7 ((rows++ [⟨q2,(aS aA n k).length,c2,ivs (bG (aS aA n k))⟩]:List RowD).map RowD.v),aJ w w TH3 #[aA,aB,.slice p n cap]]from by rw[aSq];exact M6)
   clear M6 M3;go_wp2;go_roundw
   case rel=>exact⟨k+1,q7,c7,_,by omega,by go_num,rfl,d.out,M7⟩
   case measure=>simp[intOf];omega
  obtain rfl:n=k:=by omega
  go_wp2;go_ret;have hl:=HR.out.1;have h1:=HM.ow 1;refine⟨q,c,rows,rfl,HR.out,⟨?_,fun r hr=>HM.ok (iL w TI 1 rows) (by simp) r hr⟩,HM.ext⟩;rw[hl];exact h1
theorem aBw (aA aB:Int)(p:OA)(n cap:Nat)(xs:List Int)(w:World)(hS:Sl w p n cap 1 (ivs xs))(a:aO aA aB xs=true):
  U 172 #[aH aA aB p n cap] w (aCv aA n w):=by
 have hl:=hS.ilen;obtain⟨g1,g2,g3,g4,g5,g6,g7⟩:=cE (cQ a)
 exact aJq aA aB p n cap w (by omega) (fun k hk w' hx=>by
  have:=aG8 aA aB k p n cap xs w' (hS.ext hx) a (by omega) (by omega)
  rwa[lQ]at this)
end
section
open Go.RowKit
theorem aIt (S h:Nat):S.testBit h=decide (S/2 ^ h%2=1):=by exact Nat.testBit_eq_decide_div_mod_eq
def lD (k:Nat):List Int:=List.replicate k (-1)++List.replicate (NN-k) 0
theorem aGw {k:Nat}(h:k<NN):(lD k).set k (-1)=lD (k+1):=by
 unfold lD;obtain⟨m,hm⟩: ∃m,NN-k=m+1:=⟨NN-k-1,by omega⟩
 rw[hm,show NN-(k+1)=m by omega,aT9];rw[aT8 _ _ (by rw[List.length_replicate];exact aRp _),List.length_replicate,aT0,aS1,List.replicate_succ',aSh];rfl
theorem aGx {k:Nat}(h:k<NN):(lD k)[k]? =some 0:=by unfold lD;rw[aS3 (by rw[List.length_replicate];exact aRp _),List.length_replicate,aT0];rw[aTe,if_pos (by omega)]
def fE (many m:Nat):List Nat:=(List.range m).filter (fun s=> !s.testBit 0&&decide (gZ s=many))
theorem aGy (many:Nat):lD NN=jB NN (fE many 0):=by unfold lD jB fE;rw[aT0,List.replicate_zero,aSe];rfl
theorem aD5 {many m:Nat}(hm:m%2=0):fE many (m+2)=fE many m++(if gZ m=many then [m]else []):=by
 unfold fE;rw[aTc,aTc,aSl,aSl,aSh];have h0:m.testBit 0=false:=by rw[aTq];simp;omega
 have h1:(m+1).testBit 0=true:=by rw[aTq];simp;omega
 congr 1;by_cases hp:gZ m=many
 ·simp only[List.filter_cons,List.filter_nil,h0,h1];simp[hp]
 simp only[List.filter_cons,List.filter_nil,h0,h1];simp[hp]
theorem aD6 (many m:Nat):(fE many m).length≤m:=by unfold fE;exact aRz (aSt _ _) (by simp)
def fB (aA:Int)(n M s h:Nat):List Nat:=if(s%M).testBit h then((aS aA n h).filter (fun f=> !(s%M).testBit f)).map (fun f=>gM M (s/M) (s%M) f h)else []
def jD (aA:Int)(n M s h:Nat):List Nat:=(List.range h).flatMap (fB aA n M s)
def kA (aA:Int)(n M s h j:Nat):List Nat:=(((aS aA n h).take j).filter (fun f=> !(s%M).testBit f)).map (fun f=>gM M (s/M) (s%M) f h)
theorem tW (aA:Int)(n M s:Nat):jD aA n M s n=yQ aA n M s:=rfl
theorem xA (aA:Int)(n M s h:Nat):jD aA n M s (h+1)=jD aA n M s h++fB aA n M s h:=by unfold jD;rw[aTc,aSk];simp
theorem aRi {aA:Int}{n M s h:Nat}(hb:(s%M).testBit h=false):fB aA n M s h= []:=by unfold fB;rw[hb];rfl
theorem aO3 {aA:Int}{n M s h:Nat}(hb:(s%M).testBit h=true):fB aA n M s h=kA aA n M s h (aS aA n h).length:=by unfold fB kA;rw[if_pos hb,aTf]
theorem aGm (aA:Int)(n M s h:Nat):kA aA n M s h 0= []:=rfl
theorem aMt {aA:Int}{n M s h j f:Nat}(hj:(aS aA n h)[j]? =some f) (hb:(s%M).testBit f=true):kA aA n M s h (j+1)=kA aA n M s h j:=by unfold kA;rw[aY hj,aSl];simp[hb]
theorem aK2 {aA:Int}{n M s h j f:Nat}(hj:(aS aA n h)[j]? =some f) (hb:(s%M).testBit f=false):kA aA n M s h (j+1)=kA aA n M s h j++ [gM M (s/M) (s%M) f h]:=by unfold kA;rw[aY hj,aSl];simp[hb]
theorem aGn {aA:Int}{n M s h j:Nat}(hh:h<n)(hb:(s%M).testBit h=true): ∀v∈jD aA n M s h++kA aA n M s h j,v∈yQ aA n M s:=by
 intro v hv;rw[←tW];unfold jD;rw[List.mem_flatMap];rcases aSa.1 hv with hv|hv
 ·unfold jD at hv;obtain⟨a,ha,hm⟩:=List.mem_flatMap.1 hv;exact⟨a,aS7.2 (by have:=aS7.1 ha;omega),hm⟩
 refine⟨h,aS7.2 hh,?_⟩;rw[aO3 hb];unfold kA at hv⊢;obtain⟨f,hf,rfl⟩:=List.mem_map.1 hv;obtain⟨h1,h2⟩:=aSi.1 hf;exact List.mem_map.2 ⟨f,aSi.2 ⟨by rw[aTf];exact aTi h1,h2⟩,rfl⟩
theorem aK3 {aA:Int}{n M s h:Nat}(hh:h≤n): ∀v∈jD aA n M s h,v∈yQ aA n M s:=by intro v hv;rw[←tW];unfold jD at hv⊢;obtain⟨a,ha,hm⟩:=List.mem_flatMap.1 hv;exact List.mem_flatMap.2 ⟨a,aS7.2 (by have:=aS7.1 ha;omega),hm⟩
theorem aDy {adj:Nat→List Nat}{src:List Nat}{N k u:Nat}{D:List Int}{Q:List Nat}(h:Inv adj src N k (D,Q))(hu:Q[k]? =some u) (ha: ∀v∈adj u,v<N) {vs:List Nat} (hv: ∀v∈vs,v∈adj u) {D2:List Int} {Q2:List Nat} (he:(D2,Q2)=bQ (D.getD u 0+1) (D,Q) vs):
  Mid adj src N k u vs (D,Q) (D2,Q2):=by
 rw[he];have:=Mid.many (aRs hu) vs [] (D,Q) (h.mid hu) (fun v hv'=>⟨hv v hv',ha v (hv v hv')⟩);simpa using this
end
end Go.Proofs.YtbgkcehffiogcacGreatDoor
