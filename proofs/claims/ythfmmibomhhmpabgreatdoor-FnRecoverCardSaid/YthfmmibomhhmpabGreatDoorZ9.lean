/- Lemmas (@packed). -/
import Derived.Deep.OwnRows
import Derived.Test.YthfmmibomhhmpabGreatDoorZ8
namespace Go.Proofs.YthfmmibomhhmpabGreatDoor
open Go.Proofs.Tryz
set_option linter.all false
set_option maxHeartbeats 16000000
set_option maxRecDepth 100000
variable{id:Int}{B A B0 A0 ys D:List Int}{Q src Q0:List Nat}{k N d c u f j:Nat}(S:Nat)(aA aB:Int)(p:OA)(n M s h a:Nat)(xs:List Int)(w:World)
structure rS (adj:Nat→List Nat) (D:Nat→Int) (g:Nat→Nat) (d start:Nat):Prop where
 zero:g 0=start
 dist: ∀j,j≤d→D (g j)=d-j
 next: ∀j,j<d→(adj (g j)).find? (fun v=>decide (D v=D (g j)-1))=some (g (j+1))
structure aJt (adj:Nat→List Nat) (D:Nat→Int) (N:Nat):Prop where
 edge: ∀u v,u<N→v∈adj u→0≤D u→0≤D v∧D u≤D v+1
 bd: ∀u v,u<N→v∈adj u→v<N
structure Fwd (adj:Nat→List Nat) (D:Nat→Int) (g:Nat→Nat) (d N start k:Nat) (B A:List Int) (Q:List Nat):Prop where
 inv:Inv adj [start] N k (A,Q)
 blen:B.length=N
 bmem: ∀v,v<N→(0≤B.getD v 0↔v∈Q)
 ngoal: ∀(i u:Nat),i<k→Q[i]? =some u→D u≠0
 tri: ∀v∈Q,0≤D v∧(d:Int)≤A.getD v 0+D v
 chain: ∀j:Nat,j<d→g (j+1)∈Q→A.getD (g (j+1)) 0=j+1→B.getD (g (j+1)) 0=g j
 tight: ∀(i v:Nat),Q[i]? =some v→A.getD v 0+D v=d→ ∃i',i'≤i∧Q[i']? =some (g (A.getD v 0).toNat)
structure FMid (adj:Nat→List Nat) (D:Nat→Int) (g:Nat→Nat) (d N start k u:Nat) (ws:List Nat) (A0:List Int) (Q0:List Nat) (B A:List Int) (Q:List Nat):Prop where
 mid:Mid adj [start] N k u ws (A0,Q0) (A,Q)
 blen:B.length=N
 bmem: ∀v,v<N→(0≤B.getD v 0↔v∈Q)
 tri: ∀v∈Q,0≤D v∧(d:Int)≤A.getD v 0+D v
 chain: ∀j:Nat,j<d→g (j+1)∈Q→A.getD (g (j+1)) 0=j+1→B.getD (g (j+1)) 0=g j
 tight: ∀(i v:Nat),Q[i]? =some v→A.getD v 0+D v=d→ ∃i',i'≤i∧Q[i']? =some (g (A.getD v 0).toNat)
theorem FMid.step {adj:Nat→List Nat}{D:Nat→Int}{g:Nat→Nat}{w:Nat}{ws af:List Nat}(hG:rS adj D g d c)(hD:aJt adj D N)(h0:Fwd adj D g d N c k B0 A0 Q0)(hu:Q0[k]? =some u)(h:FMid adj D g d N c k u ws A0 Q0 B A Q)(p:adj u=ws++w::af):
  ∃B' A' Q',fT (u:Int) (B,Q) w=(B',Q')∧fT (A0.getD u 0+1) (A,Q) w=(A',Q')∧FMid adj D g d N c k u (ws++ [w]) A0 Q0 B' A' Q':=by
 have o:u∈Q0:=aW1 hu;have s:u<N:=h0.inv.bd u o;have hw:w∈adj u:=by rw[p];simp
 have n:w<N:=hD.bd u w s hw;have q:A0.getD u 0=A.getD u 0:=(h.mid.same u o).symm;have m:=h.mid.step o hw n q;obtain⟨r,hr⟩:=h.mid.pre;dsimp only at hr;have ab:u∈Q:=by rw[hr];exact aX9 _ o
 have y:Q[k]? =some u:=by have hk:k<Q0.length:=(aW3.1 hu).1;rw[hr,aWl hk];exact hu
 have ap:0≤A.getD u 0:=(h.mid.mem u s).2 ab;by_cases hc:w∈Q
 ·have hB: ¬B.getD w 0<0:=by have:=(h.bmem w n).2 hc;omega
  have hA: ¬A.getD w 0<0:=by have:=(h.mid.mem w n).2 hc;dsimp only at this;omega
  refine⟨B,A,Q,by unfold fT;rw[if_neg hB],by unfold fT;rw[if_neg hA],?_⟩;have e:fT (A0.getD u 0+1) (A,Q) w=(A,Q):=by unfold fT;rw[if_neg hA]
  rw[e]at m;exact⟨m,h.blen,h.bmem,h.tri,h.chain,h.tight⟩
 have hB:B.getD w 0<0:=by
  by_cases hh:B.getD w 0<0
  ·exact hh
  exact absurd ((h.bmem w n).1 (by omega)) hc
 have hA:A.getD w 0<0:=by
  by_cases hh:A.getD w 0<0
  ·exact hh
  exact absurd ((h.mid.mem w n).1 (by dsimp only;omega)) hc
 have aa: ∀v∈Q,w≠v:=fun v hv e=>hc (by rw[e];exact hv)
 refine⟨B.set w u,A.set w (A0.getD u 0+1),Q++ [w],by unfold fT;rw[if_pos hB],by unfold fT;rw[if_pos hA],?_⟩;have e:fT (A0.getD u 0+1) (A,Q) w=(A.set w (A0.getD u 0+1),Q++ [w]):=by unfold fT;rw[if_pos hA]
 rw[e]at m;have al:w<B.length:=by rw[h.blen];exact n
 have ak:w<A.length:=by have:=h.mid.len;dsimp only at this;omega
 have sB:(B.set w (u:Int)).getD w 0=u:=cX al;have sA:(A.set w (A0.getD u 0+1)).getD w 0=A.getD u 0+1:=by rw[cX ak,q]
 obtain⟨am,aq⟩:=h.tri u ab;obtain⟨e1,e2⟩:=hD.edge u w s hw am
 -- if w is tight, then so is u; and the step that is first is there
 have ae:A.getD u 0+1+D w=d→ ∃i',i'≤k∧Q[i']? =some (g (A.getD u 0).toNat)∧(i'<k→g ((A.getD u 0).toNat+1)∈Q)∧(i'=k→u=g (A.getD u 0).toNat):=by
  intro ht;obtain⟨i',l,hq⟩:=h.tight k u y (by omega);refine⟨i',l,hq,fun hlt=> ?_,fun he=> ?_⟩
  ·have hk:k<Q0.length:=(aW3.1 hu).1;have ai:Q0[i']? =some (g (A.getD u 0).toNat):=by rw[hr,aWl (by omega)]at hq;exact hq
   have f:(A.getD u 0).toNat<d:=by omega
   have z:g ((A.getD u 0).toNat+1)∈adj (g (A.getD u 0).toNat):=aXw (hG.next _ f);have:=(h0.inv.done i' _ hlt ai _ z).1;rw[hr];exact aX9 _ this
  subst he;rw[y]at hq;injection hq
 have first:A.getD u 0+1+D w=d→g ((A.getD u 0).toNat+1)∈Q∨g ((A.getD u 0).toNat+1)=w:=by
  intro ht;obtain⟨i',l,hq,k1,k2⟩:=ae ht;by_cases he:i'=k
  ·have ad:=k2 he;have f:(A.getD u 0).toNat<d:=by omega
   have hn:=hG.next _ f;rw[←ad,p]at hn;have an:D u=d-(A.getD u 0).toNat:=by have:=hG.dist _ (Nat.le_of_lt f);rw[←ad]at this;exact this
   rw[List.find?_append]at hn;cases hf:ws.find? (fun v=>decide (D v=D u-1))with
   |some x=>rw[hf,Option.some_or]at hn;injection hn with hn;left;rw[←hn];exact h.mid.seen x (aXw hf)
   |none=>rw[hf]at hn;right;rw[Option.none_or,List.find?_cons_of_pos (by simp;omega)]at hn;injection hn with hn;exact hn.symm
  exact .inl (k1 (by omega))
 refine⟨m,by simp[h.blen],?_,?_,?_,?_⟩
 ·intro v hv;by_cases ev:w=v
  ·subst ev;rw[sB];exact⟨fun _=>by simp,fun _=>by omega⟩
  rw[cF ev,h.bmem v hv];simp;intro e2;exact absurd e2.symm ev
 ·intro v hv;rcases aWh.1 hv with hv|hv
  ·rw[cF (aa v hv)];exact h.tri v hv
  simp at hv;subst hv;rw[sA];exact⟨e1,by omega⟩
 ·intro j hj hm ha;by_cases ev:w=g (j+1)
  ·rw[←ev]at ha⊢;rw[sA]at ha;rw[sB];have ao:D w=d-(j+1:Nat):=by rw[ev];exact hG.dist (j+1) (by omega)
   have ht:A.getD u 0+1+D w=d:=by omega
   obtain⟨i',l,hq,k1,k2⟩:=ae ht;have t:(A.getD u 0).toNat=j:=by omega
   by_cases he:i'=k
   ·have:=k2 he;rw[t]at this;rw[this]
   have:=k1 (by omega);rw[t,←ev]at this;exact absurd this hc
  rcases aWh.1 hm with hm|hm
  ·rw[cF ev]at ha⊢;exact h.chain j hj hm ha
  simp at hm;exact absurd hm.symm ev
 intro i v hi ht;by_cases hiQ:i<Q.length
 ·rw[aWl hiQ]at hi;have aj:v∈Q:=aW1 hi;rw[cF (aa v aj)]at ht⊢;obtain⟨i',a,b⟩:=h.tight i v hi ht;exact⟨i',a,by rw[aWl (by omega)];exact b⟩
 have ah:i<(Q++ [w]).length:=(aW3.1 hi).1;have ag:i=Q.length:=by simp at ah;omega
 subst ag;simp at hi;subst hi;rw[sA]at ht⊢;have e3:(A.getD u 0+1).toNat=(A.getD u 0).toNat+1:=by omega
 rw[e3];rcases first ht with hm|hm
 ·obtain⟨i',l,ei⟩:=aXi hm;exact⟨i',by omega,by rw[aWl l,aW0 l,ei]⟩
 exact⟨Q.length,aVz _,by rw[hm,aWx (aVz _)];simp⟩
theorem Fwd.mid {adj:Nat→List Nat}{D:Nat→Int}{g:Nat→Nat}{a:Nat}(h:Fwd adj D g d N a k B A Q)(hu:Q[k]? =some u):FMid adj D g d N a k u [] A Q B A Q:=
 ⟨h.inv.mid hu,h.blen,h.bmem,h.tri,h.chain,h.tight⟩
theorem FMid.many {adj:Nat→List Nat}{D:Nat→Int}{g:Nat→Nat}{a:Nat}(hG:rS adj D g d a)(hD:aJt adj D N)(h0:Fwd adj D g d N a k B0 A0 Q0)(hu:Q0[k]? =some u):
  ∀(vs ws:List Nat) (B A:List Int) (Q:List Nat),FMid adj D g d N a k u ws A0 Q0 B A Q→adj u=ws++vs→(bY (A0.getD u 0+1) (A,Q) vs).2=(bY (u:Int) (B,Q) vs).2∧FMid adj D g d N a k u (ws++vs) A0 Q0 (bY (u:Int) (B,Q) vs).1 (bY (A0.getD u 0+1) (A,Q) vs).1 (bY (u:Int) (B,Q) vs).2:=by
 intro vs;induction vs with
 |nil=>intro ws B A Q h _;exact⟨rfl,by simpa[bY]using h⟩
 |cons v vs ih=>
  intro ws B A Q h e;obtain⟨B',A',Q',e1,e2,h1⟩:=h.step hG hD h0 hu e;have e3:bY (u:Int) (B,Q) (v::vs)=bY (u:Int) (B',Q') vs:=by show vs.foldl _ (fT (u:Int) (B,Q) v)=_;rw[e1];rfl
  have e4:bY (A0.getD u 0+1) (A,Q) (v::vs)=bY (A0.getD u 0+1) (A',Q') vs:=by show vs.foldl _ (fT (A0.getD u 0+1) (A,Q) v)=_;rw[e2];rfl
  have:=ih (ws++ [v]) B' A' Q' h1 (by rw[e];simp);rw[e3,e4];simpa using this
theorem Fwd.step {adj:Nat→List Nat}{D:Nat→Int}{g:Nat→Nat}{a:Nat}(hG:rS adj D g d a)(hD:aJt adj D N)(h:Fwd adj D g d N a k B A Q)(hu:Q[k]? =some u)(hg:D u≠0):
  ∃A',Fwd adj D g d N a (k+1) (bY (u:Int) (B,Q) (adj u)).1 A' (bY (u:Int) (B,Q) (adj u)).2:=by
 have b:=h.inv.bd u (aW1 hu);obtain⟨e,m⟩:=FMid.many hG hD h hu (adj u) [] B A Q (h.mid hu) rfl;have hi:=h.inv.step hu (fun v hv=>hD.bd u v b hv);have e2:bY (A.getD u 0+1) (A,Q) (adj u)=((bY (A.getD u 0+1) (A,Q) (adj u)).1,(bY (u:Int) (B,Q) (adj u)).2):=by rw[←e]
 dsimp only at hi;rw[e2]at hi;obtain⟨r,hr⟩:=m.mid.pre;dsimp only at hr;refine⟨_,hi,m.blen,m.bmem,?_,m.tri,m.chain,m.tight⟩;intro i v c hv;have hk:k<Q.length:=(aW3.1 hu).1;by_cases he:i=k
 ·subst he;rw[hr,aWl hk,hu]at hv;injection hv with hv;rw[←hv];exact hg
 rw[hr,aWl (by omega)]at hv;exact h.ngoal i v (by omega) hv
theorem Fwd.way {adj:Nat→List Nat}{D:Nat→Int}{g:Nat→Nat}(hG:rS adj D g d c)(h:Fwd adj D g d N c k B A Q)(hp: ∀(i v:Nat),Q[i]? =some v→A.getD v 0<d→i<k): ∀j,j≤d→g j∈Q∧A.getD (g j) 0=j:=by
 intro j;induction j with
 |zero=>intro _;obtain⟨a,b⟩:=h.inv.src c (by simp);rw[hG.zero];exact⟨a,by simpa using b⟩
 |succ j ih=>
  intro hj;obtain⟨a,b⟩:=ih (by omega);obtain⟨i,hi,e⟩:=aXi a;have hq:Q[i]? =some (g j):=by rw[aW0 hi,e]
  have f:=hp i (g j) hq (by omega);have hm:g (j+1)∈adj (g j):=aXw (hG.next j (by omega));obtain⟨c1,c2⟩:=h.inv.done i (g j) f hq _ hm;have t:=(h.tri (g (j+1)) c1).2;have dd:=hG.dist (j+1) hj;dsimp only at c2;exact⟨c1,by omega⟩
theorem Fwd.goal {adj:Nat→List Nat}{D:Nat→Int}{g:Nat→Nat}(hG:rS adj D g d f)(h:Fwd adj D g d N f k B A Q)(hu:Q[k]? =some u)(hz:D u=0):
  u=g d∧ ∀j,j<d→B.getD (g (j+1)) 0=g j:=by
 have o:u∈Q:=aW1 hu;have hk:k<Q.length:=(aW3.1 hu).1;have n:Q[k]=u:=(aW3.1 hu).2;have t:=(h.tri u o).2;have m:=List.pairwise_iff_getElem.1 h.inv.mono;have hp: ∀(i v:Nat),Q[i]? =some v→A.getD v 0<A.getD u 0→i<k:=by
  intro i v hv hlt;obtain⟨hi,e⟩:=aW3.1 hv;by_cases hik:i<k
  ·exact hik
  exfalso;by_cases he:i=k
  ·subst he;rw[n]at e;subst e;omega
  have:=m k i hk hi (by omega);dsimp only at this;rw[n,e]at this;omega
 have hw:=h.way hG (fun i v hv hlt=>hp i v hv (by omega));obtain⟨w1,w2⟩:=hw d (aVz _);have q:=hG.dist d (aVz _);have l:D (g d)=0:=by omega
 obtain⟨i,hi,e⟩:=aXi w1;have hq:Q[i]? =some (g d):=by rw[aW0 hi,e]
 have p:A.getD u 0=d:=by
  by_cases hh:A.getD u 0=d
  ·exact hh
  exfalso;have:=hp i (g d) hq (by omega);exact h.ngoal i _ this hq l
 obtain⟨i',r,c⟩:=h.tight k u hu (by omega);have e1:(A.getD u 0).toNat=d:=by omega
 rw[e1]at c;have hik:i'=k:=by
  by_cases hh:i'=k
  ·exact hh
  exact absurd l (h.ngoal i' _ (by omega) c)
 subst hik;rw[hu]at c;injection c with c;refine⟨c,fun j hj=> ?_⟩;obtain⟨a,b⟩:=hw (j+1) (by omega);exact h.chain j hj a (by omega)
theorem Fwd.more {adj:Nat→List Nat}{D:Nat→Int}{g:Nat→Nat}(hG:rS adj D g d c)(h:Fwd adj D g d N c k B A Q):k<Q.length:=by
 by_cases hk:k<Q.length
 ·exact hk
 exfalso;have hp: ∀(i v:Nat),Q[i]? =some v→i<k:=fun i v hv=>by have:=(aW3.1 hv).1;omega
 obtain⟨a,b⟩:=h.way hG (fun i v hv _=>hp i v hv) d (aVz _);obtain⟨i,hi,e⟩:=aXi a;have hq:Q[i]? =some (g d):=by rw[aW0 hi,e]
 have f:=hG.dist d (aVz _);exact h.ngoal i _ (hp i _ hq) hq (by omega)
theorem Fwd.start {adj:Nat→List Nat}{D:Nat→Int}{g:Nat→Nat}{a:Nat}(hG:rS adj D g d a)(hs:a<N):
  Fwd adj D g d N a 0 ((List.replicate N (-1)).set a (a:Int)) ((List.replicate N (-1)).set a 0) [a]:=by
 have hl:a<(List.replicate N (-1:Int)).length:=by simpa using hs
 have b: ∀(x:Int) v,v<N→a≠v→((List.replicate N (-1:Int)).set a x).getD v 0= -1:=by intro x v hv e;rw[cF e];simp[List.getD,hv]
 refine⟨⟨by simp,by simpa using hs,?_,by simp,by simp,?_,?_,?_,fun i u hi=>by omega⟩,by simp,?_,fun i u hi=>by omega,?_,?_,?_⟩
 ·intro v hv;dsimp only;by_cases e:a=v
  ·subst e;rw[cX hl];simp
  rw[b 0 v hv e];simp;exact fun h=>e h.symm
 ·intro u hu v hv;simp at hu hv;subst hu hv;omega
 ·intro v hv;simp at hv;subst hv;dsimp only;rw[cX hl];simp[rZ]
 ·intro v hv;simp at hv;subst hv;exact⟨by simp,cX hl⟩
 ·intro v hv;by_cases e:a=v
  ·subst e;rw[cX hl];simp
  rw[b _ v hv e];simp;exact fun h=>e h.symm
 ·intro v hv;simp at hv;subst hv;have:=hG.dist 0 (aW6 _);rw[hG.zero]at this;rw[cX hl];omega
 ·intro j hj hm ha;simp at hm;rw[hm,cX hl]at ha;omega
 intro i v hi ht;have c:i=0:=by have:=(aW3.1 hi).1;simp at this;omega
 subst c;simp at hi;subst hi;rw[cX hl];exact⟨0,aVz _,by simp[hG.zero]⟩
section
open Go.RowKit
def aH4 (adj:Nat→List Nat):Nat→Nat→List Int×List Nat→List Int×List Nat
 |0,_,s=>s
 |m+1,k,s=>match s.2[k]? with
  |none=>s
  |some u=>aH4 adj m (k+1) (bY (s.1.getD u 0+1) s (adj u))
theorem aJo {adj:Nat→List Nat}(ha: ∀u v,u<N→v∈adj u→v<N): ∀(m k:Nat) (s:List Int×List Nat),Inv adj src N k s→N≤k+m→yD adj src N (aH4 adj m k s).1:=by
 intro m;induction m with
 |zero=>intro k s hI hk;exact hI.dist (aW8 hI.qlen (by omega))
 |succ m ih=>
  intro k s hI hk;rw[aH4];cases hu:s.2[k]? with
  |none=>exact hI.dist (by rw[List.getElem?_eq_none_iff]at hu;exact hu)
  |some u=>exact ih (k+1) _ (hI.step hu (fun v hv=>ha _ v (hI.bd _ (aW1 hu)) hv)) (by omega)
def jL (aA:Int)(n many:Nat):List Int:=(aH4 (aCv aA n MM) NN 0 (kY NN (aB1 n many),aB1 n many)).1
theorem oK {aA:Int}{n many:Nat}(hn:n≤12):gO aA n many (jL aA n many):=
 aJo (yB hn) _ _ _ (Inv.begin (aMn hn) aB0) (by omega)
abbrev lH (e:Nat×Nat):Sl2:=((e.1:Int),(e.2:Int))
def sD (aA:Int)(n:Nat)(dd:Nat→Nat→Int)(s:Nat×Nat)(j:Nat):List Sl2:=(List.range j).map (fun i=>lH (jK aA n dd s i))
theorem sF (dd:Nat→Nat→Int)(s:Nat×Nat)(j:Nat):(sD aA n dd s j).length=j:=by simp[sD]
theorem aDs (dd:Nat→Nat→Int)(s:Nat×Nat)(j:Nat):sD aA n dd s (j+1)=sD aA n dd s j++ [lH (jK aA n dd s j)]:=by simp[sD,aXj]
def ddH (aA:Int)(xs:List Int):Nat→Nat→Int:=bD (jL aA xs.length (bX xs).length)
def eO (aA:Int)(xs:List Int)(c:Nat):Option (List Sl2):=
 if ddH aA xs c (aP xs)<0 then none else some (sD aA xs.length (ddH aA xs) (c,aP xs) (ddH aA xs c (aP xs)).toNat)
theorem nP {xs:List Int}(hc:xs[c]? =some id)(h0:id≠0):sE xs.length (bX xs).length (c,aP xs):=by obtain⟨hl,he⟩:=aW3.1 hc;refine⟨hl,rJ xs,?_,aGw xs⟩;show(aP xs).testBit c=false;rw[fV,iZ hl,aW7,hc];simpa using h0
section
variable {aA aB:Int} {xs:List Int} {c:Nat} {id:Int} {D:List Int}
theorem aPu (h:aO aA aB xs=true)(hc:xs[c]? =some id) (h0:id≠0) (hD:gO aA xs.length (bX xs).length D) {d:Nat} (hd:bD D c (aP xs)=d):
  ∀j,j≤d→ ∃ys,bJ aA aB xs (sD aA xs.length (bD D) (c,aP xs) j)=(ys,j)∧aO aA aB ys=true∧ys.length=xs.length∧aP ys=(gP aA xs.length (bD D) (c,aP xs) j).2∧ys[(gP aA xs.length (bD D) (c,aP xs) j).1]? =some id:=by
 obtain⟨b1,b2,b3,b4,b5,b6,b7⟩:=cQ (dH h);have hp:=nP hc h0;intro j;induction j with
 |zero=>intro _;exact⟨xs,rfl,h,rfl,rfl,hc⟩
 |succ j ih=>
  intro hj;obtain⟨ys,h1,h2,h3,h4,h5⟩:=ih (by omega);obtain⟨e1,e2,e3⟩:=mZ b5 b6 hD hp hd (show j<d by omega);have hw:=aDs aA xs.length (bD D) (c,aP xs) j;generalize jK aA xs.length (bD D) (c,aP xs) j=e at*;obtain⟨f,t⟩:=e;rw[←h4,←h3]at e2;obtain⟨m1,m2,m3,m4⟩:=zG h2 e2;refine⟨bQ aA aB ys (f:Int) (t:Int),?_,kS _ _ h2,by rw[dO,h3],?_,?_⟩
  ·rw[hw,uY _ _ _ (by rw[h1,sF]),h1,sF];dsimp only;rw[if_pos m1]
  ·rw[m3,e3,h4];rfl
  rw[e3];exact m4 _ _ h5 h0
theorem zI (h:aO aA aB xs=true)(hc:xs[c]? =some id) (h0:id≠0) (hD:gO aA xs.length (bX xs).length D):(bX xs≠ []→0≤bD D c (aP xs)∧bD D c (aP xs)≤60)∧(c=0→bD D c (aP xs)=0)∧(bX xs= []→c≠0→bD D c (aP xs)<0):=by
 obtain⟨b1,b2,b3,b4,b5,b6,b7⟩:=cQ (dH h);have hp:=nP hc h0;obtain⟨k1,k2,k3⟩:=qV b6 hp;refine⟨fun hf=> ?_,fun hc0=> ?_,fun hf hc0=> ?_⟩
 ·obtain⟨u,hu⟩:=List.exists_mem_of_ne_nil _ hf;obtain⟨u1,u2⟩:=mL hu;have hb:(aP xs).testBit u=true:=by rw[fV,iZ u1,u2];rfl
  have hg:=mJ h;obtain⟨a,b⟩:=aSr hg b5 b6 hD _ _ u (aVz _) k1 (by rw[k3];exact hp.many) (by rw[k3];exact hb);rw[k2]at b;exact⟨a,Int.le_trans b (by have:=(aBl hg hp.car u1).1;exact_mod_cast this)⟩
 ·subst hc0;refine(hD.zero _ (sP b6 k1)).2 (lK.2 ?_);rw[Nat.zero_mul,aWz];exact⟨hp.set,hp.occ,hp.many⟩
 rcases Int.lt_or_le (bD D c (aP xs)) 0 with f|d
 ·exact f
 exfalso;rcases Int.lt_or_eq_of_le d with h1|h1
 ·obtain⟨e,e1,e2,_⟩:=yT b5 b6 hD hp h1;obtain⟨_,g2,_,_,g5⟩:=iG.1 e2;have hm:e.2∈bX xs:=by
   unfold bX;rw[aWy];exact⟨aWm.2 g2,by rw[←fV];exact g5⟩
  rw[hf]at hm;cases hm
 have hz:=(hD.zero _ (sP b6 k1)).1 h1.symm;have h2:=(lK.1 hz).1;have h3:=Nat.div_eq_of_lt (aVy h2 (kO b6));rw[k2]at h3;exact hc0 h3
theorem aPr (h:aO aA aB xs=true)(hc:xs[c]? =some id) (h0:id≠0) (hD:gO aA xs.length (bX xs).length D):
  (0≤bD D c (aP xs)↔0≤ddH aA xs c (aP xs))∧(0≤bD D c (aP xs)→bD D c (aP xs)=ddH aA xs c (aP xs)∧sD aA xs.length (bD D) (c,aP xs) (bD D c (aP xs)).toNat=sD aA xs.length (ddH aA xs) (c,aP xs) (ddH aA xs c (aP xs)).toNat):=by
 obtain⟨b1,b2,b3,b4,b5,b6,b7⟩:=cQ (dH h);have hp:=nP hc h0;have hE:=oK (aA:=aA) (many:=(bX xs).length) b6;obtain⟨s1,s2⟩:=aEy hD hE (sP b6 (qV b6 hp).1);refine⟨s1,fun h1=> ?_⟩;have e1:bD D c (aP xs)=ddH aA xs c (aP xs):=s2 h1;refine⟨e1,?_⟩;obtain⟨d,hd⟩:=aWk h1;rw[←e1,hd];unfold sD;refine List.map_congr_left fun i hi=> ?_
 have:=aWm.1 hi;rw[aM6 b5 b6 hD hE hp hd (show i<d by simpa using this)];rfl
theorem aCq (h:aO aA aB xs=true)(hc:xs[c]? =some id) (h0:id≠0) (hD:gO aA xs.length (bX xs).length D):eO aA xs c=if bD D c (aP xs)<0 then none else some (sD aA xs.length (bD D) (c,aP xs) (bD D c (aP xs)).toNat):=by
 obtain⟨a,b⟩:=aPr h hc h0 hD;unfold eO;by_cases h1:0≤bD D c (aP xs)
 ·rw[if_neg (by have:=a.1 h1;omega),if_neg (by omega),(b h1).2]
 rw[if_pos (by have:=fun x=>h1 (a.2 x);omega),if_pos (by omega)]
theorem tJ (h:aO aA aB xs=true)(hc:xs[c]? =some id) (h0:id≠0):(eO aA xs c=none↔bX xs= []∧c≠0)∧ ∀l,eO aA xs c=some l→l.length≤60∧ ∃ys,bJ aA aB xs l=(ys,l.length)∧aO aA aB ys=true∧ys.length=xs.length∧ys[0]? =some id:=by
 obtain⟨b1,b2,b3,b4,b5,b6,b7⟩:=cQ (dH h);have hE:=oK (aA:=aA) (many:=(bX xs).length) b6;obtain⟨n1,n2,n3⟩:=zI h hc h0 hE;have e:ddH aA xs c (aP xs)=bD (jL aA xs.length (bX xs).length) c (aP xs):=rfl;constructor
 ·unfold eO;rw[e];constructor
  ·intro hn;by_cases hf:bX xs= []
   ·refine⟨hf,fun hc0=> ?_⟩;rw[n2 hc0]at hn;simp at hn
   rw[if_neg (by have:=(n1 hf).1;omega)]at hn;cases hn
  rintro⟨hf,hc0⟩;rw[if_pos (n3 hf hc0)]
 intro l hl;unfold eO at hl;rw[e]at hl;by_cases h1:bD (jL aA xs.length (bX xs).length) c (aP xs)<0
 ·rw[if_pos h1]at hl;cases hl
 rw[if_neg h1]at hl;injection hl with hl;obtain⟨d,hd⟩:=aWk (show 0≤bD (jL aA xs.length (bX xs).length) c (aP xs) by omega);have a:l.length=d:=by rw[←hl,sF,hd];rfl
 have b:d≤60:=by
  by_cases hf:bX xs= []
  ·by_cases hc0:c=0
   ·have:=n2 hc0;omega
   exact absurd (n3 hf hc0) h1
  have:=(n1 hf).2;omega
 refine⟨by omega,?_⟩;obtain⟨ys,w1,w2,w3,w4,w5⟩:=aPu h hc h0 hE hd d (aVz _);have hz:=(aSc b5 b6 hE (nP hc h0) hd (aVz d)).2 rfl;rw[hz]at w5;refine⟨ys,?_,w2,w3,w5⟩;rw[a,←w1,←hl,hd];rfl
end
def pC (aA aB:Int)(xs:List Int)(id:Int):Option (List Int×Nat):=
 if id<1∨id∉xs then none else(eO aA xs (uS xs id).toNat).map (fun l=>((bJ aA aB xs l).1.set 0 0,l.length))
/-! the other search: its states, coded by 2^n -/
def gJ (n:Nat)(s:Nat×Nat):Nat:=s.1*2 ^ n+s.2
def ddM (n:Nat)(dd:Nat→Nat→Int)(v:Nat):Int:=dd (v/2 ^ n) (v%2 ^ n)
theorem nB {n:Nat}{s:Nat×Nat}(h:s.2<2 ^ n):gJ n s/2 ^ n=s.1∧gJ n s%2 ^ n=s.2:=⟨oL h,jU h⟩
theorem aCl {n:Nat}{dd:Nat→Nat→Int}{s:Nat×Nat}(h:s.2<2 ^ n):ddM n dd (gJ n s)=dd s.1 s.2:=by obtain⟨a,b⟩:=nB h;unfold ddM;rw[a,b]
section
variable {aA:Int} {n many:Nat} {D:List Int}
theorem aPm {s:Nat×Nat}(h:s.2<2 ^ n):rQ aA n (2 ^ n) (gJ n s)=(fN aA n s.2).map (fun e=>gJ n (lY s e)):=by obtain⟨a,b⟩:=nB h;unfold rQ;rw[a,b];rfl
theorem xZ {s:Nat×Nat}(h1:s.1<n)(h2:s.2<2 ^ n):gJ n s<n*2 ^ n:=by unfold gJ;have:(s.1+1)*2 ^ n≤n*2 ^ n:=aXm _ h1;rw[aY6]at this;omega
theorem aCb (c:4≤n)(hn:n≤12)(hD:gO aA n many D){s:Nat×Nat}(h:sE n many s){d:Nat}(hd:bD D s.1 s.2=d):
  rS (rQ aA n (2 ^ n)) (ddM n (bD D)) (fun j=>gJ n (gP aA n (bD D) s j)) d (gJ n s):=by
 refine⟨rfl,fun j hj=> ?_,fun j hj=> ?_⟩
 ·obtain⟨a,b⟩:=lP c hn hD h hd j hj;show ddM n (bD D) (gJ n (gP aA n (bD D) s j))=_;rw[aCl a.set,b]
 obtain⟨a,b⟩:=lP c hn hD h hd j (by omega);obtain⟨e1,e2,e3⟩:=mZ c hn hD h hd hj;rw[aPm a.set,aCl a.set,e3];rw[List.find?_map];have f:(fN aA n (gP aA n (bD D) s j).2).find? ((fun v=>decide (ddM n (bD D) v=bD D (gP aA n (bD D) s j).1 (gP aA n (bD D) s j).2-1))∘fun e=>gJ n (lY (gP aA n (bD D) s j) e))=oW aA n (bD D) (gP aA n (bD D) s j):=by
  unfold oW;have k2: ∀l:List (Nat×Nat),(∀e∈l,e∈fN aA n (gP aA n (bD D) s j).2)→l.find? ((fun v=>decide (ddM n (bD D) v=bD D (gP aA n (bD D) s j).1 (gP aA n (bD D) s j).2-1))∘fun e=>gJ n (lY (gP aA n (bD D) s j) e))=l.find? (fun e=>decide (bD D (eL (gP aA n (bD D) s j).1 e.1 e.2) (dP (gP aA n (bD D) s j).2 e.1 e.2)=bD D (gP aA n (bD D) s j).1 (gP aA n (bD D) s j).2-1)):=by
   intro l;induction l with
   |nil=>intro _;rw[List.find?_nil,List.find?_nil]
   |cons e l ih=>intro hl;rw[List.find?_cons,List.find?_cons,ih (fun x hx=>hl x (by simp[hx]))];have hp:=(aFv hn a (hl e (by simp))).2;have:ddM n (bD D) (gJ n (lY (gP aA n (bD D) s j) e))=bD D (eL (gP aA n (bD D) s j).1 e.1 e.2) (dP (gP aA n (bD D) s j).2 e.1 e.2):=aCl hp.set;simp only[Function.comp_apply,this]
  exact k2 _ (fun e he=>he)
 rw[f,e1];rfl
theorem xS (e:4≤n)(hn:n≤12)(hD:gO aA n many D):aJt (rQ aA n (2 ^ n)) (ddM n (bD D)) (n*2 ^ n):=by
 have c:0<2 ^ n:=aYa n;have bd: ∀u v,u<n*2 ^ n→v∈rQ aA n (2 ^ n) u→v/2 ^ n<n∧v%2 ^ n<2 ^ n:=fun u v hu hv=>aN3 (aVz _) ((Nat.div_lt_iff_lt_mul c).2 hu) (Nat.mod_lt _ c) (tK.1 hv)
 refine⟨fun u v hu hv h0=> ?_,fun u v hu hv=> ?_⟩
 ·obtain⟨f,t,h1,h2,h3,h4,h5,h6,h7,h8⟩:=nW (aVz _) (Nat.mod_lt u c) (tK.1 hv);have hc:=(Nat.div_lt_iff_lt_mul c).2 hu;have hS:=Nat.mod_lt u c;have g:u/2 ^ n*MM+u%2 ^ n<NN:=by
   have:=kO hn;show u/2 ^ n*4096+u%2 ^ n<49152;have h4:(MM:Nat)=4096:=rfl;omega
  obtain⟨k,hk⟩:=aWk h0;obtain⟨u1,u2⟩:=aN4 e hn hD k _ g hk;have d:u%2 ^ n<MM:=aVy hS (kO hn);have hE:wE aA n MM (u/2 ^ n*MM+u%2 ^ n) (v/2 ^ n*MM+v%2 ^ n):=⟨f,t,h1,h2,h3,by rw[jU d];exact h4,by rw[jU d];exact h5,by rw[oL d,jU d,h6,h7];rfl⟩
  obtain⟨a,b⟩:=aF0 e hn hD u1 hE;exact⟨a.1 h0,(b h0).1⟩
 obtain⟨a,b⟩:=bd u v hu hv;have:=xZ (s:=(v/2 ^ n,v%2 ^ n)) a b;unfold gJ at this;rw[Nat.mul_comm (v/2 ^ n),aY5]at this;exact this
theorem aSv (b:4≤n)(hn:n≤12)(hD:gO aA n many D){v:Nat}(hv:v<n*2 ^ n)(a:aDr n (2 ^ n) v)(hm:jQ (v%2 ^ n)=many):ddM n (bD D) v=0↔v/2 ^ n=0:=by
 have hp:sE n many (v/2 ^ n,v%2 ^ n):=⟨a.car,a.set,a.occ,hm⟩
 obtain⟨k1,k2,k3⟩:=qV hn hp;have hz:=hD.zero _ (sP hn k1);have e:ddM n (bD D) v=D.getD ((v/2 ^ n)*MM+v%2 ^ n) 0:=rfl;rw[e];constructor
 ·intro h;have h1:=(lK.1 (hz.1 h)).1;have h2:=Nat.div_eq_of_lt (aVy h1 (kO hn));rwa[k2]at h2
 intro h;refine hz.2 (lK.2 ?_);dsimp only;rw[h,Nat.zero_mul,aWz];have:=a.occ;rw[h]at this;exact⟨a.set,this,hm⟩
theorem walk_ok (hn:n≤12){s:Nat×Nat}(h:sE n many s): ∀(k v:Nat),rZ (rQ aA n (2 ^ n)) [gJ n s] k v→aDr n (2 ^ n) v∧jQ (v%2 ^ n)=many:=by
 intro k;induction k with
 |zero=>
  intro v hv;have:v=gJ n s:=by simpa[rZ]using hv
  subst this;obtain⟨a,b⟩:=nB (n:=n) h.set;exact⟨⟨by rw[a];exact h.car,by rw[b];exact h.set,by rw[a,b];exact h.occ⟩,by rw[b];exact h.many⟩
 |succ k ih=>rintro v ⟨u,hu,hv⟩;obtain⟨a,b⟩:=ih u hu;exact⟨xW (aVz _) a (tK.1 hv),by rw[uH (aVz _) a.set (tK.1 hv)];exact b⟩
end
end
section
open Go.RowKit
theorem aLc (hS:S≤1099511627776):U 199 #[S] w fun e w'=>e= .returned (I (jQ S))∧w=w':=by
 go_enter func199,ntmps199;go_wp2;go_loopw [0,3] (fun v i wr=> ∃(T c:Nat),v=I T∧i=I c∧c+jQ T=jQ S∧T≤S∧c+T≤2*S∧w=wr) (fun v _ _=>(intOf v).toNat)
 case atStart=>exact⟨S,0,rfl,rfl,by omega,aVz _,by omega,rfl⟩
 case round=>
  obtain⟨T,c,rfl,rfl,h1,h2,h3,rfl⟩:=hrel;by_cases h0:0<T
  ·have t1:(T:Int).tmod 2=((T%2:Nat):Int):=rfl;have t2:(T:Int).tdiv 2=((T/2:Nat):Int):=rfl;have hp:=wZ T;have hw:=aYs ((c:Int)+((T%2:Nat):Int));have HP:=xQ hp;have H1:=xQ h1;clear hp h1;go_wp2;go_roundw
   case rel=>exact⟨T/2,c+T%2,by first|rfl|go_num,by first|rfl|go_num,by have:=HP.out;have:=H1.out;omega,by omega,by omega,by trivial⟩
   case measure=>simp[intOf];omega
  have hc:Hid (c=jQ S):=by show _=_;rw[←h1,show T=0 by omega];simp[jQ]
  clear h1;go_wp2;go_ret;exact⟨by rw[hc.out];rfl,rfl⟩
def aMy (fr:List Nat):Nat:=fr.foldl (fun a f=>a+2 ^ f) 0
theorem aU8: ∀(l:List Nat) (a:Nat),(∀f∈l,f<12)→l.foldl (fun a f=>a+2 ^ f) a≤a+l.length*4096:=by
 intro l;induction l with
 |nil=>intro a _;simp
 |cons f l ih=>intro a h;have h1:=ih (a+2 ^ f) (fun x hx=>h x (by simp[hx]));have h2:2 ^ f≤4096:=aW8 (aWi (by omega) (show f≤11 by have:=h f (by simp);omega)) (by decide);rw[List.foldl_cons,aX0,aY6];omega
theorem aU9 {fr:List Nat}(h: ∀f∈fr,f<12)(k:Nat):(fr.take k).foldl (fun a f=>a+2 ^ f) 0≤k*4096:=by
 have h1:=aU8 (fr.take k) 0 (fun f hf=>h f (aXq hf));have h2:(fr.take k).length≤k:=by rw[aWn];omega
 omega
theorem aSh:aMy (bX xs)=aP xs:=by
 unfold aMy bX aP;generalize xs.length=k;induction k with
 |zero=>rfl
 |succ k ih=>rw[aXj,aX8,List.foldl_append,ih,show lI (dQ xs) (k+1)=lI (dQ xs) k+(if dQ xs k then 2 ^ k else 0)from rfl];cases h:dQ xs k<;>simp[h]
theorem aKh (b:Nat)(fr:List Nat)(F:Nat)(w:World)(hF:Hid (fr.length=F))(l:F≤12)(g:Hid (∀x∈fr,x<12))(HF:xC 195 #[aH aA aB p n b] w fun w' e w''=> ∃q c,e= .returned (.slice q F c)∧w''.ownsRow w' TI 1 (.slice q F c) F (ivs (bO fr))∧Ext w' w''):
  U 169 #[aH aA aB p n b] w (Z (I (aMy fr)) w):=by
 go_enter func169,ntmps169;go_wp2_with fail;refine(HF _ (Mem.b1 w).ext).mono ?_;rintro e w1 ⟨q1,c1,rfl,h,j⟩;have M1:=((Mem.b1 w).call j h)
 clear j h;go_wp2;go_loopw [3,5] (fun v i wr=> ∃(k T:Nat),k≤F∧i=I k∧v=I T∧T=(fr.take k).foldl (fun a f=>a+2 ^ f) 0∧w1=wr) (fun _ i _=>F-(intOf i).toNat)
 case atStart=>exact⟨0,0,aW6 _,rfl,rfl,rfl,rfl⟩
 case round=>
  obtain⟨k,T,hk,rfl,rfl,hT,rfl⟩:=hrel;have HT:=xQ hT
  have o:T≤12*4096:=by have:=aU9 g.out k;rw[hT];have:k≤12:=by omega
                       omega
  clear hT;by_cases hlt:k<F
  ·obtain⟨f,hf⟩: ∃f,fr[k]? =some f:=⟨_,aW0 (by rw[hF.out];exact hlt)⟩
   have t:f<12:=g.out f (aW1 hf);obtain⟨gf,rfl,r,s⟩:=M1.so 0;have cu:w1.cell? ⟨gf,k,none⟩=some (I f):=by have:=(M1.ow 0).cellAt k (by omega);rw[this];simp[ivs,bO,hf]
   have hn:=xQ (show(fr.take (k+1)).foldl (fun a f=>a+2 ^ f) 0=T+2 ^ f by rw[aX hf,List.foldl_append,←HT.out];rfl);clear hf;have i1:=aYp k;have i2:=aYq k F;obtain⟨P,hP⟩: ∃P:Nat,P=2 ^ f:=⟨_,rfl⟩
   have m:P≤2048:=by rw[hP];exact aW8 (aWi (by omega) (show f≤11 by omega)) (by decide)
   have u:(2:Int) ^ f=(P:Int):=by rw[hP];simp
   have y:IntKind.i64.wrap (P:Int)=(P:Int):=aW2 _ (by omega);have z:=aYs ((T:Int)+(P:Int));rw[←hP]at hn;clear hP;go_wp2;go_roundw
   case rel=>exact⟨k+1,T+P,by omega,by go_num,by first|rfl|go_num,hn.out.symm,by trivial⟩
   case measure=>simp[intOf];omega
  obtain rfl:F=k:=by omega
  have d:Hid ((T:Int)=((aMy fr:Nat):Int)):=by show _=_;rw[HT.out,aW4 (by rw[hF.out];omega)];rfl
  go_wp2;go_ret;exact⟨by rw[d.out];rfl,M1.ext⟩
theorem xP (hS:Sl w p n a 1 (ivs xs))(b:aO aA aB xs=true):
  U 195 #[aH aA aB p n a] w (aYy TI 1 (bX xs).length (ivs (bO (bX xs))) w fun q c=> .slice q (bX xs).length c):=by
 have:=aQf aA aB p n a xs w hS;rw[b,if_pos rfl,aCc]at this;refine this.mono fun e w'' h=> ?_
 obtain⟨q,c,h1,h2,h3⟩:=h;rw[aWj]at h1 h2;exact⟨q,c,h1,h2,h3⟩
theorem aSg {aA aB:Int}{xs:List Int}(a:aO aA aB xs=true):(bX xs).length≤12:=by obtain⟨g1,g2,g3,g4,g5,g6,g7⟩:=cQ (dH a);unfold bX;exact aW8 (aXc _ _) (by simp;omega)
theorem aBs (hS:Sl w p n a 1 (ivs xs))(b:aO aA aB xs=true):
  U 169 #[aH aA aB p n a] w (Z (I (aP xs)) w):=by
 have hl:=hS.ilen;obtain⟨g1,g2,g3,g4,g5,g6,g7⟩:=cQ (dH b);rw[←aSh];exact aKh aA aB p n a (bX xs) _ w rfl (aSg b) (fun x hx=>by have:=(mL hx).1;omega) (fun w' hy=>xP aA aB p n a xs w' (hS.ext hy) b)
abbrev TSS:TypeId:=25
theorem aVw:ElT prog 207 TSS 1:=
 ⟨underlying207,by
  obtain⟨i,hi,h0,h1,h2⟩:=info_parts (show(prog.info? TSS).map (fun i=>(i.zero,i.size,i.bytes))=some (some (.slice none 0 0),1,24) by kernel_rfl)
  exact⟨i,_,hi,h0,h1,by omega,rfl⟩,by omega⟩
def uP (aA:Int)(n k:Nat)(rows:List RowD):Prop:=rows.length=k∧ ∀(j:Nat) (r:RowD),rows[j]? =some r→r.n=(aU aA n j).length∧r.xs=ivs (bO (aU aA n j))
def aH8 (aA:Int)(n:Nat)(w:World)(e:Ending)(w':World):Prop:=
 ∃q c rows,e= .returned (.slice q n c)∧uP aA n n rows∧zL w.heap.size TSS TI 1 q c rows w'∧Ext w w'
theorem aAc {aA:Int}{n:Nat}{rows:List RowD}{q:OA}(h:uP aA n k rows):uP aA n (k+1) (rows++ [⟨q,(aU aA n k).length,c,ivs (bO (aU aA n k))⟩]):=by
 refine⟨by rw[aW5,h.1];rfl,fun j r hj=> ?_⟩;by_cases hk:j<k
 ·rw[aWl (by rw[h.1];exact hk)]at hj;exact h.2 j r hj
 have hl:=(aW3.1 hj).1;rw[aW5,h.1]at hl;simp at hl;obtain rfl:j=k:=by omega
 rw[aWx (by rw[h.1];exact aVz _),h.1,aXp]at hj;simp at hj;subst hj;exact⟨rfl,by simp[ivs,bO]⟩
theorem aO1 (hn:n≤12)(HC:Hid (∀(k:Nat),k<n→ ∀w',Ext w w'→U 217 #[aH aA aB p n a,k] w' (cC (bO (aU aA n k)) w'))):
  U 200 #[aH aA aB p n a] w (aH8 aA n w):=by
 go_enter func200,ntmps200;have ME:=(((Mem.start w).c0 TH3 #[aA,aB,.slice p n a]).made0 TSS 1 (w.heap.size+1) (by simp))
 go_wp2;go_loopw [3,4] (fun v i wr=> ∃(k:Nat) (q:OA) (c:Nat) (rows:List RowD),k≤n∧i=I k∧v= .slice q k c∧uP aA n k rows∧Mem w wr [iQ w TI 1 rows,aJ w TSS 1 (q) (k) (c) (rows.map RowD.v),aI w w TH3 #[aA,aB,.slice p n a]]) (fun _ i _=>n-(intOf i).toNat)
 case atStart=>exact⟨0,some ⟨w.heap.size+1,0,none⟩,0,[],aW6 _,rfl,rfl,⟨rfl,fun j r h=>by simp at h⟩,ME.rows0 rfl⟩
 case round=>
  obtain⟨k,q,c,rows,hk,rfl,rfl,b,hM⟩:=hrel;have HM:=hM;have HR:=xQ b;obtain⟨c0,c1,c2⟩:=(HM.bk 2).tri;by_cases hlt:k<n
  ·go_wp2_with fail;refine(HC k hlt _ HM.ext).mono ?_;rintro e w2 ⟨q2,c2,rfl,o2,f⟩;rw[aWj]at o2⊢;have M2:=(HM.call f o2)
   have M3:=(M2.rowsAdd rfl)
   have d:=xQ (aAc (q:=q2) (c:=c2) HR.out);go_wp2_with (at_builtin;go_loud (refine dN aVw rfl _ _ rfl (M3.adv ((Ext.refl _).alloc (.cells #[.slice q2 (aU aA n k).length c2] TSS))) 1 rfl rfl [.slice q2 (aU aA n k).length c2] rfl (fC _ _ _ 1 1 _ (by first|rfl|simp) (by first|rfl|simp) (by simp[maxLen])) (fun u hu=>by obtain rfl:=aWq.1 hu;rfl) (by omega) ?_;intro q7 c7 w6 M6));have M7:=(show Mem w w6 [iQ w TI 1 (rows++ [⟨q2,(aU aA n k).length,c2,ivs (bO (aU aA n k))⟩]),aJ w TSS 1 q7 (k+1) c7 ((rows++ [⟨q2,(aU aA n k).length,c2,ivs (bO (aU aA n k))⟩]:List RowD).map RowD.v),aI w w TH3 #[aA,aB,.slice p n a]]from by rw[aWs];exact M6)
   go_wp2;go_roundw
   case rel=>exact⟨k+1,q7,c7,_,by omega,by go_num,rfl,d.out,M7⟩
   case measure=>simp[intOf];omega
  obtain rfl:n=k:=by omega
  go_wp2;go_ret;have hl:=HR.out.1;have h1:=HM.ow 1;refine⟨q,c,rows,rfl,HR.out,⟨?_,fun r hr=>HM.ok (iQ w TI 1 rows) (by simp) r hr⟩,HM.ext⟩;rw[hl];exact h1
theorem aG1 (hS:Sl w p n a 1 (ivs xs))(b:aO aA aB xs=true):
  U 200 #[aH aA aB p n a] w (aH8 aA n w):=by
 have hl:=hS.ilen;obtain⟨g1,g2,g3,g4,g5,g6,g7⟩:=cQ (dH b)
 exact aO1 aA aB p n a w (by omega) (fun k hk w' hx=>by
  have:=aKm aA aB k p n a xs w' (hS.ext hx) b (by omega) (by omega)
  rwa[nY]at this)
theorem aN9:S.testBit h=decide (S/2 ^ h%2=1):=by exact Nat.testBit_eq_decide_div_mod_eq
def nE (k:Nat):List Int:=List.replicate k (-1)++List.replicate (NN-k) 0
theorem aL7 (h:k<NN):(nE k).set k (-1)=nE (k+1):=by
 unfold nE;obtain⟨m,hm⟩: ∃m,NN-k=m+1:=⟨NN-k-1,by omega⟩
 rw[hm,show NN-(k+1)=m by omega,aXx];rw[aY8 _ _ (by rw[List.length_replicate];exact aVz _),List.length_replicate,aXp,aWe,List.replicate_succ',aWu];rfl
theorem aL8 (h:k<NN):(nE k)[k]? =some 0:=by unfold nE;rw[aWx (by rw[List.length_replicate];exact aVz _),List.length_replicate,aXp];rw[aY0,if_pos (by omega)]
def gU (many m:Nat):List Nat:=(List.range m).filter (fun s=> !s.testBit 0&&decide (jQ s=many))
theorem aL9 (many:Nat):nE NN=kY NN (gU many 0):=by unfold nE kY gU;rw[aXp,List.replicate_zero,aWr];rfl
theorem aHh {many m:Nat}(hm:m%2=0):gU many (m+2)=gU many m++(if jQ m=many then [m]else []):=by
 unfold gU;rw[aXj,aXj,aX8,aX8,aWu];have h0:m.testBit 0=false:=by rw[aXu];simp;omega
 have h1:(m+1).testBit 0=true:=by rw[aXu];simp;omega
 congr 1;by_cases hp:jQ m=many
 ·simp only[List.filter_cons,List.filter_nil,h0,h1];simp[hp]
 simp only[List.filter_cons,List.filter_nil,h0,h1];simp[hp]
theorem aHi (many m:Nat):(gU many m).length≤m:=by unfold gU;exact aW8 (aXc _ _) (by simp)
def fB (aA:Int)(n M s h:Nat):List Nat:=if(s%M).testBit h then((aU aA n h).filter (fun f=> !(s%M).testBit f)).map (fun f=>jJ M (s/M) (s%M) f h)else []
def lA (aA:Int)(n M s h:Nat):List Nat:=(List.range h).flatMap (fB aA n M s)
def lW (aA:Int)(n M s h j:Nat):List Nat:=(((aU aA n h).take j).filter (fun f=> !(s%M).testBit f)).map (fun f=>jJ M (s/M) (s%M) f h)
theorem yU:lA aA n M s n=aCv aA n M s:=rfl
theorem aBn:lA aA n M s (h+1)=lA aA n M s h++fB aA n M s h:=by unfold lA;rw[aXj,aX4];simp
theorem aVq {aA:Int}{n M s h:Nat}(hb:(s%M).testBit h=false):fB aA n M s h= []:=by unfold fB;rw[hb];rfl
theorem aSl {aA:Int}{n M s h:Nat}(hb:(s%M).testBit h=true):fB aA n M s h=lW aA n M s h (aU aA n h).length:=by unfold fB lW;rw[if_pos hb,aXt]
theorem aL0:lW aA n M s h 0= []:=rfl
theorem aR9 {aA:Int}{n M s h:Nat}(hj:(aU aA n h)[j]? =some f)(hb:(s%M).testBit f=true):lW aA n M s h (j+1)=lW aA n M s h j:=by unfold lW;rw[aX hj,aX8];simp[hb]
theorem aOc {aA:Int}{n M s h:Nat}(hj:(aU aA n h)[j]? =some f)(hb:(s%M).testBit f=false):lW aA n M s h (j+1)=lW aA n M s h j++ [jJ M (s/M) (s%M) f h]:=by unfold lW;rw[aX hj,aX8];simp[hb]
theorem aL1 {aA:Int}{n M s h j:Nat}(hh:h<n)(hb:(s%M).testBit h=true): ∀v∈lA aA n M s h++lW aA n M s h j,v∈aCv aA n M s:=by
 intro v hv;rw[←yU];unfold lA;rw[List.mem_flatMap];rcases aWh.1 hv with hv|hv
 ·unfold lA at hv;obtain⟨a,ha,hm⟩:=List.mem_flatMap.1 hv;exact⟨a,aWm.2 (by have:=aWm.1 ha;omega),hm⟩
 refine⟨h,aWm.2 hh,?_⟩;rw[aSl hb];unfold lW at hv⊢;obtain⟨f,hf,rfl⟩:=List.mem_map.1 hv;obtain⟨h1,h2⟩:=aWy.1 hf;exact List.mem_map.2 ⟨f,aWy.2 ⟨by rw[aXt];exact aXq h1,h2⟩,rfl⟩
theorem aOd {aA:Int}{n M s h:Nat}(hh:h≤n): ∀v∈lA aA n M s h,v∈aCv aA n M s:=by intro v hv;rw[←yU];unfold lA at hv⊢;obtain⟨a,ha,hm⟩:=List.mem_flatMap.1 hv;exact List.mem_flatMap.2 ⟨a,aWm.2 (by have:=aWm.1 ha;omega),hm⟩
theorem aIc {adj:Nat→List Nat}{u:Nat}(h:Inv adj src N k (D,Q))(hu:Q[k]? =some u)(ha: ∀v∈adj u,v<N){vs:List Nat}(hv: ∀v∈vs,v∈adj u){D2:List Int}{Q2:List Nat}(he:(D2,Q2)=bY (D.getD u 0+1) (D,Q) vs):
  Mid adj src N k u vs (D,Q) (D2,Q2):=by
 rw[he];have:=Mid.many (aW1 hu) vs [] (D,Q) (h.mid hu) (fun v hv'=>⟨hv v hv',ha v (hv v hv')⟩);simpa using this
theorem qZ:(madeCells #[I 0] n).toList=ivs (List.replicate n 0)∧(madeCells #[I 0] n).size=n:=by
 constructor
 ·apply List.ext_getElem<;>simp[madeCells,Nat.mod_one]
 simp[madeCells]
theorem aTf (N:Nat)(src:List Nat): ∀x∈kY N src,-1≤x∧x≤((0:Nat):Int):=by
 unfold kY
 suffices h: ∀(l:List Nat) (A:List Int),(∀x∈A,-1≤x∧x≤((0:Nat):Int))→ ∀x∈l.foldl (fun A v=>A.set v 0) A,-1≤x∧x≤((0:Nat):Int)from h src _ (fun x hx=>by rw[List.mem_replicate]at hx;omega)
 intro l;induction l with
 |nil=>intro A h;exact h
 |cons v l ih=>
  intro A h
  exact ih (A.set v 0) (fun x hx=>by
   rcases aXa hx with h1|h1
   ·exact h x h1
   ·omega)
theorem aK5 (F P:Nat)(w:World)(dm:4≤n)(hn:n≤12)(hP:Hid (P=2 ^ n))(cw:P≤4096)(df:P%2=0)(HF:xC 195 #[aH aA aB p n a] w fun w' e w''=> ∃q c,e= .returned (.slice q F c)∧Ext w' w'')(b8:Hid (∀(m:Nat) w',m≤4096→U 199 #[m] w' fun e w''=>e= .returned (I (jQ m))∧w'=w''))(HN:Hid (∀w',Ext w w'→U 200 #[aH aA aB p n a] w' (aH8 aA n w'))):
  U 168 #[aH aA aB p n a] w fun e w'=> ∃D,gO aA n F D∧cC D w e w':=by
 obtain⟨AR,ar⟩: ∃AR:Array Value,AR=madeCells #[()] 49152:=⟨_,rfl⟩
 have co: ∀w:World,(Instr.makeSlice 25 (I 49152) (I 49152)).run prog w= .ok (.slice (some ⟨w,0,none⟩) 49152 49152) (w.alloc (.cells AR TI)):=fun w=>by rw[ar];exact run_make_row' _ _ (I 0) 8 underlying25 (by kernel_rfl) rfl .i64 .i64 49152 (by omega) (by omega) w
 have bo:Hid (AR.toList=ivs (nE 0)):=by show _=_;rw[ar,(qZ 49152).1];rfl
 have bp:Hid (AR.size=49152):=by show _=_;rw[ar];exact(qZ 49152).2
 clear ar;go_enter func168,ntmps168;go_wp2;have ME:=(show Mem w ((w.alloc (.cells #[aA,aB,.slice p n a] TH3)).alloc (.cells AR TI)) [aJ w TI 1 (some ⟨w.heap.size+1,0,none⟩) (49152) (49152) (ivs (nE 0)),aI w w TH3 #[aA,aB,.slice p n a]]from by rw[←bo.out];exact((Mem.start w).c0 TH3 #[aA,aB,.slice p n a]).lit TI 1 49152 _ AR (by simp) (by rw[bp.out]) (by simp[maxLen]))
 clear bo bp co;go_loopw [4] (fun i wr=> ∃(k:Nat),k≤49152∧i=I k∧Mem w wr [aJ w TI 1 (some ⟨w.heap.size+1,0,none⟩) (49152) (49152) (ivs (nE k)),aI w w TH3 #[aA,aB,.slice p n a]]) (fun i _=>49152-(intOf i).toNat)
 case atStart=>exact⟨0,aW6 _,rfl,ME⟩
 case round=>
  clear ME;obtain⟨k,hk,rfl,hM⟩:=hrel;have HM:=hM;clear hM;by_cases hlt:k<49152
  ·have i1:=aYp k;have i2:(k:Int)<49152:=by omega
   have cl:wr.cell? ⟨w.heap.size+1,k,none⟩=some (I 0):=by have:=(HM.ow 0).cellAt k (by omega);rw[this];simp[ivs,aL8 hlt]
   have cf:wr.frozen? ⟨w.heap.size+1,k,none⟩=false:=(HM.ow 0).frozenAt k;have M2:=(show Mem w (wr.setCell ⟨w.heap.size+1,k,none⟩ (I (-1))) [aJ w TI 1 (some ⟨w.heap.size+1,0,none⟩) (49152) (49152) (ivs (nE (k+1))),aI w w TH3 #[aA,aB,.slice p n a]]from by rw[←aL7 hlt,←eW];exact HM.ostore (i:=0) rfl k (I (-1)))
   clear HM;go_wp2;go_roundw
   case rel=>exact⟨k+1,by omega,by go_num,M2⟩
   case measure=>simp[intOf];omega
  obtain rfl:k=49152:=by omega
  have M1:=(show Mem w wr [aJ w TI 1 (some ⟨w.heap.size+1,0,none⟩) (49152) (49152) (ivs (kY NN (gU F 0))),aI w w TH3 #[aA,aB,.slice p n a]]from by have:=HM;rwa[show nE 49152=kY NN (gU F 0)from aL9 F]at this)
  clear HM hlt hk;have M2:=(M1.made0 TI 1 wr rfl)
  clear M1;have c0:(wr.alloc (.cells #[] TI)).cell? ⟨w,0,none⟩=some (I aA):=(M2.bk 2).cell 0;have c1:(wr.alloc (.cells #[] TI)).cell? ⟨w,1,none⟩=some (I aB):=(M2.bk 2).cell 1;have c2:(wr.alloc (.cells #[] TI)).cell? ⟨w,2,none⟩=some (.slice p n a):=(M2.bk 2).cell 2;go_wp2_with fail;clear c0 c1 c2;refine(HF _ M2.ext).mono ?_;rintro e w3 ⟨q3,c3,rfl,b5⟩;have M3:=(M2.adv b5)
  clear M2 b5;have dn:(2:Int) ^ n=(P:Int):=by rw[hP.out];simp
  have dr:IntKind.i64.wrap (P:Int)=(P:Int):=aW2 _ (by omega);go_wp2;go_loopw [5,7] (fun v i wx=> ∃(m:Nat) (q:OA) (l lc:Nat),m≤P∧m%2=0∧i=I m∧v= .slice q l lc∧l=(gU F m).length∧Mem w wx [aJ w TI 1 (q) (l) (lc) (ivs (bO (gU F m))),aJ w TI 1 (some ⟨w.heap.size+1,0,none⟩) (49152) (49152) (ivs (kY NN (gU F m))),aI w w TH3 #[aA,aB,.slice p n a]]) (fun _ i _=>P-(intOf i).toNat)
  case atStart=>exact⟨0,some ⟨wr,0,none⟩,0,0,aW6 _,rfl,rfl,rfl,rfl,M3⟩
  case round=>
   clear M3;obtain⟨m,q,l,lc,hm,an,rfl,rfl,hl,hM⟩:=hrel;have HM:=hM;have HL:=xQ hl;have dl:l≤4096:=by have:=aHi F m;omega
   clear hM hl;obtain⟨c0,c1,c2⟩:=(HM.bk 2).tri;by_cases hlt:m<P
   ·go_wp2_with fail;refine(b8 m _ (by omega)).mono ?_;rintro e wx ⟨rfl,rfl⟩;have h2:=aHh (many:=F) an;by_cases hp:jQ m=F
    ·have t1:((jQ m:Int)==(F:Int))=true:=by simp[hp]
     rw[if_pos hp]at h2;have H2:=xQ h2;have o:=xQ (show l+1=(gU F (m+2)).length by rw[h2,aW5,←HL.out];rfl);clear h2 hp;have cn:m<49152:=by omega
     have i1:=aYp m;have i2:(m:Int)<49152:=by omega
     obtain⟨x0,b4⟩: ∃x0,(kY NN (gU F m))[m]? =some x0:=⟨_,aW0 (by rw[aE3];exact cn)⟩
     have cl:wr.cell? ⟨w.heap.size+1,m,none⟩=some (I x0):=by have:=(HM.ow 1).cellAt m (by omega);rw[this];simp[ivs,b4]
     have cf:wr.frozen? ⟨w.heap.size+1,m,none⟩=false:=(HM.ow 1).frozenAt m;clear b4;go_wp2_with (at_builtin;refine dN iA rfl _ _ rfl ((HM.ostore (i:=1) rfl m (I 0)).adv ((Ext.refl _).alloc (.cells #[m] TI))) 0 rfl rfl [I m] rfl (fC _ _ _ 1 1 _ (by first|rfl|simp) (by first|rfl|simp) (by simp[maxLen])) (fun u hu=>by obtain rfl:=aWq.1 hu;rfl) (by omega) ?_;intro q7 c7 w6 M6);have M7:=(show Mem w w6 [aJ w TI 1 (q7) (l+1) (c7) (ivs (bO (gU F (m+2)))),aJ w TI 1 (some ⟨w.heap.size+1,0,none⟩) (49152) (49152) (ivs (kY NN (gU F (m+2)))),aI w w TH3 #[aA,aB,.slice p n a]]from by rw[H2.out,aKp,←eW,bO,aWs,ivs,aWs];exact M6)
     clear M6 HM cl cf c0 c1 c2;go_wp2;go_roundw
     case rel=>exact⟨m+2,q7,l+1,c7,by omega,by omega,by go_num,rfl,o.out,M7⟩
     case measure=>simp[intOf];omega
    have t1:((jQ m:Int)==(F:Int))=false:=by simp;omega
    rw[if_neg hp,aWr]at h2;have H2:=xQ h2;clear h2;go_wp2;go_roundw
    case rel=>exact⟨m+2,q,l,lc,by omega,by omega,by go_num,rfl,by rw[H2.out];exact HL.out,by rw[H2.out];exact HM⟩
    case measure=>simp[intOf];omega
   obtain rfl:m=P:=by omega
   have a1:gU F m=aB1 n F:=by rw[hP.out];rfl
   rw[a1]at HL HM;have cq:n≤12:=hn;have hI:=Inv.begin (adj:=aCv aA n MM) (src:=aB1 n F) (N:=NN) (aMn cq) aB0;have bh:=xQ hI;clear hI a1 hlt;go_wp2_with fail;clear c0 c1 c2;refine(HN _ HM.ext).mono ?_;rintro e w4 ⟨qB,cB,s,rfl,ae,ad,b6⟩;obtain⟨gB,rfl,c6,c8⟩:=gH ad.1 (by rw[ae.1];omega);have M4:=(HM.nestNew b6 ad (aVz _))
   have HR:=xQ ae;clear ad b6 ae HM;go_wp2;go_loopw [5,9] (fun v i wx=> ∃(k:Nat) (q:OA) (l lc:Nat) (D:List Int) (Q:List Nat),k≤l∧i=I k∧v= .slice q l lc∧l=Q.length∧(∀x∈D,-1≤x∧x≤(k:Int))∧Inv (aCv aA n MM) (aB1 n F) NN k (D,Q)∧Mem w wx [aJ w TI 1 (q) (l) (lc) (ivs (bO Q)),aJ w TI 1 (some ⟨w.heap.size+1,0,none⟩) (49152) (49152) (ivs D),rW w TSS TI 1 (some ⟨gB,0,none⟩) cB s,aI w w TH3 #[aA,aB,.slice p n a]]) (fun _ i _=>49152-(intOf i).toNat)
   case atStart=>exact⟨0,q,l,lc,_,aB1 n F,aW6 _,rfl,rfl,HL.out,aTf _ _,bh.out,M4.pick [1,2,0,3] (by decide) rfl⟩
   case round=>
    clear M4 bh HL;obtain⟨k,q,l,lc,D,Q,hk,rfl,rfl,hl,bs,al,hM⟩:=hrel;have HM:=hM;have HL:=xQ hl;have bc:=xQ bs;have HI:=xQ al;have dk:l≤49152:=by have:=al.qlen;rw[hl];exact this
    clear hM hl bs al;by_cases hlt:k<l
    ·obtain⟨gL,rfl,di,dj⟩:=HM.so 0;obtain⟨u,hu⟩: ∃u,Q[k]? =some u:=⟨_,aW0 (by rw[←HL.out];exact hlt)⟩
     have ao:u<49152:=HI.out.bd u (aW1 hu);obtain⟨C,hC⟩: ∃C,C=u/4096:=⟨_,rfl⟩
     obtain⟨S,hS⟩: ∃S,S=u%4096:=⟨_,rfl⟩
     have cv:C<12:=by omega
     have cz:S<4096:=by omega
     have HU:=xQ hu;have HC:=xQ hC;have HS:=xQ hS;have i1:=aYp k;have i2:=aYq k l;have d1:(u:Int)/4096=(C:Int):=by omega
     have d2:(u:Int)%4096=(S:Int):=by omega
     have cu:wr.cell? ⟨gL,k,none⟩=some (I u):=by have:=(HM.ow 0).cellAt k (by omega);rw[this];simp[ivs,bO,hu]
     clear hu hC hS;go_wp2;rw[d2];clear cu d1 d2;go_loopw [5,12] (fun v i wx=> ∃(h:Nat) (q:OA) (l2 lc:Nat) (D2:List Int) (Q2:List Nat),h≤n∧i=I h∧v= .slice q l2 lc∧l2=Q2.length∧(D2,Q2)=bY (D.getD u 0+1) (D,Q) (lA aA n MM u h)∧(∀x∈D2,-1≤x∧x≤(k:Int)+1)∧Mem w wx [aJ w TI 1 (q) (l2) (lc) (ivs (bO Q2)),aJ w TI 1 (some ⟨w.heap.size+1,0,none⟩) (49152) (49152) (ivs D2),rW w TSS TI 1 (some ⟨gB,0,none⟩) cB s,aI w w TH3 #[aA,aB,.slice p n a]]) (fun _ i _=>n-(intOf i).toNat)
     case atStart=>exact⟨0,_,l,lc,D,Q,aW6 _,rfl,rfl,HL.out,rfl,fun x hx=>by have:=bc x hx;omega,HM⟩
     case round=>
      clear HM;obtain⟨h,q,l2,lc,D2,Q2,hh,rfl,rfl,am,ag,y,hM⟩:=hrel;have HM:=hM;have o:=xQ am;have t:=xQ ag;have b:=xQ y;clear hM am ag y;obtain⟨c0,c1,c2⟩:=(HM.bk 3).tri;by_cases hlth:h<n
      ·obtain⟨Ph,ai⟩: ∃Ph:Nat,Ph=2 ^ h:=⟨_,rfl⟩
       have cy:Ph≤2048:=by rw[ai];exact aW8 (aWi (by omega) (show h≤11 by omega)) (by decide)
       have dq:(2:Int) ^ h=(Ph:Int):=by rw[ai];simp
       have dt:IntKind.i64.wrap (Ph:Int)=(Ph:Int):=aW2 _ (by omega);obtain⟨A,hA⟩: ∃A:Nat,A=S/Ph:=⟨_,rfl⟩
       have de:(S:Int)/(Ph:Int)=(A:Int):=by rw[hA];simp
       have ay:S.testBit h=decide (A%2=1):=by rw[hA,ai];exact aN9 S h
       have bi:=xQ ai;have aw:=xQ ay;obtain⟨ct,ba⟩: ∃r,s[h]? =some r:=⟨_,aW0 (by rw[HR.out.1];exact hlth)⟩
       obtain⟨qi,ni,ci,xi⟩:=ct;obtain⟨b0,b7⟩:=HR.out.2 h _ ba;dsimp only at b0 b7;subst b0 b7;have a5:=xQ ba;have rl:=HR.out.1;have RL:=xQ rl;clear ai ay hA ba;obtain⟨nb,av⟩: ∃nb,nb=aU aA n h:=⟨_,rfl⟩
       rw[←av]at a5;have a4:=xQ av;have cp:nb.length≤12:=by rw[av];exact aW8 (aXc _ _) (by simp;omega)
       clear av rl;have k1:=aYp h;have k2:=aYq h n;go_wp2;clear c0 c1 c2;cases hb:S.testBit h with
       |false=>
        have t1:(A:Int)%2=0:=by have:=aw.out;rw[hb]at this;simp at this;omega
        have d:=xQ (show lA aA n MM u (h+1)=lA aA n MM u h by rw[aBn,aVq (by rw[←show S=u%MM from HS.out];exact hb),aWr]);clear hb;go_loopw [5,13] (fun v i wx=>i=I 0∧v= .slice q l2 lc∧wr=wx) (fun _ _ _=>0)
        case atStart=>exact⟨rfl,rfl,rfl⟩
        case round=>
         obtain⟨rfl,rfl,rfl⟩:=hrel;go_wp2;go_roundw
         case rel=>exact⟨h+1,q,l2,lc,D2,Q2,by omega,by go_num,rfl,o.out,by rw[d.out];exact t.out,b.out,HM⟩
         case measure=>simp[intOf];omega
       |true=>
        have t1:(A:Int)%2=1:=by have:=aw.out;rw[hb]at this;simp at this;omega
        have au:=xQ (show(u%MM).testBit h=true by rw[←show S=u%MM from HS.out];exact hb);clear hb;go_loopw [5,13] (fun v i wx=> ∃(j:Nat) (q:OA) (l2 lc:Nat) (D2:List Int) (Q2:List Nat),j≤nb.length∧i=I j∧v= .slice q l2 lc∧l2=Q2.length∧(D2,Q2)=bY (D.getD u 0+1) (D,Q) (lA aA n MM u h++lW aA n MM u h j)∧(∀x∈D2,-1≤x∧x≤(k:Int)+1)∧Mem w wx [aJ w TI 1 (q) (l2) (lc) (ivs (bO Q2)),aJ w TI 1 (some ⟨w.heap.size+1,0,none⟩) (49152) (49152) (ivs D2),rW w TSS TI 1 (some ⟨gB,0,none⟩) cB s,aI w w TH3 #[aA,aB,.slice p n a]]) (fun _ i _=>nb.length-(intOf i).toNat)
        case atStart=>exact⟨0,q,l2,lc,D2,Q2,aW6 _,rfl,rfl,o.out,by rw[aL0,aWr];exact t.out,b.out,HM⟩
        case round=>
         clear HM o t b;obtain⟨j,q,l2,lc,D2,Q2,hj,rfl,rfl,am,ag,y,hM⟩:=hrel;have HM:=hM;have b1: ∀v∈lA aA n MM u h++lW aA n MM u h j,v∈aCv aA n MM u:=aL1 hlth au.out;have z:=aIc HI HU.out (fun v hv=>yB hn u v ao hv) b1 ag;have bq:D2.length=49152:=z.len;have dg:Q2.length≤49152:=sQ z.nodup z.bd;have cr:u∈Q:=aW1 HU.out;have bb:D2.getD u 0=D.getD u 0:=z.same u cr;obtain⟨r,hr⟩:=z.pre;dsimp only at hr;have cm:k<Q2.length:=by rw[hr,aW5];have:=HL.out;omega
         have br:Q2[k]? =some u:=by have:=HL.out;rw[hr,aWl (by omega)];exact HU.out
         have aa:=eE (D:=D2) (v:=u) (by omega);have c4: -1≤D2.getD u 0:=(y _ aa.2).1;have c5:D2.getD u 0≤(k:Int):=by rw[bb];exact(bc _ (eE (D:=D) (v:=u) (by have:=HI.out.len;dsimp only at this;rw[this];exact ao)).2).2
         have t:=xQ ag;have b:=xQ y;have o:=xQ am;have bj:=xQ br;have bf:=xQ aa.1;have bl:=xQ bb;have b9:=xQ bq;have dc:l2≤49152:=by omega
         have db:k<l2:=by omega
         have cb:wr.cell? ⟨gB,h,none⟩=some (.slice qi nb ci):=by have:=(HM.nest (i:=2) rfl).1.cellAt h (by rw[RL.out];omega);rw[this,aWp,a5.out];rfl
         have a0:=(HM.nest (i:=2) rfl).2 _ (aW1 a5.out);have ax:=xQ (show wr.ownsRow w TI 1 (.slice qi nb ci) nb.length (ivs (bO nb))from a0);clear hM b1 z hr ag y am br aa bb a0 bq cm;by_cases hltj:j<nb.length
         ·obtain⟨gi,rfl,c9,da⟩:=gH ax (by omega);obtain⟨f,hf⟩: ∃f,nb[j]? =some f:=⟨_,aW0 hltj⟩
          have ch:f<n:=(cH.1 (by rw[←a4.out];exact aW1 hf:f∈aU aA n h)).1;have bv:(aU aA n h)[j]? =some f:=by rw[←a4.out];exact hf
          have a3:=xQ bv;have cj:wr.cell? ⟨gi,j,none⟩=some (I f):=by have:=ax.out.cellAt j (by omega);rw[this];simp[ivs,bO,hf]
          clear hf bv;have m1:=aYp j;have m2:(j:Int)<(nb.length:Int):=by omega
          obtain⟨Pf,ah⟩: ∃Pf:Nat,Pf=2 ^ f:=⟨_,rfl⟩
          have cx:Pf≤2048:=by rw[ah];exact aW8 (aWi (by omega) (show f≤11 by omega)) (by decide)
          have dp:(2:Int) ^ f=(Pf:Int):=by rw[ah];simp
          have ds:IntKind.i64.wrap (Pf:Int)=(Pf:Int):=aW2 _ (by omega);obtain⟨B,hB⟩: ∃B:Nat,B=S/Pf:=⟨_,rfl⟩
          have dd:(S:Int)/(Pf:Int)=(B:Int):=by rw[hB];simp
          have bt:S.testBit f=decide (B%2=1):=by rw[hB,ah];exact aN9 S f
          have be:=xQ bt;have cc:=xQ ah;clear ah hB bt;cases hb:S.testBit f with
          |true=>
           have t2:(B:Int)%2=1:=by have:=be.out;rw[hb]at this;simp at this;omega
           have d:=xQ (aR9 a3 (show(u%MM).testBit f=true by rw[←show S=u%MM from HS.out];exact hb));clear hb;go_wp2;go_roundw
           case rel=>exact⟨j+1,q,l2,lc,D2,Q2,by omega,by go_num,rfl,o.out,by rw[d.out];exact t.out,b.out,HM⟩
           case measure=>simp[intOf];omega
          |false=>
           have t2:(B:Int)%2=0:=by have:=be.out;rw[hb]at this;simp at this;omega
           have aj:(u%MM).testBit f=false:=by rw[←show S=u%MM from HS.out];exact hb
           have d:=xQ (aOc a3 aj);have a2:=(aAs au.out).1;have dh:Ph≤S:=by rw[bi.out,show S=u%MM from HS.out];exact a2
           obtain⟨v,hv⟩: ∃v,v=jJ MM (u/MM) (u%MM) f h:=⟨_,rfl⟩
           have cs:v<49152:=yB hn u v ao (qJ.2 ⟨f,h,ch,hlth,jD hlth (by exact aW1 a3.out),aj,au.out,hv⟩);have b2:v=eL C f h*4096+(S-Ph+Pf):=by rw[hv,bi.out,cc.out,show C=u/MM from HC.out,show S=u%MM from HS.out];rfl
           rw[←hv]at d;have bm:=xQ b2;clear hb aj a2 hv b2;have s1:=aYp v;have s2:(v:Int)<49152:=by omega
           obtain⟨dv,bu,az⟩: ∃dv,D2[v]? =some dv∧D2.getD v 0=dv:=⟨_,(eE (D:=D2) (v:=v) (by rw[b9.out];exact cs)).1,rfl⟩
           have bg:=xQ bu;have af:=xQ az;clear bu az;by_cases hcar:f=C
           ·have t3:((f:Int)==(C:Int))=true:=by simp[hcar]
            have ap:(h:Int)*4096+(S:Int)-(Ph:Int)+(Pf:Int)=(v:Int):=by have:=bm.out;unfold eL at this;rw[if_pos hcar]at this;omega
            have a6:=xQ ap;clear ap hcar;go_wp2;have a7:=aYs ((h:Int)*4096);have an:=aYs ((h:Int)*4096+(S:Int));have a8:=aYs ((h:Int)*4096+(S:Int)-(Ph:Int));have a9:IntKind.i64.wrap ((h:Int)*4096+(S:Int)-(Ph:Int)+(Pf:Int))=(v:Int):=(aW2 _ (by omega)).trans a6.out;go_quiet (fail);generalize aq:World.drewN wr _=wi;have hX:Ext wr wi:=by rw[←aq];exact Ext.drewN (Ext.refl _) _
            clear aq a7 an a8 a9;have MI:=(HM.adv hX)
            have HE:=xQ (show Mem w wi [aJ w TI 1 (q) (l2) (lc) (ivs (bO Q2)),aJ w TI 1 (some ⟨w.heap.size+1,0,none⟩) (49152) (49152) (ivs D2),rW w TSS TI 1 (some ⟨gB,0,none⟩) cB s,aI w w TH3 #[aA,aB,.slice p n a]]from MI);clear hX HM MI cb cj;have cl:wi.cell? ⟨w.heap.size+1,v,none⟩=some (I dv):=by have:=(HE.out.ow 1).cellAt v (by omega);rw[this];simp[ivs,bg.out]
            by_cases hd0:dv<0
            ·have t4:decide (dv<0)=true:=by simp[hd0]
             have g:Hid ((D2.set v (D.getD u 0+1),Q2++ [v])=bY (D.getD u 0+1) (D,Q) (lA aA n MM u h++lW aA n MM u h (j+1))):=by show _=_;rw[d.out,←aWu,eT,←t.out,nT (by rw[af.out];exact hd0)]
             obtain⟨du,aa⟩: ∃du,du=D2.getD u 0:=⟨_,rfl⟩
             have ab:=xQ aa;have ce: -1≤du:=by omega
             have cg:du≤(k:Int):=by omega
             have b3:=aYs (du+1);obtain⟨gl,rfl,bw,bx⟩:=HE.out.so 0;have n0:=aYp u;have n1:(u:Int)<49152:=by omega
             have n2:=aYq k l2;have ck:wi.cell? ⟨gl,k,none⟩=some (I u):=by have:=(HE.out.ow 0).cellAt k (by omega);rw[this];simp[ivs,bO,bj.out]
             have cd:wi.cell? ⟨w.heap.size+1,u,none⟩=some (I du):=by have:=(HE.out.ow 1).cellAt u (by omega);rw[this,ab.out];simp only[ivs,aWp,bf.out,aX2]
             have cf:wi.frozen? ⟨w.heap.size+1,v,none⟩=false:=(HE.out.ow 1).frozenAt v;clear aa hd0;go_wp2_with (at_builtin;refine dN iA rfl _ _ rfl ((HE.out.ostore (i:=1) rfl v (I (du+1))).adv ((Ext.refl _).alloc (.cells #[v] TI))) 0 rfl rfl [I v] rfl (fC _ _ _ 1 1 _ (by first|rfl|simp) (by first|rfl|simp) (by simp[maxLen])) (fun u hu=>by obtain rfl:=aWq.1 hu;rfl) (by omega) ?_;intro q7 c7 w6 M6);have M7:=(show Mem w w6 [aJ w TI 1 (q7) (l2+1) (c7) (ivs (bO (Q2++ [v]))),aJ w TI 1 (some ⟨w.heap.size+1,0,none⟩) (49152) (49152) (ivs (D2.set v (du+1))),rW w TSS TI 1 (some ⟨gB,0,none⟩) cB s,aI w w TH3 #[aA,aB,.slice p n a]]from by rw[←eW,bO,aWs,ivs,aWs];exact M6)
             clear M6 HE cl ck cd cf;go_wp2;go_roundw
             case rel=>exact⟨j+1,q7,l2+1,c7,D2.set v (du+1),Q2++ [v],by omega,by go_num,rfl,by rw[aW5,←o.out];rfl,by rw[←g.out,←bl.out,←ab.out],fun x hx=>by
              rcases aXa hx with h|h
              ·exact b x h
              ·omega,M7⟩
             case measure=>simp[intOf];omega
            have t4:decide (dv<0)=false:=by simp[hd0]
            have g:Hid ((D2,Q2)=bY (D.getD u 0+1) (D,Q) (lA aA n MM u h++lW aA n MM u h (j+1))):=by show _=_;rw[d.out,←aWu,eT,←t.out,pV (by rw[af.out];exact hd0)]
            clear hd0;go_wp2;go_roundw
            case rel=>exact⟨j+1,q,l2,lc,D2,Q2,by omega,by go_num,rfl,o.out,g.out,b.out,HE.out⟩
            case measure=>simp[intOf];omega
           have t3:((f:Int)==(C:Int))=false:=by simp;omega
           have ap:(C:Int)*4096+(S:Int)-(Ph:Int)+(Pf:Int)=(v:Int):=by have:=bm.out;unfold eL at this;rw[if_neg hcar]at this;omega
           have a6:=xQ ap;clear ap hcar;go_wp2;have a7:=aYs ((C:Int)*4096);have an:=aYs ((C:Int)*4096+(S:Int));have a8:=aYs ((C:Int)*4096+(S:Int)-(Ph:Int));have a9:IntKind.i64.wrap ((C:Int)*4096+(S:Int)-(Ph:Int)+(Pf:Int))=(v:Int):=(aW2 _ (by omega)).trans a6.out;go_quiet (fail);generalize aq:World.drewN wr _=wi;have hX:Ext wr wi:=by rw[←aq];exact Ext.drewN (Ext.refl _) _
           clear aq a7 an a8 a9;have MI:=(HM.adv hX)
           have HE:=xQ (show Mem w wi [aJ w TI 1 (q) (l2) (lc) (ivs (bO Q2)),aJ w TI 1 (some ⟨w.heap.size+1,0,none⟩) (49152) (49152) (ivs D2),rW w TSS TI 1 (some ⟨gB,0,none⟩) cB s,aI w w TH3 #[aA,aB,.slice p n a]]from MI);clear hX HM MI cb cj;have cl:wi.cell? ⟨w.heap.size+1,v,none⟩=some (I dv):=by have:=(HE.out.ow 1).cellAt v (by omega);rw[this];simp[ivs,bg.out]
           by_cases hd0:dv<0
           ·have t4:decide (dv<0)=true:=by simp[hd0]
            have g:Hid ((D2.set v (D.getD u 0+1),Q2++ [v])=bY (D.getD u 0+1) (D,Q) (lA aA n MM u h++lW aA n MM u h (j+1))):=by show _=_;rw[d.out,←aWu,eT,←t.out,nT (by rw[af.out];exact hd0)]
            obtain⟨du,aa⟩: ∃du,du=D2.getD u 0:=⟨_,rfl⟩
            have ab:=xQ aa;have ce: -1≤du:=by omega
            have cg:du≤(k:Int):=by omega
            have b3:=aYs (du+1);obtain⟨gl,rfl,bw,bx⟩:=HE.out.so 0;have n0:=aYp u;have n1:(u:Int)<49152:=by omega
            have n2:=aYq k l2;have ck:wi.cell? ⟨gl,k,none⟩=some (I u):=by have:=(HE.out.ow 0).cellAt k (by omega);rw[this];simp[ivs,bO,bj.out]
            have cd:wi.cell? ⟨w.heap.size+1,u,none⟩=some (I du):=by have:=(HE.out.ow 1).cellAt u (by omega);rw[this,ab.out];simp only[ivs,aWp,bf.out,aX2]
            have cf:wi.frozen? ⟨w.heap.size+1,v,none⟩=false:=(HE.out.ow 1).frozenAt v;clear aa hd0;go_wp2_with (at_builtin;refine dN iA rfl _ _ rfl ((HE.out.ostore (i:=1) rfl v (I (du+1))).adv ((Ext.refl _).alloc (.cells #[v] TI))) 0 rfl rfl [I v] rfl (fC _ _ _ 1 1 _ (by first|rfl|simp) (by first|rfl|simp) (by simp[maxLen])) (fun u hu=>by obtain rfl:=aWq.1 hu;rfl) (by omega) ?_;intro q7 c7 w6 M6);have M7:=(show Mem w w6 [aJ w TI 1 (q7) (l2+1) (c7) (ivs (bO (Q2++ [v]))),aJ w TI 1 (some ⟨w.heap.size+1,0,none⟩) (49152) (49152) (ivs (D2.set v (du+1))),rW w TSS TI 1 (some ⟨gB,0,none⟩) cB s,aI w w TH3 #[aA,aB,.slice p n a]]from by rw[←eW,bO,aWs,ivs,aWs];exact M6)
            clear M6 HE cl ck cd cf;go_wp2;go_roundw
            case rel=>exact⟨j+1,q7,l2+1,c7,D2.set v (du+1),Q2++ [v],by omega,by go_num,rfl,by rw[aW5,←o.out];rfl,by rw[←g.out,←bl.out,←ab.out],fun x hx=>by
             rcases aXa hx with h|h
             ·exact b x h
             ·omega,M7⟩
            case measure=>simp[intOf];omega
           have t4:decide (dv<0)=false:=by simp[hd0]
           have g:Hid ((D2,Q2)=bY (D.getD u 0+1) (D,Q) (lA aA n MM u h++lW aA n MM u h (j+1))):=by show _=_;rw[d.out,←aWu,eT,←t.out,pV (by rw[af.out];exact hd0)]
           clear hd0;go_wp2;go_roundw
           case rel=>exact⟨j+1,q,l2,lc,D2,Q2,by omega,by go_num,rfl,o.out,g.out,b.out,HE.out⟩
           case measure=>simp[intOf];omega
         have d:Hid (lA aA n MM u h++lW aA n MM u h j=lA aA n MM u (h+1)):=by show _=_;rw[aBn,aSl au.out,←a4.out,show j=nb.length by omega]
         rw[d.out]at t;obtain rfl:nb.length=j:=by omega
         go_wp2;go_roundw
         case rel=>exact⟨h+1,q,l2,lc,D2,Q2,by omega,by go_num,rfl,o.out,t.out,b.out,HM⟩
         case measure=>simp[intOf];omega
      obtain rfl:n=h:=by omega
      have hI:=HI.out.step HU (fun v hv=>yB hn u v ao hv);have he:=t.out;obtain⟨r,hr⟩:=(aIc HI HU.out (fun v hv=>yB hn u v ao hv) (aOd (aVz _)) he).pre;dsimp only at hr;have bz:k+1≤l2:=by rw[o.out,hr,aW5];have:=HL.out;omega
      clear hr;rw[yU]at he;rw[←he]at hI;have ca:=xQ hI;clear hI he;go_wp2;go_roundw
      case rel=>exact⟨k+1,q,l2,lc,D2,Q2,bz,by go_num,rfl,o.out,fun x hx=>by have:=b x hx;omega,ca.out,HM⟩
      case measure=>simp[intOf];omega
    have ak:=xQ (HI.out.dist (by have:=HL.out;dsimp only;omega));go_wp2;go_ret;refine⟨D,ak.out,fE ak.out.len (HM.ow 1) HM.ext⟩
theorem aLb (hS:Sl w p n a 1 (ivs xs))(b:aO aA aB xs=true):
  U 168 #[aH aA aB p n a] w fun e w'=> ∃D,gO aA n (bX xs).length D∧cC D w e w':=by
 have hl:=hS.ilen;obtain⟨g1,g2,g3,g4,g5,g6,g7⟩:=cQ (dH b);have hp:(2:Nat) ^ n≤2 ^ 12:=aWi (by omega) (by omega);have d:(2:Nat) ^ n%2=0:=by obtain⟨m,hm⟩: ∃m,n=m+1:=⟨n-1,by omega⟩;rw[hm,Nat.pow_succ];omega
 refine aK5 aA aB p n a (bX xs).length (2 ^ n) w (by omega) (by omega) rfl (by omega) d (fun w' hx=> ?_) (fun m w' hm=>aLc m w' (by omega)) (fun w' hx=>aG1 aA aB p n a xs w' (hS.ext hx) b);exact(xP aA aB p n a xs w' (hS.ext hx) b).mono fun e w'' ⟨q,c,h1,_,h3⟩=>⟨q,c,h1,h3⟩
structure aF3 (aA aB:Int) (xs:List Int) (D:List Int) (c:Nat) (id:Int) (j:Nat) (ys:List Int):Prop where
 ok:aO aA aB ys=true
 len:ys.length=xs.length
 free:aP ys=(gP aA xs.length (bD D) (c,aP xs) j).2
 at_:ys[(gP aA xs.length (bD D) (c,aP xs) j).1]? =some id
theorem aEu {aA aB:Int}(a:aO aA aB ys=true)(hi:1≤id)(hc:ys[c]? =some id):kP aA aB ys id=(c:Int):=by
 unfold kP;rw[if_pos ⟨a,hi⟩];refine xL hc (fun hm=> ?_);unfold aO at a;rw[aWc]at a;obtain⟨h1,h2,h3⟩:=(fW _ _).1 a.2;obtain⟨d,b⟩:=aW3.1 hc;have e1:ys=ys.take c++ys.drop c:=(List.take_append_drop c ys).symm;have hd:id∈ys.drop c:=by rw[uI hc];simp
 rw[e1,aX8,List.nodup_append]at h3;exact h3.2.2 id (aWy.2 ⟨hm,by simp;omega⟩) id (aWy.2 ⟨hd,by simp;omega⟩) rfl
theorem aPs {aA aB:Int}{xs:List Int}(h:aO aA aB xs=true)(hc:xs[c]? =some id)(h0:id≠0)(hD:gO aA xs.length (bX xs).length D)(hd:bD D c (aP xs)=d)(hj:j<d)(hw:aF3 aA aB xs D c id j ys):
  ∃(J:Nat) (es:List (Nat×Nat)),es=fN aA xs.length (aP ys)∧jY aA aB ys=es.map lH∧J<es.length∧es[J]? =some (jK aA xs.length (bD D) (c,aP xs) j)∧
   (∀i e,i≤J→es[i]? =some e→e∈fN aA xs.length (aP ys)∧(bD D (eL (gP aA xs.length (bD D) (c,aP xs) j).1 e.1 e.2) (dP (aP ys) e.1 e.2)=(d:Int)-j-1↔i=J))∧
   ∀e,es[J]? =some e→aF3 aA aB xs D c id (j+1) (bQ aA aB ys (e.1:Int) (e.2:Int)):=by
 obtain⟨b1,b2,b3,b4,b5,b6,b7⟩:=cQ (dH h);have hp:=nP hc h0;obtain⟨e1,e2,e3⟩:=mZ b5 b6 hD hp hd hj;obtain⟨g1,g2⟩:=lP b5 b6 hD hp hd j (by omega);have l:=aFr hw.ok;rw[hw.len]at l;have b:jK aA xs.length (bD D) (c,aP xs) j∈fN aA xs.length (aP ys):=by rw[hw.free];exact e2
 have k:(fN aA xs.length (aP ys)).find? (fun e=>decide (bD D (eL (gP aA xs.length (bD D) (c,aP xs) j).1 e.1 e.2) (dP (aP ys) e.1 e.2)=(d:Int)-j-1))=some (jK aA xs.length (bD D) (c,aP xs) j):=by have:=e1;unfold oW at this;rw[←hw.free,←g2]at*;rw[hw.free]at*;exact this
 have w:=List.find?_some k;obtain⟨J,m,a,g,n⟩:=aN1 (p:=fun e:Nat×Nat=>decide (bD D (eL (gP aA xs.length (bD D) (c,aP xs) j).1 e.1 e.2) (dP (aP ys) e.1 e.2)=(d:Int)-j-1)) (d:=(0,0)) b w;rw[k]at a g;simp only[Option.getD_some]at a g;refine⟨J,_,rfl,l,m,a,fun i e hi he=>⟨aW1 he,?_⟩,fun e he=> ?_⟩
 ·constructor
  ·intro hh;rcases Nat.lt_or_ge i J with u|r
   ·have:=n i e u he;simp only[decide_eq_false_iff_not]at this;exact absurd hh this
   exact Nat.le_antisymm hi r
  intro s;have o:some (jK aA xs.length (bD D) (c,aP xs) j)=some e:=by rw[←a,←s];exact he
  have q:=Option.some.inj o;rw[←q];exact of_decide_eq_true g
 rw[a]at he;injection he with he;subst he;have v:jK aA xs.length (bD D) (c,aP xs) j∈fN aA ys.length (aP ys):=by rw[hw.len];exact b
 obtain⟨m1,m2,m3,m4⟩:=zG hw.ok (f:=(jK aA xs.length (bD D) (c,aP xs) j).1) (t:=(jK aA xs.length (bD D) (c,aP xs) j).2) v;refine⟨kS _ _ hw.ok,by rw[dO,hw.len],?_,?_⟩
 ·rw[m3,e3,hw.free];rfl
 rw[e3];exact m4 _ _ hw.at_ h0
end
end Go.Proofs.YthfmmibomhhmpabGreatDoor
