/-
  Texts of this proof, packed (@packed).
-/
import Derived.Test.YtbgkcehffiogcaaGreatDoorY14
namespace Go.Proofs.YtbgkcehffiogcaaGreatDoor
set_option linter.unusedSimpArgs false
set_option linter.unusedVariables false
set_option maxHeartbeats 8000000
set_option maxRecDepth 100000
structure oJ (adj:Nat→List Nat) (D:Nat→Int) (g:Nat→Nat) (d start:Nat):Prop where
 zero:g 0=start
 dist: ∀j,j≤d→D (g j)=d-j
 next: ∀j,j<d→(adj (g j)).find? (fun v=>decide (D v=D (g j)-1))=some (g (j+1))
structure aEx (adj:Nat→List Nat) (D:Nat→Int) (N:Nat):Prop where
 edge: ∀u v,u<N→v∈adj u→0≤D u→0≤D v∧D u≤D v+1
 bd: ∀u v,u<N→v∈adj u→v<N
structure Fwd (adj:Nat→List Nat) (D:Nat→Int) (g:Nat→Nat) (d N start k:Nat) (B A:List Int) (Q:List Nat):Prop where
 inv:Inv adj [start] N k (A,Q)
 blen:B.length=N
 bmem: ∀v,v<N→(0≤B.getD v 0↔v∈Q)
 ngoal: ∀(i u:Nat),i<k→Q[i]? =some u→D u≠0
 tri: ∀v∈Q,0≤D v∧(d:Int)≤A.getD v 0+D v
 chain: ∀j:Nat,j<d→g (j+1)∈Q→A.getD (g (j+1)) 0=j+1→B.getD (g (j+1)) 0=g j
 tight: ∀(i v:Nat),Q[i]? =some v→A.getD v 0+D v=d→ ∃i',i'≤i∧Q[i']? =some (g (A.getD v 0).toNat)
structure FMid (adj:Nat→List Nat) (D:Nat→Int) (g:Nat→Nat) (d N start k u:Nat) (ws:List Nat) (A0:List Int) (Q0:List Nat) (B A:List Int) (Q:List Nat):Prop where
 mid:Mid adj [start] N k u ws (A0,Q0) (A,Q)
 blen:B.length=N
 bmem: ∀v,v<N→(0≤B.getD v 0↔v∈Q)
 tri: ∀v∈Q,0≤D v∧(d:Int)≤A.getD v 0+D v
 chain: ∀j:Nat,j<d→g (j+1)∈Q→A.getD (g (j+1)) 0=j+1→B.getD (g (j+1)) 0=g j
 tight: ∀(i v:Nat),Q[i]? =some v→A.getD v 0+D v=d→ ∃i',i'≤i∧Q[i']? =some (g (A.getD v 0).toNat)
theorem FMid.step {adj:Nat→List Nat}{D:Nat→Int}{g:Nat→Nat}{d N c k u w:Nat}{ws af:List Nat}{B0 A0:List Int}{Q0:List Nat}{B A:List Int}{Q:List Nat}
  (hG:oJ adj D g d c)(hD:aEx adj D N)(h0:Fwd adj D g d N c k B0 A0 Q0)(hu:Q0[k]? =some u) (h:FMid adj D g d N c k u ws A0 Q0 B A Q) (p:adj u=ws++w::af):
  ∃B' A' Q',eG (u:Int) (B,Q) w=(B',Q')∧eG (A0.getD u 0+1) (A,Q) w=(A',Q')∧FMid adj D g d N c k u (ws++ [w]) A0 Q0 B' A' Q':=by
 have o:u∈Q0:=aPz hu;have s:u<N:=h0.inv.bd u o;have hw:w∈adj u:=by rw[p];simp
 have n:w<N:=hD.bd u w s hw;have q:A0.getD u 0=A.getD u 0:=(h.mid.same u o).symm;have m:=h.mid.step o hw n q;obtain⟨r,hr⟩:=h.mid.pre;dsimp only at hr;have ab:u∈Q:=by rw[hr];exact aQx _ o
 have y:Q[k]? =some u:=by have hk:k<Q0.length:=(aPy.1 hu).1;rw[hr,aQc hk];exact hu
 have ap:0≤A.getD u 0:=(h.mid.mem u s).2 ab;by_cases hc:w∈Q
 ·have hB: ¬B.getD w 0<0:=by have:=(h.bmem w n).2 hc;omega
  have hA: ¬A.getD w 0<0:=by have:=(h.mid.mem w n).2 hc;dsimp only at this;omega
  refine⟨B,A,Q,by unfold eG;rw[if_neg hB],by unfold eG;rw[if_neg hA],?_⟩;have e:eG (A0.getD u 0+1) (A,Q) w=(A,Q):=by unfold eG;rw[if_neg hA]
  rw[e]at m;exact⟨m,h.blen,h.bmem,h.tri,h.chain,h.tight⟩
 have hB:B.getD w 0<0:=by
  by_cases hh:B.getD w 0<0
  ·exact hh
  exact absurd ((h.bmem w n).1 (by omega)) hc
 have hA:A.getD w 0<0:=by
  by_cases hh:A.getD w 0<0
  ·exact hh
  exact absurd ((h.mid.mem w n).1 (by dsimp only;omega)) hc
 have aa: ∀v∈Q,w≠v:=fun v hv e=>hc (by rw[e];exact hv)
 refine⟨B.set w u,A.set w (A0.getD u 0+1),Q++ [w],by unfold eG;rw[if_pos hB],by unfold eG;rw[if_pos hA],?_⟩;have e:eG (A0.getD u 0+1) (A,Q) w=(A.set w (A0.getD u 0+1),Q++ [w]):=by unfold eG;rw[if_pos hA]
 rw[e]at m;have al:w<B.length:=by rw[h.blen];exact n
 have ak:w<A.length:=by have:=h.mid.len;dsimp only at this;omega
 have sB:(B.set w (u:Int)).getD w 0=u:=cH al;have sA:(A.set w (A0.getD u 0+1)).getD w 0=A.getD u 0+1:=by rw[cH ak,q]
 obtain⟨am,aq⟩:=h.tri u ab;obtain⟨e1,e2⟩:=hD.edge u w s hw am
 -- if w is tight, then so is u; and the step that is first is there
 have ae:A.getD u 0+1+D w=d→ ∃i',i'≤k∧Q[i']? =some (g (A.getD u 0).toNat)∧(i'<k→g ((A.getD u 0).toNat+1)∈Q)∧(i'=k→u=g (A.getD u 0).toNat):=by
  intro ht;obtain⟨i',l,hq⟩:=h.tight k u y (by omega);refine⟨i',l,hq,fun hlt=> ?_,fun he=> ?_⟩
  ·have hk:k<Q0.length:=(aPy.1 hu).1;have ai:Q0[i']? =some (g (A.getD u 0).toNat):=by rw[hr,aQc (by omega)]at hq;exact hq
   have f:(A.getD u 0).toNat<d:=by omega
   have z:g ((A.getD u 0).toNat+1)∈adj (g (A.getD u 0).toNat):=aRo (hG.next _ f);have:=(h0.inv.done i' _ hlt ai _ z).1;rw[hr];exact aQx _ this
  subst he;rw[y]at hq;injection hq
 have first:A.getD u 0+1+D w=d→g ((A.getD u 0).toNat+1)∈Q∨g ((A.getD u 0).toNat+1)=w:=by
  intro ht;obtain⟨i',l,hq,k1,k2⟩:=ae ht;by_cases he:i'=k
  ·have ad:=k2 he;have f:(A.getD u 0).toNat<d:=by omega
   have hn:=hG.next _ f;rw[←ad,p]at hn;have an:D u=d-(A.getD u 0).toNat:=by have:=hG.dist _ (Nat.le_of_lt f);rw[←ad]at this;exact this
   rw[List.find?_append]at hn;cases hf:ws.find? (fun v=>decide (D v=D u-1))with
   |some x=>rw[hf,Option.some_or]at hn;injection hn with hn;left;rw[←hn];exact h.mid.seen x (aRo hf)
   |none=>rw[hf]at hn;right;rw[Option.none_or,List.find?_cons_of_pos (by simp;omega)]at hn;injection hn with hn;exact hn.symm
  exact .inl (k1 (by omega))
 refine⟨m,by simp[h.blen],?_,?_,?_,?_⟩
 ·intro v hv;by_cases ev:w=v
  ·subst ev;rw[sB];exact⟨fun _=>by simp,fun _=>by omega⟩
  rw[bP ev,h.bmem v hv];simp;intro e2;exact absurd e2.symm ev
 ·intro v hv;rcases aQf.1 hv with hv|hv
  ·rw[bP (aa v hv)];exact h.tri v hv
  simp at hv;subst hv;rw[sA];exact⟨e1,by omega⟩
 ·intro j hj hm ha;by_cases ev:w=g (j+1)
  ·rw[←ev]at ha⊢;rw[sA]at ha;rw[sB];have ao:D w=d-(j+1:Nat):=by rw[ev];exact hG.dist (j+1) (by omega)
   have ht:A.getD u 0+1+D w=d:=by omega
   obtain⟨i',l,hq,k1,k2⟩:=ae ht;have t:(A.getD u 0).toNat=j:=by omega
   by_cases he:i'=k
   ·have:=k2 he;rw[t]at this;rw[this]
   have:=k1 (by omega);rw[t,←ev]at this;exact absurd this hc
  rcases aQf.1 hm with hm|hm
  ·rw[bP ev]at ha⊢;exact h.chain j hj hm ha
  simp at hm;exact absurd hm.symm ev
 intro i v hi ht;by_cases hiQ:i<Q.length
 ·rw[aQc hiQ]at hi;have aj:v∈Q:=aPz hi;rw[bP (aa v aj)]at ht⊢;obtain⟨i',a,b⟩:=h.tight i v hi ht;exact⟨i',a,by rw[aQc (by omega)];exact b⟩
 have ah:i<(Q++ [w]).length:=(aPy.1 hi).1;have ag:i=Q.length:=by simp at ah;omega
 subst ag;simp at hi;subst hi;rw[sA]at ht⊢;have e3:(A.getD u 0+1).toNat=(A.getD u 0).toNat+1:=by omega
 rw[e3];rcases first ht with hm|hm
 ·obtain⟨i',l,ei⟩:=aRb hm;exact⟨i',by omega,by rw[aQc l,aPw l,ei]⟩
 exact⟨Q.length,aPv _,by rw[hm,aQq (aPv _)];simp⟩
theorem Fwd.mid {adj:Nat→List Nat}{D:Nat→Int}{g:Nat→Nat}{d N a k u:Nat}{B A:List Int}{Q:List Nat}(h:Fwd adj D g d N a k B A Q)(hu:Q[k]? =some u):FMid adj D g d N a k u [] A Q B A Q:=
 ⟨h.inv.mid hu,h.blen,h.bmem,h.tri,h.chain,h.tight⟩
theorem FMid.many {adj:Nat→List Nat}{D:Nat→Int}{g:Nat→Nat}{d N a k u:Nat}{B0 A0:List Int}{Q0:List Nat}
  (hG:oJ adj D g d a)(hD:aEx adj D N)(h0:Fwd adj D g d N a k B0 A0 Q0)(hu:Q0[k]? =some u):
  ∀(vs ws:List Nat) (B A:List Int) (Q:List Nat),FMid adj D g d N a k u ws A0 Q0 B A Q→adj u=ws++vs→(bK (A0.getD u 0+1) (A,Q) vs).2=(bK (u:Int) (B,Q) vs).2∧FMid adj D g d N a k u (ws++vs) A0 Q0 (bK (u:Int) (B,Q) vs).1 (bK (A0.getD u 0+1) (A,Q) vs).1 (bK (u:Int) (B,Q) vs).2:=by
 intro vs;induction vs with
 |nil=>intro ws B A Q h _;exact⟨rfl,by simpa[bK]using h⟩
 |cons v vs ih=>
  intro ws B A Q h e;obtain⟨B',A',Q',e1,e2,h1⟩:=h.step hG hD h0 hu e;have e3:bK (u:Int) (B,Q) (v::vs)=bK (u:Int) (B',Q') vs:=by show vs.foldl _ (eG (u:Int) (B,Q) v)=_;rw[e1];rfl
  have e4:bK (A0.getD u 0+1) (A,Q) (v::vs)=bK (A0.getD u 0+1) (A',Q') vs:=by show vs.foldl _ (eG (A0.getD u 0+1) (A,Q) v)=_;rw[e2];rfl
  have:=ih (ws++ [v]) B' A' Q' h1 (by rw[e];simp);rw[e3,e4];simpa using this
theorem Fwd.step {adj:Nat→List Nat}{D:Nat→Int}{g:Nat→Nat}{d N a k u:Nat}{B A:List Int}{Q:List Nat}(hG:oJ adj D g d a)(hD:aEx adj D N)(h:Fwd adj D g d N a k B A Q)(hu:Q[k]? =some u) (hg:D u≠0):
  ∃A',Fwd adj D g d N a (k+1) (bK (u:Int) (B,Q) (adj u)).1 A' (bK (u:Int) (B,Q) (adj u)).2:=by
 have b:=h.inv.bd u (aPz hu);obtain⟨e,m⟩:=FMid.many hG hD h hu (adj u) [] B A Q (h.mid hu) rfl;have hi:=h.inv.step hu (fun v hv=>hD.bd u v b hv);have e2:bK (A.getD u 0+1) (A,Q) (adj u)=((bK (A.getD u 0+1) (A,Q) (adj u)).1,(bK (u:Int) (B,Q) (adj u)).2):=by rw[←e]
 dsimp only at hi;rw[e2]at hi;obtain⟨r,hr⟩:=m.mid.pre;dsimp only at hr;refine⟨_,hi,m.blen,m.bmem,?_,m.tri,m.chain,m.tight⟩;intro i v c hv;have hk:k<Q.length:=(aPy.1 hu).1;by_cases he:i=k
 ·subst he;rw[hr,aQc hk,hu]at hv;injection hv with hv;rw[←hv];exact hg
 rw[hr,aQc (by omega)]at hv;exact h.ngoal i v (by omega) hv
theorem Fwd.way {adj:Nat→List Nat}{D:Nat→Int}{g:Nat→Nat}{d N c k:Nat}{B A:List Int}{Q:List Nat}(hG:oJ adj D g d c)(h:Fwd adj D g d N c k B A Q)
  (hp: ∀(i v:Nat),Q[i]? =some v→A.getD v 0<d→i<k): ∀j,j≤d→g j∈Q∧A.getD (g j) 0=j:=by
 intro j;induction j with
 |zero=>intro _;obtain⟨a,b⟩:=h.inv.src c (by simp);rw[hG.zero];exact⟨a,by simpa using b⟩
 |succ j ih=>
  intro hj;obtain⟨a,b⟩:=ih (by omega);obtain⟨i,hi,e⟩:=aRb a;have hq:Q[i]? =some (g j):=by rw[aPw hi,e]
  have f:=hp i (g j) hq (by omega);have hm:g (j+1)∈adj (g j):=aRo (hG.next j (by omega));obtain⟨c1,c2⟩:=h.inv.done i (g j) f hq _ hm;have t:=(h.tri (g (j+1)) c1).2;have dd:=hG.dist (j+1) hj;dsimp only at c2;exact⟨c1,by omega⟩
theorem Fwd.goal {adj:Nat→List Nat}{D:Nat→Int}{g:Nat→Nat}{d N f k u:Nat}{B A:List Int}{Q:List Nat}(hG:oJ adj D g d f)(h:Fwd adj D g d N f k B A Q)(hu:Q[k]? =some u) (hz:D u=0):
  u=g d∧ ∀j,j<d→B.getD (g (j+1)) 0=g j:=by
 have o:u∈Q:=aPz hu;have hk:k<Q.length:=(aPy.1 hu).1;have n:Q[k]=u:=(aPy.1 hu).2;have t:=(h.tri u o).2;have m:=List.pairwise_iff_getElem.1 h.inv.mono;have hp: ∀(i v:Nat),Q[i]? =some v→A.getD v 0<A.getD u 0→i<k:=by
  intro i v hv hlt;obtain⟨hi,e⟩:=aPy.1 hv;by_cases hik:i<k
  ·exact hik
  exfalso;by_cases he:i=k
  ·subst he;rw[n]at e;subst e;omega
  have:=m k i hk hi (by omega);dsimp only at this;rw[n,e]at this;omega
 have hw:=h.way hG (fun i v hv hlt=>hp i v hv (by omega));obtain⟨w1,w2⟩:=hw d (aPv _);have q:=hG.dist d (aPv _);have l:D (g d)=0:=by omega
 obtain⟨i,hi,e⟩:=aRb w1;have hq:Q[i]? =some (g d):=by rw[aPw hi,e]
 have p:A.getD u 0=d:=by
  by_cases hh:A.getD u 0=d
  ·exact hh
  exfalso;have:=hp i (g d) hq (by omega);exact h.ngoal i _ this hq l
 obtain⟨i',r,c⟩:=h.tight k u hu (by omega);have e1:(A.getD u 0).toNat=d:=by omega
 rw[e1]at c;have hik:i'=k:=by
  by_cases hh:i'=k
  ·exact hh
  exact absurd l (h.ngoal i' _ (by omega) c)
 subst hik;rw[hu]at c;injection c with c;refine⟨c,fun j hj=> ?_⟩;obtain⟨a,b⟩:=hw (j+1) (by omega);exact h.chain j hj a (by omega)
theorem Fwd.more {adj:Nat→List Nat}{D:Nat→Int}{g:Nat→Nat}{d N c k:Nat}{B A:List Int}{Q:List Nat}(hG:oJ adj D g d c)(h:Fwd adj D g d N c k B A Q):k<Q.length:=by
 by_cases hk:k<Q.length
 ·exact hk
 exfalso;have hp: ∀(i v:Nat),Q[i]? =some v→i<k:=fun i v hv=>by have:=(aPy.1 hv).1;omega
 obtain⟨a,b⟩:=h.way hG (fun i v hv _=>hp i v hv) d (aPv _);obtain⟨i,hi,e⟩:=aRb a;have hq:Q[i]? =some (g d):=by rw[aPw hi,e]
 have f:=hG.dist d (aPv _);exact h.ngoal i _ (hp i _ hq) hq (by omega)
theorem Fwd.start {adj:Nat→List Nat}{D:Nat→Int}{g:Nat→Nat}{d N a:Nat}(hG:oJ adj D g d a)(hs:a<N):
  Fwd adj D g d N a 0 ((List.replicate N (-1)).set a (a:Int)) ((List.replicate N (-1)).set a 0) [a]:=by
 have hl:a<(List.replicate N (-1:Int)).length:=by simpa using hs
 have b: ∀(x:Int) v,v<N→a≠v→((List.replicate N (-1:Int)).set a x).getD v 0= -1:=by intro x v hv e;rw[bP e];simp[List.getD,hv]
 refine⟨⟨by simp,by simpa using hs,?_,by simp,by simp,?_,?_,?_,fun i u hi=>by omega⟩,by simp,?_,fun i u hi=>by omega,?_,?_,?_⟩
 ·intro v hv;dsimp only;by_cases e:a=v
  ·subst e;rw[cH hl];simp
  rw[b 0 v hv e];simp;exact fun h=>e h.symm
 ·intro u hu v hv;simp at hu hv;subst hu hv;omega
 ·intro v hv;simp at hv;subst hv;dsimp only;rw[cH hl];simp[oO]
 ·intro v hv;simp at hv;subst hv;exact⟨by simp,cH hl⟩
 ·intro v hv;by_cases e:a=v
  ·subst e;rw[cH hl];simp
  rw[b _ v hv e];simp;exact fun h=>e h.symm
 ·intro v hv;simp at hv;subst hv;have:=hG.dist 0 (aQ1 _);rw[hG.zero]at this;rw[cH hl];omega
 ·intro j hj hm ha;simp at hm;rw[hm,cH hl]at ha;omega
 intro i v hi ht;have c:i=0:=by have:=(aPy.1 hi).1;simp at this;omega
 subst c;simp at hi;subst hi;rw[cH hl];exact⟨0,aPv _,by simp[hG.zero]⟩
section
open Go.RowKit
def aCl (adj:Nat→List Nat):Nat→Nat→List Int×List Nat→List Int×List Nat
 |0,_,s=>s
 |m+1,k,s=>match s.2[k]? with
  |none=>s
  |some u=>aCl adj m (k+1) (bK (s.1.getD u 0+1) s (adj u))
theorem aEs {adj:Nat→List Nat}{src:List Nat}{N:Nat}(ha: ∀u v,u<N→v∈adj u→v<N): ∀(m k:Nat) (s:List Int×List Nat),Inv adj src N k s→N≤k+m→tF adj src N (aCl adj m k s).1:=by
 intro m;induction m with
 |zero=>intro k s hI hk;exact hI.dist (aQ4 hI.qlen (by omega))
 |succ m ih=>
  intro k s hI hk;rw[aCl];cases hu:s.2[k]? with
  |none=>exact hI.dist (by rw[List.getElem?_eq_none_iff]at hu;exact hu)
  |some u=>exact ih (k+1) _ (hI.step hu (fun v hv=>ha _ v (hI.bd _ (aPz hu)) hv)) (by omega)
def gJ (aA:Int)(n many:Nat):List Int:=(aCl (yN aA n MM) NN 0 (jA NN (wH n many),wH n many)).1
theorem lZ {aA:Int}{n many:Nat}(hn:n≤12):eT aA n many (gJ aA n many):=
 aEs (tE hn) _ _ _ (Inv.begin (aHn hn) wG) (by omega)
abbrev jH (e:Nat×Nat):Sl2:=((e.1:Int),(e.2:Int))
def oP (aA:Int)(n:Nat)(dd:Nat→Nat→Int)(s:Nat×Nat)(j:Nat):List Sl2:=(List.range j).map (fun i=>jH (gI aA n dd s i))
theorem oR (aA:Int)(n:Nat)(dd:Nat→Nat→Int)(s:Nat×Nat)(j:Nat):(oP aA n dd s j).length=j:=by simp[oP]
theorem zP (aA:Int)(n:Nat)(dd:Nat→Nat→Int)(s:Nat×Nat)(j:Nat):oP aA n dd s (j+1)=oP aA n dd s j++ [jH (gI aA n dd s j)]:=by simp[oP,aRg]
def ddH (aA:Int)(xs:List Int):Nat→Nat→Int:=aU (gJ aA xs.length (bJ xs).length)
def dJ (aA:Int)(xs:List Int)(c:Nat):Option (List Sl2):=
 if ddH aA xs c (aM xs)<0 then none else some (oP aA xs.length (ddH aA xs) (c,aM xs) (ddH aA xs c (aM xs)).toNat)
theorem lB {xs:List Int}{c:Nat}{id:Int}(hc:xs[c]? =some id) (h0:id≠0):oQ xs.length (bJ xs).length (c,aM xs):=by obtain⟨hl,he⟩:=aPy.1 hc;refine⟨hl,oD xs,?_,aCb xs⟩;show(aM xs).testBit c=false;rw[eI,fR hl,aQ0,hc];simpa using h0
section
variable {aA aB:Int} {xs:List Int} {c:Nat} {id:Int} {D:List Int}
theorem aKk (h:aN aA aB xs=true)(hc:xs[c]? =some id) (h0:id≠0) (hD:eT aA xs.length (bJ xs).length D) {d:Nat} (hd:aU D c (aM xs)=d):
  ∀j,j≤d→ ∃ys,aW aA aB xs (oP aA xs.length (aU D) (c,aM xs) j)=(ys,j)∧aN aA aB ys=true∧ys.length=xs.length∧aM ys=(gP aA xs.length (aU D) (c,aM xs) j).2∧ys[(gP aA xs.length (aU D) (c,aM xs) j).1]? =some id:=by
 obtain⟨b1,b2,b3,b4,b5,b6,b7⟩:=cM (cO h);have hp:=lB hc h0;intro j;induction j with
 |zero=>intro _;exact⟨xs,rfl,h,rfl,rfl,hc⟩
 |succ j ih=>
  intro hj;obtain⟨ys,h1,h2,h3,h4,h5⟩:=ih (by omega);obtain⟨e1,e2,e3⟩:=kP b5 b6 hD hp hd (show j<d by omega);have hw:=zP aA xs.length (aU D) (c,aM xs) j;generalize gI aA xs.length (aU D) (c,aM xs) j=e at*;obtain⟨f,t⟩:=e;rw[←h4,←h3]at e2;obtain⟨m1,m2,m3,m4⟩:=uI h2 e2;refine⟨bE aA aB ys (f:Int) (t:Int),?_,iW _ _ h2,by rw[cT,h3],?_,?_⟩
  ·rw[hw,qT _ _ _ (by rw[h1,oR]),h1,oR];dsimp only;rw[if_pos m1]
  ·rw[m3,e3,h4];rfl
  rw[e3];exact m4 _ _ h5 h0
theorem uK (h:aN aA aB xs=true)(hc:xs[c]? =some id) (h0:id≠0) (hD:eT aA xs.length (bJ xs).length D):(bJ xs≠ []→0≤aU D c (aM xs)∧aU D c (aM xs)≤60)∧(c=0→aU D c (aM xs)=0)∧(bJ xs= []→c≠0→aU D c (aM xs)<0):=by
 obtain⟨b1,b2,b3,b4,b5,b6,b7⟩:=cM (cO h);have hp:=lB hc h0;obtain⟨k1,k2,k3⟩:=nW b6 hp;refine⟨fun hf=> ?_,fun hc0=> ?_,fun hf hc0=> ?_⟩
 ·obtain⟨u,hu⟩:=List.exists_mem_of_ne_nil _ hf;obtain⟨u1,u2⟩:=kG hu;have hb:(aM xs).testBit u=true:=by rw[eI,fR u1,u2];rfl
  have hg:=kE h;obtain⟨a,b⟩:=aN1 hg b5 b6 hD _ _ u (aPv _) k1 (by rw[k3];exact hp.many) (by rw[k3];exact hb);rw[k2]at b;exact⟨a,Int.le_trans b (by have:=(wU hg hp.car u1).1;exact_mod_cast this)⟩
 ·subst hc0;refine(hD.zero _ (oX b6 k1)).2 (jM.2 ?_);rw[Nat.zero_mul,aR2];exact⟨hp.set,hp.occ,hp.many⟩
 rcases Int.lt_or_le (aU D c (aM xs)) 0 with f|d
 ·exact f
 exfalso;rcases Int.lt_or_eq_of_le d with h1|h1
 ·obtain⟨e,e1,e2,_⟩:=tV b5 b6 hD hp h1;obtain⟨_,g2,_,_,g5⟩:=fG.1 e2;have hm:e.2∈bJ xs:=by
   unfold bJ;rw[aQn];exact⟨aQe.2 g2,by rw[←eI];exact g5⟩
  rw[hf]at hm;cases hm
 have hz:=(hD.zero _ (oX b6 k1)).1 h1.symm;have h2:=(jM.1 hz).1;have h3:=Nat.div_eq_of_lt (aPu h2 (iQ b6));rw[k2]at h3;exact hc0 h3
theorem aKh (h:aN aA aB xs=true)(hc:xs[c]? =some id) (h0:id≠0) (hD:eT aA xs.length (bJ xs).length D):
  (0≤aU D c (aM xs)↔0≤ddH aA xs c (aM xs))∧(0≤aU D c (aM xs)→aU D c (aM xs)=ddH aA xs c (aM xs)∧oP aA xs.length (aU D) (c,aM xs) (aU D c (aM xs)).toNat=oP aA xs.length (ddH aA xs) (c,aM xs) (ddH aA xs c (aM xs)).toNat):=by
 obtain⟨b1,b2,b3,b4,b5,b6,b7⟩:=cM (cO h);have hp:=lB hc h0;have hE:=lZ (aA:=aA) (many:=(bJ xs).length) b6;obtain⟨s1,s2⟩:=aAr hD hE (oX b6 (nW b6 hp).1);refine⟨s1,fun h1=> ?_⟩;have e1:aU D c (aM xs)=ddH aA xs c (aM xs):=s2 h1;refine⟨e1,?_⟩;obtain⟨d,hd⟩:=aQi h1;rw[←e1,hd];unfold oP;refine List.map_congr_left fun i hi=> ?_
 have:=aQe.1 hi;rw[aH7 b5 b6 hD hE hp hd (show i<d by simpa using this)];rfl
theorem yK (h:aN aA aB xs=true)(hc:xs[c]? =some id) (h0:id≠0) (hD:eT aA xs.length (bJ xs).length D):dJ aA xs c=if aU D c (aM xs)<0 then none else some (oP aA xs.length (aU D) (c,aM xs) (aU D c (aM xs)).toNat):=by
 obtain⟨a,b⟩:=aKh h hc h0 hD;unfold dJ;by_cases h1:0≤aU D c (aM xs)
 ·rw[if_neg (by have:=a.1 h1;omega),if_neg (by omega),(b h1).2]
 rw[if_pos (by have:=fun x=>h1 (a.2 x);omega),if_pos (by omega)]
theorem pP (h:aN aA aB xs=true)(hc:xs[c]? =some id) (h0:id≠0):(dJ aA xs c=none↔bJ xs= []∧c≠0)∧ ∀l,dJ aA xs c=some l→l.length≤60∧ ∃ys,aW aA aB xs l=(ys,l.length)∧aN aA aB ys=true∧ys.length=xs.length∧ys[0]? =some id:=by
 obtain⟨b1,b2,b3,b4,b5,b6,b7⟩:=cM (cO h);have hE:=lZ (aA:=aA) (many:=(bJ xs).length) b6;obtain⟨n1,n2,n3⟩:=uK h hc h0 hE;have e:ddH aA xs c (aM xs)=aU (gJ aA xs.length (bJ xs).length) c (aM xs):=rfl;constructor
 ·unfold dJ;rw[e];constructor
  ·intro hn;by_cases hf:bJ xs= []
   ·refine⟨hf,fun hc0=> ?_⟩;rw[n2 hc0]at hn;simp at hn
   rw[if_neg (by have:=(n1 hf).1;omega)]at hn;cases hn
  rintro⟨hf,hc0⟩;rw[if_pos (n3 hf hc0)]
 intro l hl;unfold dJ at hl;rw[e]at hl;by_cases h1:aU (gJ aA xs.length (bJ xs).length) c (aM xs)<0
 ·rw[if_pos h1]at hl;cases hl
 rw[if_neg h1]at hl;injection hl with hl;obtain⟨d,hd⟩:=aQi (show 0≤aU (gJ aA xs.length (bJ xs).length) c (aM xs) by omega);have a:l.length=d:=by rw[←hl,oR,hd];rfl
 have b:d≤60:=by
  by_cases hf:bJ xs= []
  ·by_cases hc0:c=0
   ·have:=n2 hc0;omega
   exact absurd (n3 hf hc0) h1
  have:=(n1 hf).2;omega
 refine⟨by omega,?_⟩;obtain⟨ys,w1,w2,w3,w4,w5⟩:=aKk h hc h0 hE hd d (aPv _);have hz:=(aMo b5 b6 hE (lB hc h0) hd (aPv d)).2 rfl;rw[hz]at w5;refine⟨ys,?_,w2,w3,w5⟩;rw[a,←w1,←hl,hd];rfl
end
def mN (aA aB:Int)(xs:List Int)(id:Int):Option (List Int×Nat):=
 if id<1∨id∉xs then none else(dJ aA xs (qQ xs id).toNat).map (fun l=>((aW aA aB xs l).1.set 0 0,l.length))
/-! the other search: its states, coded by 2^n -/
def eQ (n:Nat)(s:Nat×Nat):Nat:=s.1*2 ^ n+s.2
def ddM (n:Nat)(dd:Nat→Nat→Int)(v:Nat):Int:=dd (v/2 ^ n) (v%2 ^ n)
theorem kR {n:Nat}{s:Nat×Nat}(h:s.2<2 ^ n):eQ n s/2 ^ n=s.1∧eQ n s%2 ^ n=s.2:=⟨mA h,iB h⟩
theorem yF {n:Nat}{dd:Nat→Nat→Int}{s:Nat×Nat}(h:s.2<2 ^ n):ddM n dd (eQ n s)=dd s.1 s.2:=by obtain⟨a,b⟩:=kR h;unfold ddM;rw[a,b]
section
variable {aA:Int} {n many:Nat} {D:List Int}
theorem aKc {s:Nat×Nat}(h:s.2<2 ^ n):oI aA n (2 ^ n) (eQ n s)=(eC aA n s.2).map (fun e=>eQ n (jX s e)):=by obtain⟨a,b⟩:=kR h;unfold oI;rw[a,b];rfl
theorem tC {s:Nat×Nat}(h1:s.1<n)(h2:s.2<2 ^ n):eQ n s<n*2 ^ n:=by unfold eQ;have:(s.1+1)*2 ^ n≤n*2 ^ n:=aRi _ h1;rw[aS0]at this;omega
theorem xZ (c:4≤n)(hn:n≤12)(hD:eT aA n many D){s:Nat×Nat}(h:oQ n many s){d:Nat}(hd:aU D s.1 s.2=d):
  oJ (oI aA n (2 ^ n)) (ddM n (aU D)) (fun j=>eQ n (gP aA n (aU D) s j)) d (eQ n s):=by
 refine⟨rfl,fun j hj=> ?_,fun j hj=> ?_⟩
 ·obtain⟨a,b⟩:=jP c hn hD h hd j hj;show ddM n (aU D) (eQ n (gP aA n (aU D) s j))=_;rw[yF a.set,b]
 obtain⟨a,b⟩:=jP c hn hD h hd j (by omega);obtain⟨e1,e2,e3⟩:=kP c hn hD h hd hj;rw[aKc a.set,yF a.set,e3];rw[List.find?_map];have f:(eC aA n (gP aA n (aU D) s j).2).find? ((fun v=>decide (ddM n (aU D) v=aU D (gP aA n (aU D) s j).1 (gP aA n (aU D) s j).2-1))∘fun e=>eQ n (jX (gP aA n (aU D) s j) e))=mI aA n (aU D) (gP aA n (aU D) s j):=by
  unfold mI;have k2: ∀l:List (Nat×Nat),(∀e∈l,e∈eC aA n (gP aA n (aU D) s j).2)→l.find? ((fun v=>decide (ddM n (aU D) v=aU D (gP aA n (aU D) s j).1 (gP aA n (aU D) s j).2-1))∘fun e=>eQ n (jX (gP aA n (aU D) s j) e))=l.find? (fun e=>decide (aU D (dI (gP aA n (aU D) s j).1 e.1 e.2) (cV (gP aA n (aU D) s j).2 e.1 e.2)=aU D (gP aA n (aU D) s j).1 (gP aA n (aU D) s j).2-1)):=by
   intro l;induction l with
   |nil=>intro _;rw[List.find?_nil,List.find?_nil]
   |cons e l ih=>intro hl;rw[List.find?_cons,List.find?_cons,ih (fun x hx=>hl x (by simp[hx]))];have hp:=(aBi hn a (hl e (by simp))).2;have:ddM n (aU D) (eQ n (jX (gP aA n (aU D) s j) e))=aU D (dI (gP aA n (aU D) s j).1 e.1 e.2) (cV (gP aA n (aU D) s j).2 e.1 e.2):=yF hp.set;simp only[Function.comp_apply,this]
  exact k2 _ (fun e he=>he)
 rw[f,e1];rfl
theorem sW (e:4≤n)(hn:n≤12)(hD:eT aA n many D):aEx (oI aA n (2 ^ n)) (ddM n (aU D)) (n*2 ^ n):=by
 have c:0<2 ^ n:=aS4 n;have bd: ∀u v,u<n*2 ^ n→v∈oI aA n (2 ^ n) u→v/2 ^ n<n∧v%2 ^ n<2 ^ n:=fun u v hu hv=>aI4 (aPv _) ((Nat.div_lt_iff_lt_mul c).2 hu) (Nat.mod_lt _ c) (pQ.1 hv)
 refine⟨fun u v hu hv h0=> ?_,fun u v hu hv=> ?_⟩
 ·obtain⟨f,t,h1,h2,h3,h4,h5,h6,h7,h8⟩:=lH (aPv _) (Nat.mod_lt u c) (pQ.1 hv);have hc:=(Nat.div_lt_iff_lt_mul c).2 hu;have hS:=Nat.mod_lt u c;have g:u/2 ^ n*MM+u%2 ^ n<NN:=by
   have:=iQ hn;show u/2 ^ n*4096+u%2 ^ n<49152;have h4:(MM:Nat)=4096:=rfl;omega
  obtain⟨k,hk⟩:=aQi h0;obtain⟨u1,u2⟩:=aI5 e hn hD k _ g hk;have d:u%2 ^ n<MM:=aPu hS (iQ hn);have hE:rR aA n MM (u/2 ^ n*MM+u%2 ^ n) (v/2 ^ n*MM+v%2 ^ n):=⟨f,t,h1,h2,h3,by rw[iB d];exact h4,by rw[iB d];exact h5,by rw[mA d,iB d,h6,h7];rfl⟩
  obtain⟨a,b⟩:=aAt e hn hD u1 hE;exact⟨a.1 h0,(b h0).1⟩
 obtain⟨a,b⟩:=bd u v hu hv;have:=tC (s:=(v/2 ^ n,v%2 ^ n)) a b;unfold eQ at this;rw[Nat.mul_comm (v/2 ^ n),aRz]at this;exact this
theorem aN5 (b:4≤n)(hn:n≤12)(hD:eT aA n many D){v:Nat}(hv:v<n*2 ^ n)(a:zO n (2 ^ n) v)(hm:gU (v%2 ^ n)=many):ddM n (aU D) v=0↔v/2 ^ n=0:=by
 have hp:oQ n many (v/2 ^ n,v%2 ^ n):=⟨a.car,a.set,a.occ,hm⟩
 obtain⟨k1,k2,k3⟩:=nW hn hp;have hz:=hD.zero _ (oX hn k1);have e:ddM n (aU D) v=D.getD ((v/2 ^ n)*MM+v%2 ^ n) 0:=rfl;rw[e];constructor
 ·intro h;have h1:=(jM.1 (hz.1 h)).1;have h2:=Nat.div_eq_of_lt (aPu h1 (iQ hn));rwa[k2]at h2
 intro h;refine hz.2 (jM.2 ?_);dsimp only;rw[h,Nat.zero_mul,aR2];have:=a.occ;rw[h]at this;exact⟨a.set,this,hm⟩
theorem walk_ok (hn:n≤12){s:Nat×Nat}(h:oQ n many s): ∀(k v:Nat),oO (oI aA n (2 ^ n)) [eQ n s] k v→zO n (2 ^ n) v∧gU (v%2 ^ n)=many:=by
 intro k;induction k with
 |zero=>
  intro v hv;have:v=eQ n s:=by simpa[oO]using hv
  subst this;obtain⟨a,b⟩:=kR (n:=n) h.set;exact⟨⟨by rw[a];exact h.car,by rw[b];exact h.set,by rw[a,b];exact h.occ⟩,by rw[b];exact h.many⟩
 |succ k ih=>rintro v ⟨u,hu,hv⟩;obtain⟨a,b⟩:=ih u hu;exact⟨sZ (aPv _) a (pQ.1 hv),by rw[qI (aPv _) a.set (pQ.1 hv)];exact b⟩
end
end
section
open Go.RowKit Go.Proofs.Tryz
theorem aGe (S:Nat)(w:World)(hS:S≤1099511627776):U 161 #[S] w fun e w'=>e= .returned (I (gU S))∧w=w':=by
 go_enter func161,ntmps161;go_wp2;go_loopw [0,3] (fun v i wr=> ∃(T c:Nat),v=I T∧i=I c∧c+gU T=gU S∧T≤S∧c+T≤2*S∧w=wr) (fun v _ _=>(intOf v).toNat)
 case atStart=>exact⟨S,0,rfl,rfl,by omega,aPv _,by omega,rfl⟩
 case round=>
  obtain⟨T,c,rfl,rfl,h1,h2,h3,rfl⟩:=hrel;by_cases h0:0<T
  ·have t1:(T:Int).tmod 2=((T%2:Nat):Int):=rfl;have t2:(T:Int).tdiv 2=((T/2:Nat):Int):=rfl;have hp:=sJ T;have hw:IntKind.i64.wrap ((c:Int)+((T%2:Nat):Int))=(c:Int)+((T%2:Nat):Int):=aPx _ (by omega);have HP:=xQ hp;have H1:=xQ h1;clear hp h1;go_wp2;go_roundw
   case rel=>exact⟨T/2,c+T%2,by first|rfl|go_num,by first|rfl|go_num,by have:=HP.out;have:=H1.out;omega,by omega,by omega,by trivial⟩
   case measure=>simp[intOf];omega
  have hc:Hid (c=gU S):=by show _=_;rw[←h1,show T=0 by omega];simp[gU]
  clear h1;go_wp2;go_ret;exact⟨by rw[hc.out];rfl,rfl⟩
def aHz (fr:List Nat):Nat:=fr.foldl (fun a f=>a+2 ^ f) 0
theorem aOa: ∀(l:List Nat) (a:Nat),(∀f∈l,f<12)→l.foldl (fun a f=>a+2 ^ f) a≤a+l.length*4096:=by
 intro l;induction l with
 |nil=>intro a _;simp
 |cons f l ih=>intro a h;have h1:=ih (a+2 ^ f) (fun x hx=>h x (by simp[hx]));have h2:2 ^ f≤4096:=aQ4 (aQ6 (by omega) (show f≤11 by have:=h f (by simp);omega)) (by decide);rw[List.foldl_cons,aRf,aS0];omega
theorem aOb {fr:List Nat}(h: ∀f∈fr,f<12)(k:Nat):(fr.take k).foldl (fun a f=>a+2 ^ f) 0≤k*4096:=by
 have h1:=aOa (fr.take k) 0 (fun f hf=>h f (aRj hf));have h2:(fr.take k).length≤k:=by rw[aQl];omega
 omega
theorem aMt (xs:List Int):aHz (bJ xs)=aM xs:=by
 unfold aHz bJ aM;generalize xs.length=k;induction k with
 |zero=>rfl
 |succ k ih=>rw[aRg,aQv,List.foldl_append,ih,show jI (cW xs) (k+1)=jI (cW xs) k+(if cW xs k then 2 ^ k else 0)from rfl];cases h:cW xs k<;>simp[h]
theorem aFl (aA aB:Int)(p:OA)(n b:Nat)(fr:List Nat)(F:Nat)(w:World)(hF:Hid (fr.length=F))(l:F≤12)(g:Hid (∀x∈fr,x<12))
  (HF:xC 157 #[aH aA aB p n b] w fun w' e w''=> ∃q c,e= .returned (.slice q F c)∧w''.ownsRow w' TI 1 (.slice q F c) F (ivs (bC fr))∧Ext w' w''):
  U 131 #[aH aA aB p n b] w (O (I (aHz fr)) w):=by
 go_enter func131,ntmps131;go_wp2_with fail;refine(HF _ ((Mem.start w).c0 TH3 #[aA,aB,.slice p n b]).ext).mono ?_;rintro e w1 ⟨q1,c1,rfl,h,j⟩;have M1:=(((Mem.start w).c0 TH3 #[aA,aB,.slice p n b]).call j h)
 clear j h;go_wp2;go_loopw [3,5] (fun v i wr=> ∃(k T:Nat),k≤F∧i=I k∧v=I T∧T=(fr.take k).foldl (fun a f=>a+2 ^ f) 0∧w1=wr) (fun _ i _=>F-(intOf i).toNat)
 case atStart=>exact⟨0,0,aQ1 _,rfl,rfl,rfl,rfl⟩
 case round=>
  obtain⟨k,T,hk,rfl,rfl,hT,rfl⟩:=hrel;have HT:=xQ hT
  have o:T≤12*4096:=by have:=aOb g.out k;rw[hT];have:k≤12:=by omega
                       omega
  clear hT;by_cases hlt:k<F
  ·obtain⟨f,hf⟩: ∃f,fr[k]? =some f:=⟨_,aPw (by rw[hF.out];exact hlt)⟩
   have t:f<12:=g.out f (aPz hf);obtain⟨gf,rfl,r,s⟩:=M1.so 0;have cu:w1.cell? ⟨gf,k,none⟩=some (I f):=by have:=(M1.ow 0).cellAt k (by omega);rw[this];simp[ivs,bC,hf]
   have hn:=xQ (show(fr.take (k+1)).foldl (fun a f=>a+2 ^ f) 0=T+2 ^ f by rw[bF hf,List.foldl_append,←HT.out];rfl);clear hf;have i1:(0:Int)≤(k:Int):=by omega
   have i2:(k:Int)<(F:Int):=by omega
   obtain⟨P,hP⟩: ∃P:Nat,P=2 ^ f:=⟨_,rfl⟩
   have m:P≤2048:=by rw[hP];exact aQ4 (aQ6 (by omega) (show f≤11 by omega)) (by decide)
   have u:(2:Int) ^ f=(P:Int):=by rw[hP];simp
   have y:IntKind.i64.wrap (P:Int)=(P:Int):=aPx _ (by omega);have z:IntKind.i64.wrap ((T:Int)+(P:Int))=(T:Int)+(P:Int):=aPx _ (by omega);rw[←hP]at hn;clear hP;go_wp2;go_roundw
   case rel=>exact⟨k+1,T+P,by omega,by go_num,by first|rfl|go_num,hn.out.symm,by trivial⟩
   case measure=>simp[intOf];omega
  obtain rfl:F=k:=by omega
  have d:Hid ((T:Int)=((aHz fr:Nat):Int)):=by show _=_;rw[HT.out,aQ2 (by rw[hF.out];omega)];rfl
  go_wp2;go_ret;exact⟨by rw[d.out];rfl,M1.ext⟩
theorem sV (aA aB:Int)(p:OA)(n a:Nat)(xs:List Int)(w:World)(hS:Sl w p n a 1 (ivs xs))(b:aN aA aB xs=true):
  U 157 #[aH aA aB p n a] w fun e w'=> ∃q c,e= .returned (.slice q (bJ xs).length c)∧w'.ownsRow w TI 1 (.slice q (bJ xs).length c) (bJ xs).length (ivs (bC (bJ xs)))∧Ext w w':=by
 have:=aL1 aA aB p n a xs w hS;rw[b,if_pos rfl,yA]at this;refine this.mono fun e w'' h=> ?_
 obtain⟨q,c,h1,h2,h3⟩:=h;rw[aRe]at h1 h2;exact⟨q,c,h1,h2,h3⟩
theorem aMs {aA aB:Int}{xs:List Int}(a:aN aA aB xs=true):(bJ xs).length≤12:=by obtain⟨g1,g2,g3,g4,g5,g6,g7⟩:=cM (cO a);unfold bJ;exact aQ4 (aR4 _ _) (by simp;omega)
theorem xA (aA aB:Int)(p:OA)(n a:Nat)(xs:List Int)(w:World)(hS:Sl w p n a 1 (ivs xs))(b:aN aA aB xs=true):
  U 131 #[aH aA aB p n a] w (O (I (aM xs)) w):=by
 have hl:=hS.ilen;obtain⟨g1,g2,g3,g4,g5,g6,g7⟩:=cM (cO b);rw[←aMt];exact aFl aA aB p n a (bJ xs) _ w rfl (aMs b) (fun x hx=>by have:=(kG hx).1;omega) (fun w' hy=>sV aA aB p n a xs w' (hS.ext hy) b)
abbrev TSS:TypeId:=23
theorem aPs:ElT prog 179 TSS 1:=
 ⟨underlying179,by
  obtain⟨i,hi,h0,h1,h2⟩:=info_parts (show(prog.info? TSS).map (fun i=>(i.zero,i.size,i.bytes))=some (some (.slice none 0 0),1,24) by kernel_rfl)
  exact⟨i,_,hi,h0,h1,by omega,rfl⟩,by omega⟩
def qO (aA:Int)(n k:Nat)(rows:List RowD):Prop:=rows.length=k∧ ∀(j:Nat) (r:RowD),rows[j]? =some r→r.n=(aQ aA n j).length∧r.xs=ivs (bC (aQ aA n j))
def aCn (aA:Int)(n:Nat)(w:World)(e:Ending)(w':World):Prop:=
 ∃q c rows,e= .returned (.slice q n c)∧qO aA n n rows∧uO w.heap.size TSS TI 1 q c rows w'∧Ext w w'
theorem vI {aA:Int}{n k:Nat}{rows:List RowD}{q:OA}{c:Nat}(h:qO aA n k rows):qO aA n (k+1) (rows++ [⟨q,(aQ aA n k).length,c,ivs (bC (aQ aA n k))⟩]):=by
 refine⟨by rw[aQ3,h.1];rfl,fun j r hj=> ?_⟩;by_cases hk:j<k
 ·rw[aQc (by rw[h.1];exact hk)]at hj;exact h.2 j r hj
 have hl:=(aPy.1 hj).1;rw[aQ3,h.1]at hl;simp at hl;obtain rfl:j=k:=by omega
 rw[aQq (by rw[h.1];exact aPv _),h.1,aS1]at hj;simp at hj;subst hj;exact⟨rfl,by simp[ivs,bC]⟩
theorem aIz (aA aB:Int)(p:OA)(n a:Nat)(w:World)(hn:n≤12)
  (HC:Hid (∀(k:Nat),k<n→ ∀w',Ext w w'→U 187 #[aH aA aB p n a,k] w' (bN (bC (aQ aA n k)) w'))):
  U 162 #[aH aA aB p n a] w (aCn aA n w):=by
 go_enter func162,ntmps162;have ME:=(((Mem.start w).c0 TH3 #[aA,aB,.slice p n a]).made0 TSS 1 (w.heap.size+1) (by simp))
 go_wp2;go_loopw [3,4] (fun v i wr=> ∃(k:Nat) (q:OA) (c:Nat) (rows:List RowD),k≤n∧i=I k∧v= .slice q k c∧qO aA n k rows∧Mem w wr [fL w TI 1 rows,aJ w TSS 1 (q) (k) (c) (rows.map RowD.v),aI w w TH3 #[aA,aB,.slice p n a]]) (fun _ i _=>n-(intOf i).toNat)
 case atStart=>exact⟨0,some ⟨w.heap.size+1,0,none⟩,0,[],aQ1 _,rfl,rfl,⟨rfl,fun j r h=>by simp at h⟩,ME.rows0 rfl⟩
 case round=>
  clear ME;obtain⟨k,q,c,rows,hk,rfl,rfl,b,hM⟩:=hrel;have HM:=hM;have HR:=xQ b;clear hM b;obtain⟨c0,c1,c2⟩:=(HM.bk 2).tri;by_cases hlt:k<n
  ·go_wp2_with fail;clear c0 c1 c2;refine(HC k hlt _ HM.ext).mono ?_;rintro e w2 ⟨q2,c2,rfl,o2,d⟩;rw[aRe]at o2⊢;have M2:=(HM.call d o2)
   have M3:=(M2.rowsAdd rfl)
   have f:=xQ (vI (q:=q2) (c:=c2) HR.out);clear o2 d M2 HM HR;go_wp2_with (at_builtin;go_loud (refine cS aPs rfl _ _ rfl (M3.adv ((Ext.refl _).alloc (.cells #[.slice q2 (aQ aA n k).length c2] TSS))) 1 rfl rfl [.slice q2 (aQ aA n k).length c2] rfl (dW _ _ _ 1 1 _ (by first|rfl|simp) (by first|rfl|simp) (by simp[maxLen])) (fun u hu=>by obtain rfl:=aQh.1 hu;rfl) (by omega) ?_;intro q7 c7 w6 M6));have M7:=(show Mem w w6 [fL w TI 1 (rows++ [⟨q2,(aQ aA n k).length,c2,ivs (bC (aQ aA n k))⟩]),aJ w TSS 1 q7 (k+1) c7 ((rows++ [⟨q2,(aQ aA n k).length,c2,ivs (bC (aQ aA n k))⟩]:List RowD).map RowD.v),aI w w TH3 #[aA,aB,.slice p n a]]from by rw[aRc];exact M6)
   clear M6 M3;go_wp2;go_roundw
   case rel=>exact⟨k+1,q7,c7,_,by omega,by go_num,rfl,f.out,M7⟩
   case measure=>simp[intOf];omega
  obtain rfl:n=k:=by omega
  go_wp2;go_ret;have hl:=HR.out.1;have h1:=HM.ow 1;refine⟨q,c,rows,rfl,HR.out,⟨?_,fun r hr=>HM.ok (fL w TI 1 rows) (by simp) r hr⟩,HM.ext⟩;rw[hl];exact h1
theorem aBl (aA aB:Int)(p:OA)(n a:Nat)(xs:List Int)(w:World)(hS:Sl w p n a 1 (ivs xs))(b:aN aA aB xs=true):
  U 162 #[aH aA aB p n a] w (aCn aA n w):=by
 have hl:=hS.ilen;obtain⟨g1,g2,g3,g4,g5,g6,g7⟩:=cM (cO b)
 exact aIz aA aB p n a w (by omega) (fun k hk w' hx=>by
  have:=aFq aA aB k p n a xs w' (hS.ext hx) b (by omega) (by omega)
  rwa[lI]at this)
end
section
open Go.RowKit
theorem aI9 (S h:Nat):S.testBit h=decide (S/2 ^ h%2=1):=by exact Nat.testBit_eq_decide_div_mod_eq
def kV (k:Nat):List Int:=List.replicate k (-1)++List.replicate (NN-k) 0
theorem aGa {k:Nat}(h:k<NN):(kV k).set k (-1)=kV (k+1):=by
 unfold kV;obtain⟨m,hm⟩: ∃m,NN-k=m+1:=⟨NN-k-1,by omega⟩
 rw[hm,show NN-(k+1)=m by omega,aS9];rw[aSc _ _ (by rw[List.length_replicate];exact aPv _),List.length_replicate,aS1,aQ9,List.replicate_succ',aQp];rfl
theorem aGb {k:Nat}(h:k<NN):(kV k)[k]? =some 0:=by unfold kV;rw[aQq (by rw[List.length_replicate];exact aPv _),List.length_replicate,aS1];rw[aRu,if_pos (by omega)]
def eV (many m:Nat):List Nat:=(List.range m).filter (fun s=> !s.testBit 0&&decide (gU s=many))
theorem aGc (many:Nat):kV NN=jA NN (eV many 0):=by unfold kV jA eV;rw[aS1,List.replicate_zero,aQo];rfl
theorem aCt {many m:Nat}(hm:m%2=0):eV many (m+2)=eV many m++(if gU m=many then [m]else []):=by
 unfold eV;rw[aRg,aRg,aQv,aQv,aQp];have h0:m.testBit 0=false:=by rw[aRm];simp;omega
 have h1:(m+1).testBit 0=true:=by rw[aRm];simp;omega
 congr 1;by_cases hp:gU m=many
 ·simp only[List.filter_cons,List.filter_nil,h0,h1];simp[hp]
 simp only[List.filter_cons,List.filter_nil,h0,h1];simp[hp]
theorem aCu (many m:Nat):(eV many m).length≤m:=by unfold eV;exact aQ4 (aR4 _ _) (by simp)
def fB (aA:Int)(n M s h:Nat):List Nat:=if(s%M).testBit h then((aQ aA n h).filter (fun f=> !(s%M).testBit f)).map (fun f=>gG M (s/M) (s%M) f h)else []
def jC (aA:Int)(n M s h:Nat):List Nat:=(List.range h).flatMap (fB aA n M s)
def jW (aA:Int)(n M s h j:Nat):List Nat:=(((aQ aA n h).take j).filter (fun f=> !(s%M).testBit f)).map (fun f=>gG M (s/M) (s%M) f h)
theorem tW (aA:Int)(n M s:Nat):jC aA n M s n=yN aA n M s:=rfl
theorem wW (aA:Int)(n M s h:Nat):jC aA n M s (h+1)=jC aA n M s h++fB aA n M s h:=by unfold jC;rw[aRg,aR1];simp
theorem aPq {aA:Int}{n M s h:Nat}(hb:(s%M).testBit h=false):fB aA n M s h= []:=by unfold fB;rw[hb];rfl
theorem aMw {aA:Int}{n M s h:Nat}(hb:(s%M).testBit h=true):fB aA n M s h=jW aA n M s h (aQ aA n h).length:=by unfold fB jW;rw[if_pos hb,aRt]
theorem aG3 (aA:Int)(n M s h:Nat):jW aA n M s h 0= []:=rfl
theorem aLp {aA:Int}{n M s h j f:Nat}(hj:(aQ aA n h)[j]? =some f) (hb:(s%M).testBit f=true):jW aA n M s h (j+1)=jW aA n M s h j:=by unfold jW;rw[bF hj,aQv];simp[hb]
theorem aJ7 {aA:Int}{n M s h j f:Nat}(hj:(aQ aA n h)[j]? =some f) (hb:(s%M).testBit f=false):jW aA n M s h (j+1)=jW aA n M s h j++ [gG M (s/M) (s%M) f h]:=by unfold jW;rw[bF hj,aQv];simp[hb]
theorem aG4 {aA:Int}{n M s h j:Nat}(hh:h<n)(hb:(s%M).testBit h=true): ∀v∈jC aA n M s h++jW aA n M s h j,v∈yN aA n M s:=by
 intro v hv;rw[←tW];unfold jC;rw[List.mem_flatMap];rcases aQf.1 hv with hv|hv
 ·unfold jC at hv;obtain⟨a,ha,hm⟩:=List.mem_flatMap.1 hv;exact⟨a,aQe.2 (by have:=aQe.1 ha;omega),hm⟩
 refine⟨h,aQe.2 hh,?_⟩;rw[aMw hb];unfold jW at hv⊢;obtain⟨f,hf,rfl⟩:=List.mem_map.1 hv;obtain⟨h1,h2⟩:=aQn.1 hf;exact List.mem_map.2 ⟨f,aQn.2 ⟨by rw[aRt];exact aRj h1,h2⟩,rfl⟩
theorem aJ8 {aA:Int}{n M s h:Nat}(hh:h≤n): ∀v∈jC aA n M s h,v∈yN aA n M s:=by intro v hv;rw[←tW];unfold jC at hv⊢;obtain⟨a,ha,hm⟩:=List.mem_flatMap.1 hv;exact List.mem_flatMap.2 ⟨a,aQe.2 (by have:=aQe.1 ha;omega),hm⟩
theorem aDk {adj:Nat→List Nat}{src:List Nat}{N k u:Nat}{D:List Int}{Q:List Nat}(h:Inv adj src N k (D,Q))(hu:Q[k]? =some u) (ha: ∀v∈adj u,v<N) {vs:List Nat} (hv: ∀v∈vs,v∈adj u) {D2:List Int} {Q2:List Nat} (he:(D2,Q2)=bK (D.getD u 0+1) (D,Q) vs):
  Mid adj src N k u vs (D,Q) (D2,Q2):=by
 rw[he];have:=Mid.many (aPz hu) vs [] (D,Q) (h.mid hu) (fun v hv'=>⟨hv v hv',ha v (hv v hv')⟩);simpa using this
end
end Go.Proofs.YtbgkcehffiogcaaGreatDoor
