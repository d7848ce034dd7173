/-
  Texts of this proof, packed (@packed).
-/
import Derived.Test.YtgnkoffndhmhpaaGreatDoorR1
import Derived.Test.YtgnkoffndhmhpaaGreatDoorR12
namespace Go.Proofs.YtgnkoffndhmhpaaGreatDoor
open Go.RowKit
set_option linter.unusedVariables false
set_option linter.unusedSimpArgs false
theorem aHu (m:Nat→Bool)(f k:Nat):lQ m f k=((List.range k).filter m).map (fun(t:Nat)=>((f:Int),(t:Int))):=by
 induction k with
 |zero=>rfl
 |succ k ih=>
  rw[List.range_succ,List.filter_append,List.map_append,show lQ m f (k+1)=lQ m f k++(if m k then [((f:Int),(k:Int))]else [])from rfl,ih]
  cases h:m k<;>simp[h]
theorem aFv (m:Nat→Nat→Bool)(n k:Nat):fH m n k=(List.range k).flatMap (fun f=>((List.range n).filter (m f)).map (fun(t:Nat)=>((f:Int),(t:Int)))):=by
 induction k with
 |zero=>rfl
 |succ k ih=>
  rw[List.range_succ,List.flatMap_append,show fH m n (k+1)=fH m n k++lQ (m k) k n from rfl,ih,aHu]
  simp
theorem eV {xs:List Int}{k:Nat}(hk:k<xs.length):cK xs k=decide (xs.getD k 0=0):=by
 unfold cK
 rw[List.getD_eq_getElem?_getD,List.getElem?_eq_getElem hk]
 simp
 rfl
theorem yG {aA aB:Int}{xs:List Int}(h:aP aA aB xs=true){f t:Nat}(hf:f<xs.length)(ht:t<xs.length):
  bC aA aB xs (f:Int) (t:Int)=(!(aN xs).testBit f&&(decide (t∈aS aA xs.length f)&&(aN xs).testBit t)):=by
 have h1:cX aA aB xs (f:Int) (t:Int)=aZ aA f t:=by
  unfold cX;rw[if_pos ⟨h,⟨by omega,by omega⟩,by omega,by omega⟩]
 have h2:=lX h f
 unfold bC
 rw[h1,dW,dW,eV hf,eV ht]
 simp only[Int.toNat_natCast]
 have h3:decide (t∈aS aA xs.length f)=decide (aZ aA f t=1):=by
  have:t∈aS aA xs.length f↔aZ aA f t=1:=by rw[bM];exact⟨fun h=>h.2,fun h=>⟨ht,h⟩⟩
  simp[this]
 have h4:decide (0<xs.getD f 0)= !decide (xs.getD f 0=0):=by
  by_cases h0:xs.getD f 0=0
  ·rw[h0];rfl
  ·have:0<xs.getD f 0:=by omega
   simp only[h0,this];rfl
 rw[h3,h4]
 cases decide (aZ aA f t=1)<;>cases decide (xs.getD f 0=0)<;>rfl
theorem vI {aA aB:Int}{xs:List Int}(h:aP aA aB xs=true):jB aA aB xs=(dO aA xs.length (aN xs)).map (fun e=>((e.1:Int),(e.2:Int))):=by
 unfold jB dO
 rw[aFv,List.map_flatMap]
 have key: ∀l:List Nat,(∀f∈l,f<xs.length)→l.flatMap (fun(f:Nat)=>((List.range xs.length).filter (fun(t:Nat)=>bC aA aB xs f t)).map (fun(t:Nat)=>((f:Int),(t:Int))))=l.flatMap (fun a=>(if(aN xs).testBit a then []else((aS aA xs.length a).filter (fun t=>(aN xs).testBit t)).map (fun t=>(a,t))).map (fun e=>((e.1:Int),(e.2:Int)))):=by
  intro l
  induction l with
  |nil=>intro _;rfl
  |cons f l ih=>
   intro hl
   have hf:=hl f (by simp)
   rw[List.flatMap_cons,List.flatMap_cons,ih (fun x hx=>hl x (by simp[hx]))]
   congr 1
   have e1:(List.range xs.length).filter (fun(t:Nat)=>bC aA aB xs f t)=(List.range xs.length).filter (fun(t:Nat)=>(!(aN xs).testBit f&&(decide (t∈aS aA xs.length f)&&(aN xs).testBit t))):=
    List.filter_congr (fun t ht=>yG h hf (List.mem_range.1 ht))
   rw[e1]
   cases hb:(aN xs).testBit f with
   |true=>simp
   |false=>
    simp only[Bool.not_false,Bool.true_and,Bool.false_eq_true,if_false,List.map_map]
    have e2:(List.range xs.length).filter (fun(t:Nat)=>decide (t∈aS aA xs.length f)&&(aN xs).testBit t)=(aS aA xs.length f).filter (fun t=>(aN xs).testBit t):=by
     have:aS aA xs.length f=(List.range xs.length).filter (fun t=>decide (t∈aS aA xs.length f)):=by
      conv=>lhs;unfold aS
      refine List.filter_congr (fun t ht=> ?_)
      have:t∈aS aA xs.length f↔aZ aA f t=1:=by rw[bM];exact⟨fun h=>h.2,fun h=>⟨List.mem_range.1 ht,h⟩⟩
      simp[this]
     conv=>rhs;rw[this]
     rw[List.filter_filter]
     refine List.filter_congr (fun t _=> ?_)
     rw[Bool.and_comm]
    rw[e2]
    rfl
 exact key _ (fun f hf=>List.mem_range.1 hf)
theorem pQ {aA aB:Int}{xs:List Int}(h:aP aA aB xs=true){f t:Nat}(he:(f,t)∈dO aA xs.length (aN xs)):
  bC aA aB xs (f:Int) (t:Int)=true∧bE aA aB xs (f:Int) (t:Int)=(xs.set t (xs.getD f 0)).set f 0∧aN (bE aA aB xs (f:Int) (t:Int))=cO (aN xs) f t∧ ∀c id,xs[c]? =some id→id≠0→(bE aA aB xs (f:Int) (t:Int))[dC c f t]? =some id:=by
 obtain⟨h1,h2,h3,h4,h5⟩:=eJ.1 he
 dsimp only at h1 h2 h3 h4 h5
 have hm:bC aA aB xs (f:Int) (t:Int)=true:=by rw[yG h h1 h2,h4,h5];simp[h3]
 have hd:bE aA aB xs (f:Int) (t:Int)=(xs.set t (xs.getD f 0)).set f 0:=by unfold bE;rw[if_pos hm];simp only[Int.toNat_natCast]
 have hne:f≠t:=fun e=>by subst e;rw[h5]at h4;cases h4
 have hf0:xs.getD f 0≠0:=by
  intro e;rw[dW,eV h1,e]at h4;simp at h4
 refine⟨hm,hd,?_,?_⟩
 ·refine aCs fun k=> ?_
  rw[dY h5 h4,dW,dW,hd]
  by_cases hk:k<xs.length
  ·rw[eV (by simpa using hk),eV hk]
   by_cases k1:k=f
   ·subst k1
    rw[List.getD_eq_getElem?_getD,List.getElem?_set_self (by simpa using hk)];simp
   ·by_cases k2:k=t
    ·subst k2
     rw[List.getD_eq_getElem?_getD,List.getElem?_set_ne (Ne.symm k1),List.getElem?_set_self hk]
     have e:(some (xs.getD f 0)).getD 0=xs.getD f 0:=rfl
     rw[e]
     have hf1: ¬xs[f]?.getD 0=0:=by rw[←List.getD_eq_getElem?_getD];exact hf0
     simp[hf1,k1]
    ·rw[List.getD_eq_getElem?_getD,List.getElem?_set_ne (Ne.symm k1),List.getElem?_set_ne (Ne.symm k2),←List.getD_eq_getElem?_getD]
     simp[k1,k2]
  ·have e1:cK ((xs.set t (xs.getD f 0)).set f 0) k=false:=by unfold cK;rw[List.getElem?_eq_none (by simp;omega)];rfl
   have e2:cK xs k=false:=by unfold cK;rw[List.getElem?_eq_none (by omega)];rfl
   rw[e1,e2]
   have:k≠f:=by omega
   simp[this]
 ·intro c id hc h0
  rw[hd]
  obtain⟨hcl,hce⟩:=List.getElem?_eq_some_iff.1 hc
  unfold dC
  by_cases hcf:f=c
  ·rw[if_pos hcf,List.getElem?_set_ne (by omega),List.getElem?_set_self h2,hcf,List.getD_eq_getElem?_getD,hc];rfl
  ·rw[if_neg hcf]
   have hct:t≠c:=by
    rintro rfl
    rw[dW,eV h2,List.getD_eq_getElem?_getD,hc]at h5
    simp at h5;exact h0 h5
   rw[List.getElem?_set_ne hcf,List.getElem?_set_ne hct,hc]
def jY (aA:Int)(n:Nat)(dd:Nat→Nat→Int)(s:Nat×Nat):Option (Nat×Nat):=(dO aA n s.2).find? (fun e=>decide (dd (dC s.1 e.1 e.2) (cO s.2 e.1 e.2)=dd s.1 s.2-1))
def iG (s e:Nat×Nat):Nat×Nat:=(dC s.1 e.1 e.2,cO s.2 e.1 e.2)
def gP (aA:Int)(n:Nat)(dd:Nat→Nat→Int)(s:Nat×Nat):Nat→Nat×Nat
 |0=>s
 |j+1=>match jY aA n dd (gP aA n dd s j)with
  |none=>gP aA n dd s j
  |some e=>iG (gP aA n dd s j) e
def fA (aA:Int)(n:Nat)(dd:Nat→Nat→Int)(s:Nat×Nat)(j:Nat):Nat×Nat:=(jY aA n dd (gP aA n dd s j)).getD (0,0)
def aW (D:List Int)(c S:Nat):Int:=D.getD (c*MM+S) 0
structure lL (n many:Nat) (s:Nat×Nat):Prop where
 car:s.1<n
 set:s.2<2 ^ n
 occ:s.2.testBit s.1=false
 many:fI s.2=many
section
variable {aA:Int} {n many:Nat} {D:List Int}
theorem kY (hn:n≤12){s:Nat×Nat}(h:lL n many s):tI n MM (s.1*MM+s.2)∧(s.1*MM+s.2)/MM=s.1∧(s.1*MM+s.2)%MM=s.2:=by
 have hl:s.2<MM:=Nat.lt_of_lt_of_le h.set (fW hn)
 have e1:(s.1*MM+s.2)/MM=s.1:=jR hl
 have e2:(s.1*MM+s.2)%MM=s.2:=fL hl
 exact⟨⟨by rw[e1];exact h.car,by rw[e2];exact h.set,by rw[e1,e2];exact h.occ⟩,e1,e2⟩
theorem vK (hn:n≤12){s e:Nat×Nat}(h:lL n many s)(he:e∈dO aA n s.2):nS aA n MM (s.1*MM+s.2) ((iG s e).1*MM+(iG s e).2)∧lL n many (iG s e):=by
 obtain⟨h1,h2,h3,h4,h5⟩:=eJ.1 he
 obtain⟨a,b,c⟩:=kY hn h
 have hE:nS aA n MM (s.1*MM+s.2) ((iG s e).1*MM+(iG s e).2):=⟨e.1,e.2,h1,h2,h3,by rw[c];exact h4,by rw[c];exact h5,by rw[b,c];rfl⟩
 have hl:=oE h.set h1 h5 h4
 have k:=oO (fW hn) a hE
 have k2:=mR (fW hn) a.set hE
 have hl2:(iG s e).2<MM:=Nat.lt_of_lt_of_le hl (fW hn)
 have e1:=k.car;have e2:=k.set;have e3:=k.occ
 rw[jR hl2]at e1
 rw[fL hl2]at e2
 rw[jR hl2,fL hl2]at e3
 rw[fL hl2,c,h.many]at k2
 exact⟨hE,e1,e2,e3,k2⟩
theorem pI (hn0:4≤n)(hn:n≤12)(hD:eE aA n many D){s:Nat×Nat}(h:lL n many s)(h0:0<aW D s.1 s.2): ∃e,jY aA n (aW D) s=some e∧e∈dO aA n s.2∧aW D (iG s e).1 (iG s e).2=aW D s.1 s.2-1∧lL n many (iG s e):=by
 obtain⟨a,b,c⟩:=kY hn h
 obtain⟨u,hu,hm,hd⟩:=hD.back _ (lS hn a) h0
 have h0':D.getD (s.1*MM+s.2) 0=aW D s.1 s.2:=rfl
 obtain⟨k,hk⟩:=Int.eq_ofNat_of_zero_le (show 0≤D.getD u 0 by rw[hd,h0'];omega)
 obtain⟨u1,u2⟩:=aCq hn0 hn hD k u hu hk
 obtain⟨f,t,h1,h2,h3,h4,h5,h6⟩:=uH (fW hn) u1 (kS.1 hm)
 rw[b,c]at h6
 rw[c]at h4 h5
 have he:(f,t)∈dO aA n s.2:=eJ.2 ⟨h1,h2,h3,h4,h5⟩
 have hp:(fun e:Nat×Nat=>decide (aW D (dC s.1 e.1 e.2) (cO s.2 e.1 e.2)=aW D s.1 s.2-1)) (f,t)=true:=by
  simp only[decide_eq_true_eq]
  show D.getD (eZ MM s.1 s.2 f t) 0=_
  rw[←h6,hd,h0']
 cases hf:jY aA n (aW D) s with
 |none=>
  unfold jY at hf
  have:=List.find?_eq_none.1 hf _ he
  exact absurd hp this
 |some e=>
  unfold jY at hf
  have h7:=List.find?_some hf
  have h8:=List.mem_of_find?_eq_some hf
  simp only[decide_eq_true_eq]at h7
  exact⟨e,rfl,h8,h7,(vK hn h h8).2⟩
theorem aCj {dd:Nat→Nat→Int}{s:Nat×Nat}{j:Nat}{e:Nat×Nat}(h:jY aA n dd (gP aA n dd s j)=some e):gP aA n dd s (j+1)=iG (gP aA n dd s j) e:=by
 rw[gP,h]
theorem iA (hn0:4≤n)(hn:n≤12)(hD:eE aA n many D){s:Nat×Nat}(h:lL n many s){d:Nat}(hd:aW D s.1 s.2=d): ∀j,j≤d→lL n many (gP aA n (aW D) s j)∧aW D (gP aA n (aW D) s j).1 (gP aA n (aW D) s j).2=(d:Int)-j:=by
 intro j
 induction j with
 |zero=>intro _;exact⟨h,by show aW D s.1 s.2=_;rw[hd];simp⟩
 |succ j ih=>
  intro hj
  obtain⟨a,b⟩:=ih (by omega)
  obtain⟨e,h1,h2,h3,h4⟩:=pI hn0 hn hD a (by rw[b];omega)
  rw[aCj h1]
  exact⟨h4,by rw[h3,b];omega⟩
theorem iR (hn0:4≤n)(hn:n≤12)(hD:eE aA n many D){s:Nat×Nat}(h:lL n many s){d:Nat}(hd:aW D s.1 s.2=d){j:Nat}(hj:j<d):jY aA n (aW D) (gP aA n (aW D) s j)=some (fA aA n (aW D) s j)∧fA aA n (aW D) s j∈dO aA n (gP aA n (aW D) s j).2∧gP aA n (aW D) s (j+1)=iG (gP aA n (aW D) s j) (fA aA n (aW D) s j):=by
 obtain⟨a,b⟩:=iA hn0 hn hD h hd j (by omega)
 obtain⟨e,h1,h2,h3,h4⟩:=pI hn0 hn hD a (by rw[b];omega)
 have he:fA aA n (aW D) s j=e:=by unfold fA;rw[h1];rfl
 rw[he]
 exact⟨h1,h2,aCj h1⟩
theorem aGx (hn0:4≤n)(hn:n≤12)(hD:eE aA n many D){s:Nat×Nat}(h:lL n many s){d:Nat}(hd:aW D s.1 s.2=d){j:Nat}(hj:j≤d):(gP aA n (aW D) s j).1=0↔j=d:=by
 obtain⟨a,b⟩:=iA hn0 hn hD h hd j hj
 obtain⟨k1,k2,k3⟩:=kY hn a
 have hz:=hD.zero _ (lS hn k1)
 have hb:D.getD ((gP aA n (aW D) s j).1*MM+(gP aA n (aW D) s j).2) 0=(d:Int)-j:=b
 rw[hb,hU]at hz
 constructor
 ·intro h0
  have:=hz.2 (by
   rw[h0,Nat.zero_mul,Nat.zero_add]
   exact⟨a.set,by have:=a.occ;rw[h0]at this;exact this,a.many⟩)
  omega
 ·intro e
  have h1:=(hz.1 (by omega)).1
  have hp:=fW hn
  have h2:=Nat.div_eq_of_lt (Nat.lt_of_lt_of_le h1 hp)
  rw[k2]at h2
  exact h2
theorem tT (hn0:4≤n)(hn:n≤12){E:List Int}(hD:eE aA n many D)(hE:eE aA n many E){s:Nat×Nat}(h:lL n many s)(h0:0<aW D s.1 s.2):jY aA n (aW D) s=jY aA n (aW E) s:=by
 unfold jY
 have same: ∀s:Nat×Nat,lL n many s→(0≤aW D s.1 s.2↔0≤aW E s.1 s.2)∧(0≤aW D s.1 s.2→aW D s.1 s.2=aW E s.1 s.2):=fun s hs=>uJ hD hE (lS hn (kY hn hs).1)
 have h1:=(same s h).2 (by omega)
 have key: ∀l:List (Nat×Nat),(∀e∈l,e∈dO aA n s.2)→l.find? (fun e=>decide (aW D (dC s.1 e.1 e.2) (cO s.2 e.1 e.2)=aW D s.1 s.2-1))=l.find? (fun e=>decide (aW E (dC s.1 e.1 e.2) (cO s.2 e.1 e.2)=aW E s.1 s.2-1)):=by
  intro l
  induction l with
  |nil=>intro _;rfl
  |cons e l ih=>
   intro hl
   have hp:=(vK hn h (hl e (by simp))).2
   obtain⟨a,b⟩:=same _ hp
   have hh:decide (aW D (dC s.1 e.1 e.2) (cO s.2 e.1 e.2)=aW D s.1 s.2-1)=decide (aW E (dC s.1 e.1 e.2) (cO s.2 e.1 e.2)=aW E s.1 s.2-1):=by
    have a':0≤aW D (dC s.1 e.1 e.2) (cO s.2 e.1 e.2)↔0≤aW E (dC s.1 e.1 e.2) (cO s.2 e.1 e.2):=a
    have b':0≤aW D (dC s.1 e.1 e.2) (cO s.2 e.1 e.2)→aW D (dC s.1 e.1 e.2) (cO s.2 e.1 e.2)=aW E (dC s.1 e.1 e.2) (cO s.2 e.1 e.2):=b
    rw[←h1]
    by_cases hc:0≤aW D (dC s.1 e.1 e.2) (cO s.2 e.1 e.2)
    ·rw[b' hc]
    ·have hc2: ¬0≤aW E (dC s.1 e.1 e.2) (cO s.2 e.1 e.2):=fun x=>hc (a'.2 x)
     have d1: ¬(aW D (dC s.1 e.1 e.2) (cO s.2 e.1 e.2)=aW D s.1 s.2-1):=by omega
     have d2: ¬(aW E (dC s.1 e.1 e.2) (cO s.2 e.1 e.2)=aW D s.1 s.2-1):=by omega
     simp only[d1,d2]
   rw[List.find?_cons,List.find?_cons,hh,ih (fun x hx=>hl x (by simp[hx]))]
 exact key _ (fun e he=>he)
theorem aI7 (hn0:4≤n)(hn:n≤12){E:List Int}(hD:eE aA n many D)(hE:eE aA n many E){s:Nat×Nat}(h:lL n many s){d:Nat}(hd:aW D s.1 s.2=d): ∀j,j≤d→gP aA n (aW D) s j=gP aA n (aW E) s j:=by
 intro j
 induction j with
 |zero=>intro _;rfl
 |succ j ih=>
  intro hj
  have e:=ih (by omega)
  obtain⟨a,b⟩:=iA hn0 hn hD h hd j (by omega)
  have p:=tT hn0 hn hD hE a (by rw[b];omega)
  rw[gP,gP,←e,p]
theorem aC1 (hn0:4≤n)(hn:n≤12){E:List Int}(hD:eE aA n many D)(hE:eE aA n many E){s:Nat×Nat}(h:lL n many s){d:Nat}(hd:aW D s.1 s.2=d){j:Nat}(hj:j<d):fA aA n (aW D) s j=fA aA n (aW E) s j:=by
 obtain⟨a,b⟩:=iA hn0 hn hD h hd j (by omega)
 unfold fA
 rw[←aI7 hn0 hn hD hE h hd j (by omega),tT hn0 hn hD hE a (by rw[b];omega)]
end
end Go.Proofs.YtgnkoffndhmhpaaGreatDoor
namespace Go.Proofs.YtgnkoffndhmhpaaGreatDoor
set_option linter.unusedVariables false
structure lH (adj:Nat→List Nat) (D:Nat→Int) (g:Nat→Nat) (d start:Nat):Prop where
 zero:g 0=start
 dist: ∀j,j≤d→D (g j)=d-j
 next: ∀j,j<d→(adj (g j)).find? (fun v=>decide (D v=D (g j)-1))=some (g (j+1))
structure aA1 (adj:Nat→List Nat) (D:Nat→Int) (N:Nat):Prop where
 edge: ∀u v,u<N→v∈adj u→0≤D u→0≤D v∧D u≤D v+1
 bd: ∀u v,u<N→v∈adj u→v<N
structure Fwd (adj:Nat→List Nat) (D:Nat→Int) (g:Nat→Nat) (d N start k:Nat) (B A:List Int) (Q:List Nat):Prop where
 inv:Inv adj [start] N k (A,Q)
 blen:B.length=N
 bmem: ∀v,v<N→(0≤B.getD v 0↔v∈Q)
 ngoal: ∀(i u:Nat),i<k→Q[i]? =some u→D u≠0
 tri: ∀v∈Q,0≤D v∧(d:Int)≤A.getD v 0+D v
 chain: ∀j:Nat,j<d→g (j+1)∈Q→A.getD (g (j+1)) 0=j+1→B.getD (g (j+1)) 0=g j
 tight: ∀(i v:Nat),Q[i]? =some v→A.getD v 0+D v=d→ ∃i',i'≤i∧Q[i']? =some (g (A.getD v 0).toNat)
structure FMid (adj:Nat→List Nat) (D:Nat→Int) (g:Nat→Nat) (d N start k u:Nat) (ws:List Nat) (A0:List Int) (Q0:List Nat) (B A:List Int) (Q:List Nat):Prop where
 mid:Mid adj [start] N k u ws (A0,Q0) (A,Q)
 blen:B.length=N
 bmem: ∀v,v<N→(0≤B.getD v 0↔v∈Q)
 tri: ∀v∈Q,0≤D v∧(d:Int)≤A.getD v 0+D v
 chain: ∀j:Nat,j<d→g (j+1)∈Q→A.getD (g (j+1)) 0=j+1→B.getD (g (j+1)) 0=g j
 tight: ∀(i v:Nat),Q[i]? =some v→A.getD v 0+D v=d→ ∃i',i'≤i∧Q[i']? =some (g (A.getD v 0).toNat)
theorem FMid.step {adj:Nat→List Nat}{D:Nat→Int}{g:Nat→Nat}{d N start k u w:Nat}{ws post:List Nat}{B0 A0:List Int}{Q0:List Nat}{B A:List Int}{Q:List Nat}
  (hG:lH adj D g d start)(hD:aA1 adj D N)(h0:Fwd adj D g d N start k B0 A0 Q0)(hu:Q0[k]? =some u) (h:FMid adj D g d N start k u ws A0 Q0 B A Q) (hadj:adj u=ws++w::post):
  ∃B' A' Q',dV (u:Int) (B,Q) w=(B',Q')∧dV (A0.getD u 0+1) (A,Q) w=(A',Q')∧FMid adj D g d N start k u (ws++ [w]) A0 Q0 B' A' Q':=by
 have hum:u∈Q0:=List.mem_of_getElem? hu
 have huN:u<N:=h0.inv.bd u hum
 have hw:w∈adj u:=by rw[hadj];simp
 have hwN:w<N:=hD.bd u w huN hw
 have hval:A0.getD u 0=A.getD u 0:=(h.mid.same u hum).symm
 have m:=h.mid.step hum hw hwN hval
 obtain⟨r,hr⟩:=h.mid.pre
 dsimp only at hr
 have huQ:u∈Q:=by rw[hr];exact List.mem_append_left _ hum
 have hkQ:Q[k]? =some u:=by
  have hk:k<Q0.length:=(List.getElem?_eq_some_iff.1 hu).1
  rw[hr,List.getElem?_append_left hk];exact hu
 have hu0:0≤A.getD u 0:=(h.mid.mem u huN).2 huQ
 by_cases hc:w∈Q
 ·have hB: ¬B.getD w 0<0:=by have:=(h.bmem w hwN).2 hc;omega
  have hA: ¬A.getD w 0<0:=by have:=(h.mid.mem w hwN).2 hc;dsimp only at this;omega
  refine⟨B,A,Q,by unfold dV;rw[if_neg hB],by unfold dV;rw[if_neg hA],?_⟩
  have e:dV (A0.getD u 0+1) (A,Q) w=(A,Q):=by unfold dV;rw[if_neg hA]
  rw[e]at m
  exact⟨m,h.blen,h.bmem,h.tri,h.chain,h.tight⟩
 ·have hB:B.getD w 0<0:=by
   by_cases hh:B.getD w 0<0
   ·exact hh
   ·exact absurd ((h.bmem w hwN).1 (by omega)) hc
  have hA:A.getD w 0<0:=by
   by_cases hh:A.getD w 0<0
   ·exact hh
   ·exact absurd ((h.mid.mem w hwN).1 (by dsimp only;omega)) hc
  have hne: ∀v∈Q,w≠v:=fun v hv e=>hc (by rw[e];exact hv)
  refine⟨B.set w u,A.set w (A0.getD u 0+1),Q++ [w],by unfold dV;rw[if_pos hB],by unfold dV;rw[if_pos hA],?_⟩
  have e:dV (A0.getD u 0+1) (A,Q) w=(A.set w (A0.getD u 0+1),Q++ [w]):=by unfold dV;rw[if_pos hA]
  rw[e]at m
  have hwB:w<B.length:=by rw[h.blen];exact hwN
  have hwA:w<A.length:=by have:=h.mid.len;dsimp only at this;omega
  have sB:(B.set w (u:Int)).getD w 0=u:=bY hwB
  have sA:(A.set w (A0.getD u 0+1)).getD w 0=A.getD u 0+1:=by rw[bY hwA,hval]
  obtain⟨tu0,tu1⟩:=h.tri u huQ
  obtain⟨e1,e2⟩:=hD.edge u w huN hw tu0
  -- if w is tight, then so is u; and the step that is first is there
  have key:A.getD u 0+1+D w=d→ ∃i',i'≤k∧Q[i']? =some (g (A.getD u 0).toNat)∧(i'<k→g ((A.getD u 0).toNat+1)∈Q)∧(i'=k→u=g (A.getD u 0).toNat):=by
   intro ht
   obtain⟨i',hi',hq⟩:=h.tight k u hkQ (by omega)
   refine⟨i',hi',hq,fun hlt=> ?_,fun he=> ?_⟩
   ·have hk:k<Q0.length:=(List.getElem?_eq_some_iff.1 hu).1
    have hq0:Q0[i']? =some (g (A.getD u 0).toNat):=by rw[hr,List.getElem?_append_left (by omega)]at hq;exact hq
    have hlt2:(A.getD u 0).toNat<d:=by omega
    have hmem:g ((A.getD u 0).toNat+1)∈adj (g (A.getD u 0).toNat):=List.mem_of_find?_eq_some (hG.next _ hlt2)
    have:=(h0.inv.done i' _ hlt hq0 _ hmem).1
    rw[hr];exact List.mem_append_left _ this
   ·subst he;rw[hkQ]at hq;injection hq
  have first:A.getD u 0+1+D w=d→g ((A.getD u 0).toNat+1)∈Q∨g ((A.getD u 0).toNat+1)=w:=by
   intro ht
   obtain⟨i',hi',hq,k1,k2⟩:=key ht
   by_cases he:i'=k
   ·have hug:=k2 he
    have hlt2:(A.getD u 0).toNat<d:=by omega
    have hn:=hG.next _ hlt2
    rw[←hug,hadj]at hn
    have hdu:D u=d-(A.getD u 0).toNat:=by
     have:=hG.dist _ (Nat.le_of_lt hlt2)
     rw[←hug]at this;exact this
    rw[List.find?_append]at hn
    cases hf:ws.find? (fun v=>decide (D v=D u-1))with
    |some x=>
     rw[hf,Option.some_or]at hn
     injection hn with hn
     left
     rw[←hn]
     exact h.mid.seen x (List.mem_of_find?_eq_some hf)
    |none=>
     rw[hf]at hn
     right
     rw[Option.none_or,List.find?_cons_of_pos (by simp;omega)]at hn
     injection hn with hn
     exact hn.symm
   ·exact .inl (k1 (by omega))
  refine⟨m,by simp[h.blen],?_,?_,?_,?_⟩
  ·intro v hv
   by_cases ev:w=v
   ·subst ev
    rw[sB]
    exact⟨fun _=>by simp,fun _=>by omega⟩
   ·rw[bV ev,h.bmem v hv]
    simp
    intro e2;exact absurd e2.symm ev
  ·intro v hv
   rcases List.mem_append.1 hv with hv|hv
   ·rw[bV (hne v hv)];exact h.tri v hv
   ·simp at hv;subst hv;rw[sA];exact⟨e1,by omega⟩
  ·intro j hj hm ha
   by_cases ev:w=g (j+1)
   ·rw[←ev]at ha⊢
    rw[sA]at ha
    rw[sB]
    have hdw:D w=d-(j+1:Nat):=by rw[ev];exact hG.dist (j+1) (by omega)
    have ht:A.getD u 0+1+D w=d:=by omega
    obtain⟨i',hi',hq,k1,k2⟩:=key ht
    have hj2:(A.getD u 0).toNat=j:=by omega
    by_cases he:i'=k
    ·have:=k2 he;rw[hj2]at this;rw[this]
    ·have:=k1 (by omega)
     rw[hj2,←ev]at this
     exact absurd this hc
   ·rcases List.mem_append.1 hm with hm|hm
    ·rw[bV ev]at ha⊢
     exact h.chain j hj hm ha
    ·simp at hm;exact absurd hm.symm ev
  ·intro i v hi ht
   by_cases hiQ:i<Q.length
   ·rw[List.getElem?_append_left hiQ]at hi
    have hvQ:v∈Q:=List.mem_of_getElem? hi
    rw[bV (hne v hvQ)]at ht⊢
    obtain⟨i',a,b⟩:=h.tight i v hi ht
    exact⟨i',a,by rw[List.getElem?_append_left (by omega)];exact b⟩
   ·have hil:i<(Q++ [w]).length:=(List.getElem?_eq_some_iff.1 hi).1
    have hie:i=Q.length:=by simp at hil;omega
    subst hie
    simp at hi
    subst hi
    rw[sA]at ht⊢
    have e3:(A.getD u 0+1).toNat=(A.getD u 0).toNat+1:=by omega
    rw[e3]
    rcases first ht with hm|hm
    ·obtain⟨i',hi',ei⟩:=List.getElem_of_mem hm
     exact⟨i',by omega,by rw[List.getElem?_append_left hi',List.getElem?_eq_getElem hi',ei]⟩
    ·exact⟨Q.length,Nat.le_refl _,by rw[hm,List.getElem?_append_right (Nat.le_refl _)];simp⟩
theorem Fwd.mid {adj:Nat→List Nat}{D:Nat→Int}{g:Nat→Nat}{d N start k u:Nat}{B A:List Int}{Q:List Nat}(h:Fwd adj D g d N start k B A Q)(hu:Q[k]? =some u):FMid adj D g d N start k u [] A Q B A Q:=
 ⟨h.inv.mid hu,h.blen,h.bmem,h.tri,h.chain,h.tight⟩
theorem FMid.many {adj:Nat→List Nat}{D:Nat→Int}{g:Nat→Nat}{d N start k u:Nat}{B0 A0:List Int}{Q0:List Nat}
  (hG:lH adj D g d start)(hD:aA1 adj D N)(h0:Fwd adj D g d N start k B0 A0 Q0)(hu:Q0[k]? =some u):
  ∀(vs ws:List Nat) (B A:List Int) (Q:List Nat),FMid adj D g d N start k u ws A0 Q0 B A Q→adj u=ws++vs→(bJ (A0.getD u 0+1) (A,Q) vs).2=(bJ (u:Int) (B,Q) vs).2∧FMid adj D g d N start k u (ws++vs) A0 Q0 (bJ (u:Int) (B,Q) vs).1 (bJ (A0.getD u 0+1) (A,Q) vs).1 (bJ (u:Int) (B,Q) vs).2:=by
 intro vs
 induction vs with
 |nil=>intro ws B A Q h _;exact⟨rfl,by simpa[bJ]using h⟩
 |cons v vs ih=>
  intro ws B A Q h e
  obtain⟨B',A',Q',e1,e2,h1⟩:=h.step hG hD h0 hu e
  have e3:bJ (u:Int) (B,Q) (v::vs)=bJ (u:Int) (B',Q') vs:=by
   show vs.foldl _ (dV (u:Int) (B,Q) v)=_
   rw[e1];rfl
  have e4:bJ (A0.getD u 0+1) (A,Q) (v::vs)=bJ (A0.getD u 0+1) (A',Q') vs:=by
   show vs.foldl _ (dV (A0.getD u 0+1) (A,Q) v)=_
   rw[e2];rfl
  have:=ih (ws++ [v]) B' A' Q' h1 (by rw[e];simp)
  rw[e3,e4]
  simpa using this
theorem Fwd.step {adj:Nat→List Nat}{D:Nat→Int}{g:Nat→Nat}{d N start k u:Nat}{B A:List Int}{Q:List Nat}(hG:lH adj D g d start)(hD:aA1 adj D N)(h:Fwd adj D g d N start k B A Q)(hu:Q[k]? =some u) (hg:D u≠0):
  ∃A',Fwd adj D g d N start (k+1) (bJ (u:Int) (B,Q) (adj u)).1 A' (bJ (u:Int) (B,Q) (adj u)).2:=by
 have huN:=h.inv.bd u (List.mem_of_getElem? hu)
 obtain⟨e,m⟩:=FMid.many hG hD h hu (adj u) [] B A Q (h.mid hu) rfl
 have hi:=h.inv.step hu (fun v hv=>hD.bd u v huN hv)
 have e2:bJ (A.getD u 0+1) (A,Q) (adj u)=((bJ (A.getD u 0+1) (A,Q) (adj u)).1,(bJ (u:Int) (B,Q) (adj u)).2):=by rw[←e]
 dsimp only at hi
 rw[e2]at hi
 obtain⟨r,hr⟩:=m.mid.pre
 dsimp only at hr
 refine⟨_,hi,m.blen,m.bmem,?_,m.tri,m.chain,m.tight⟩
 intro i v hik hv
 have hk:k<Q.length:=(List.getElem?_eq_some_iff.1 hu).1
 by_cases he:i=k
 ·subst he
  rw[hr,List.getElem?_append_left hk,hu]at hv
  injection hv with hv
  rw[←hv];exact hg
 ·rw[hr,List.getElem?_append_left (by omega)]at hv
  exact h.ngoal i v (by omega) hv
theorem Fwd.way {adj:Nat→List Nat}{D:Nat→Int}{g:Nat→Nat}{d N start k:Nat}{B A:List Int}{Q:List Nat}(hG:lH adj D g d start)(h:Fwd adj D g d N start k B A Q)
  (hp: ∀(i v:Nat),Q[i]? =some v→A.getD v 0<d→i<k): ∀j,j≤d→g j∈Q∧A.getD (g j) 0=j:=by
 intro j
 induction j with
 |zero=>
  intro _
  obtain⟨a,b⟩:=h.inv.src start (by simp)
  rw[hG.zero]
  exact⟨a,by simpa using b⟩
 |succ j ih=>
  intro hj
  obtain⟨a,b⟩:=ih (by omega)
  obtain⟨i,hi,e⟩:=List.getElem_of_mem a
  have hq:Q[i]? =some (g j):=by rw[List.getElem?_eq_getElem hi,e]
  have hik:=hp i (g j) hq (by omega)
  have hm:g (j+1)∈adj (g j):=List.mem_of_find?_eq_some (hG.next j (by omega))
  obtain⟨c1,c2⟩:=h.inv.done i (g j) hik hq _ hm
  have t:=(h.tri (g (j+1)) c1).2
  have dd:=hG.dist (j+1) hj
  dsimp only at c2
  exact⟨c1,by omega⟩
theorem Fwd.goal {adj:Nat→List Nat}{D:Nat→Int}{g:Nat→Nat}{d N start k u:Nat}{B A:List Int}{Q:List Nat}(hG:lH adj D g d start)(h:Fwd adj D g d N start k B A Q)(hu:Q[k]? =some u) (hz:D u=0):
  u=g d∧ ∀j,j<d→B.getD (g (j+1)) 0=g j:=by
 have hum:u∈Q:=List.mem_of_getElem? hu
 have hk:k<Q.length:=(List.getElem?_eq_some_iff.1 hu).1
 have hul:Q[k]=u:=(List.getElem?_eq_some_iff.1 hu).2
 have t:=(h.tri u hum).2
 have hmono:=List.pairwise_iff_getElem.1 h.inv.mono
 have hp: ∀(i v:Nat),Q[i]? =some v→A.getD v 0<A.getD u 0→i<k:=by
  intro i v hv hlt
  obtain⟨hi,e⟩:=List.getElem?_eq_some_iff.1 hv
  by_cases hik:i<k
  ·exact hik
  ·exfalso
   by_cases he:i=k
   ·subst he;rw[hul]at e;subst e;omega
   ·have:=hmono k i hk hi (by omega)
    dsimp only at this
    rw[hul,e]at this
    omega
 have hw:=h.way hG (fun i v hv hlt=>hp i v hv (by omega))
 obtain⟨w1,w2⟩:=hw d (Nat.le_refl _)
 have hgd:=hG.dist d (Nat.le_refl _)
 have hgd0:D (g d)=0:=by omega
 obtain⟨i,hi,e⟩:=List.getElem_of_mem w1
 have hq:Q[i]? =some (g d):=by rw[List.getElem?_eq_getElem hi,e]
 have hAu:A.getD u 0=d:=by
  by_cases hh:A.getD u 0=d
  ·exact hh
  ·exfalso
   have:=hp i (g d) hq (by omega)
   exact h.ngoal i _ this hq hgd0
 obtain⟨i',hi',hq'⟩:=h.tight k u hu (by omega)
 have e1:(A.getD u 0).toNat=d:=by omega
 rw[e1]at hq'
 have hik:i'=k:=by
  by_cases hh:i'=k
  ·exact hh
  ·exact absurd hgd0 (h.ngoal i' _ (by omega) hq')
 subst hik
 rw[hu]at hq'
 injection hq' with hq'
 refine⟨hq',fun j hj=> ?_⟩
 obtain⟨a,b⟩:=hw (j+1) (by omega)
 exact h.chain j hj a (by omega)
theorem Fwd.more {adj:Nat→List Nat}{D:Nat→Int}{g:Nat→Nat}{d N start k:Nat}{B A:List Int}{Q:List Nat}(hG:lH adj D g d start)(h:Fwd adj D g d N start k B A Q):k<Q.length:=by
 by_cases hk:k<Q.length
 ·exact hk
 ·exfalso
  have hp: ∀(i v:Nat),Q[i]? =some v→i<k:=fun i v hv=>by have:=(List.getElem?_eq_some_iff.1 hv).1;omega
  obtain⟨a,b⟩:=h.way hG (fun i v hv _=>hp i v hv) d (Nat.le_refl _)
  obtain⟨i,hi,e⟩:=List.getElem_of_mem a
  have hq:Q[i]? =some (g d):=by rw[List.getElem?_eq_getElem hi,e]
  have hgd:=hG.dist d (Nat.le_refl _)
  exact h.ngoal i _ (hp i _ hq) hq (by omega)
theorem Fwd.start {adj:Nat→List Nat}{D:Nat→Int}{g:Nat→Nat}{d N start:Nat}(hG:lH adj D g d start)(hs:start<N):
  Fwd adj D g d N start 0 ((List.replicate N (-1)).set start (start:Int)) ((List.replicate N (-1)).set start 0) [start]:=by
 have hl:start<(List.replicate N (-1:Int)).length:=by simpa using hs
 have hne: ∀(x:Int) v,v<N→start≠v→((List.replicate N (-1:Int)).set start x).getD v 0= -1:=by
  intro x v hv e
  rw[bV e]
  simp[List.getD,hv]
 refine⟨⟨by simp,by simpa using hs,?_,by simp,by simp,?_,?_,?_,fun i u hi=>by omega⟩,by simp,?_,fun i u hi=>by omega,?_,?_,?_⟩
 ·intro v hv
  dsimp only
  by_cases e:start=v
  ·subst e;rw[bY hl];simp
  ·rw[hne 0 v hv e];simp;exact fun h=>e h.symm
 ·intro u hu v hv
  simp at hu hv;subst hu hv
  omega
 ·intro v hv
  simp at hv;subst hv
  dsimp only
  rw[bY hl]
  simp[lJ]
 ·intro v hv
  simp at hv;subst hv
  exact⟨by simp,bY hl⟩
 ·intro v hv
  by_cases e:start=v
  ·subst e;rw[bY hl];simp
  ·rw[hne _ v hv e];simp;exact fun h=>e h.symm
 ·intro v hv
  simp at hv;subst hv
  have:=hG.dist 0 (Nat.zero_le _)
  rw[hG.zero]at this
  rw[bY hl]
  omega
 ·intro j hj hm ha
  simp at hm
  rw[hm,bY hl]at ha
  omega
 ·intro i v hi ht
  have hi0:i=0:=by have:=(List.getElem?_eq_some_iff.1 hi).1;simp at this;omega
  subst hi0
  simp at hi;subst hi
  rw[bY hl]
  exact⟨0,Nat.le_refl _,by simp[hG.zero]⟩
open Go.RowKit
set_option linter.unusedSimpArgs false
def wO (adj:Nat→List Nat):Nat→Nat→List Int×List Nat→List Int×List Nat
 |0,_,s=>s
 |m+1,k,s=>match s.2[k]? with
  |none=>s
  |some u=>wO adj m (k+1) (bJ (s.1.getD u 0+1) s (adj u))
theorem zX {adj:Nat→List Nat}{src:List Nat}{N:Nat}(ha: ∀u v,u<N→v∈adj u→v<N): ∀(m k:Nat) (s:List Int×List Nat),Inv adj src N k s→N≤k+m→oU adj src N (wO adj m k s).1:=by
 intro m
 induction m with
 |zero=>intro k s hI hk;exact hI.dist (Nat.le_trans hI.qlen (by omega))
 |succ m ih=>
  intro k s hI hk
  rw[wO]
  cases hu:s.2[k]? with
  |none=>exact hI.dist (by rw[List.getElem?_eq_none_iff]at hu;exact hu)
  |some u=>exact ih (k+1) _ (hI.step hu (fun v hv=>ha _ v (hI.bd _ (List.mem_of_getElem? hu)) hv)) (by omega)
def fE (aA:Int)(n many:Nat):List Int:=(wO (sR aA n MM) NN 0 (gG NN (rE n many),rE n many)).1
theorem jQ {aA:Int}{n many:Nat}(hn:n≤12):eE aA n many (fE aA n many):=
 zX (oT hn) _ _ _ (Inv.begin (aCc hn) rD) (by omega)
abbrev gQ (e:Nat×Nat):Sl2:=((e.1:Int),(e.2:Int))
def lK (aA:Int)(n:Nat)(dd:Nat→Nat→Int)(s:Nat×Nat)(j:Nat):List Sl2:=(List.range j).map (fun i=>gQ (fA aA n dd s i))
theorem lM (aA:Int)(n:Nat)(dd:Nat→Nat→Int)(s:Nat×Nat)(j:Nat):(lK aA n dd s j).length=j:=by simp[lK]
theorem tK (aA:Int)(n:Nat)(dd:Nat→Nat→Int)(s:Nat×Nat)(j:Nat):lK aA n dd s (j+1)=lK aA n dd s j++ [gQ (fA aA n dd s j)]:=by
 simp[lK,List.range_succ]
def ddH (aA:Int)(xs:List Int):Nat→Nat→Int:=aW (fE aA xs.length (bI xs).length)
def dD (aA:Int)(xs:List Int)(c:Nat):Option (List Sl2):=
 if ddH aA xs c (aN xs)<0 then none else some (lK aA xs.length (ddH aA xs) (c,aN xs) (ddH aA xs c (aN xs)).toNat)
theorem jA {xs:List Int}{c:Nat}{id:Int}(hc:xs[c]? =some id) (h0:id≠0):lL xs.length (bI xs).length (c,aN xs):=by
 obtain⟨hl,he⟩:=List.getElem?_eq_some_iff.1 hc
 refine⟨hl,lC xs,?_,wI xs⟩
 show(aN xs).testBit c=false
 rw[dW,eV hl,List.getD_eq_getElem?_getD,hc]
 simpa using h0
section
variable {aA aB:Int} {xs:List Int} {c:Nat} {id:Int} {D:List Int}
theorem aF0 (h:aP aA aB xs=true)(hc:xs[c]? =some id) (h0:id≠0) (hD:eE aA xs.length (bI xs).length D) {d:Nat} (hd:aW D c (aN xs)=d):
  ∀j,j≤d→ ∃ys,bA aA aB xs (lK aA xs.length (aW D) (c,aN xs) j)=(ys,j)∧aP aA aB ys=true∧ys.length=xs.length∧aN ys=(gP aA xs.length (aW D) (c,aN xs) j).2∧ys[(gP aA xs.length (aW D) (c,aN xs) j).1]? =some id:=by
 obtain⟨b1,b2,b3,b4,b5,b6,b7⟩:=bR (cF h)
 have hp:=jA hc h0
 intro j
 induction j with
 |zero=>intro _;exact⟨xs,rfl,h,rfl,rfl,hc⟩
 |succ j ih=>
  intro hj
  obtain⟨ys,h1,h2,h3,h4,h5⟩:=ih (by omega)
  obtain⟨e1,e2,e3⟩:=iR b5 b6 hD hp hd (show j<d by omega)
  have hw:=tK aA xs.length (aW D) (c,aN xs) j
  generalize fA aA xs.length (aW D) (c,aN xs) j=e at*
  obtain⟨f,t⟩:=e
  rw[←h4,←h3]at e2
  obtain⟨m1,m2,m3,m4⟩:=pQ h2 e2
  refine⟨bE aA aB ys (f:Int) (t:Int),?_,fZ _ _ h2,by rw[cN,h3],?_,?_⟩
  ·rw[hw,mY _ _ _ (by rw[h1,lM]),h1,lM]
   dsimp only
   rw[if_pos m1]
  ·rw[m3,e3,h4];rfl
  ·rw[e3];exact m4 _ _ h5 h0
theorem pS (h:aP aA aB xs=true)(hc:xs[c]? =some id) (h0:id≠0) (hD:eE aA xs.length (bI xs).length D):(bI xs≠ []→0≤aW D c (aN xs)∧aW D c (aN xs)≤60)∧(c=0→aW D c (aN xs)=0)∧(bI xs= []→c≠0→aW D c (aN xs)<0):=by
 obtain⟨b1,b2,b3,b4,b5,b6,b7⟩:=bR (cF h)
 have hp:=jA hc h0
 obtain⟨k1,k2,k3⟩:=kY b6 hp
 refine⟨fun hf=> ?_,fun hc0=> ?_,fun hf hc0=> ?_⟩
 ·obtain⟨u,hu⟩:=List.exists_mem_of_ne_nil _ hf
  obtain⟨u1,u2⟩:=iM hu
  have hb:(aN xs).testBit u=true:=by rw[dW,eV u1,u2];rfl
  have hg:=iL h
  obtain⟨a,b⟩:=aHb hg b5 b6 hD _ _ u (Nat.le_refl _) k1 (by rw[k3];exact hp.many) (by rw[k3];exact hb)
  rw[k2]at b
  exact⟨a,Int.le_trans b (by have:=(rN hg hp.car u1).1;exact_mod_cast this)⟩
 ·subst hc0
  refine(hD.zero _ (lS b6 k1)).2 (hU.2 ?_)
  rw[Nat.zero_mul,Nat.zero_add]
  exact⟨hp.set,hp.occ,hp.many⟩
 ·rcases Int.lt_or_le (aW D c (aN xs)) 0 with hlt|hge
  ·exact hlt
  ·exfalso
   rcases Int.lt_or_eq_of_le hge with h1|h1
   ·obtain⟨e,e1,e2,_⟩:=pI b5 b6 hD hp h1
    obtain⟨_,g2,_,_,g5⟩:=eJ.1 e2
    have hm:e.2∈bI xs:=by
     unfold bI
     rw[List.mem_filter]
     exact⟨List.mem_range.2 g2,by rw[←dW];exact g5⟩
    rw[hf]at hm;cases hm
   ·have hz:=(hD.zero _ (lS b6 k1)).1 h1.symm
    have h2:=(hU.1 hz).1
    have h3:=Nat.div_eq_of_lt (Nat.lt_of_lt_of_le h2 (fW b6))
    rw[k2]at h3
    exact hc0 h3
theorem aEx (h:aP aA aB xs=true)(hc:xs[c]? =some id) (h0:id≠0) (hD:eE aA xs.length (bI xs).length D):
  (0≤aW D c (aN xs)↔0≤ddH aA xs c (aN xs))∧(0≤aW D c (aN xs)→aW D c (aN xs)=ddH aA xs c (aN xs)∧lK aA xs.length (aW D) (c,aN xs) (aW D c (aN xs)).toNat=lK aA xs.length (ddH aA xs) (c,aN xs) (ddH aA xs c (aN xs)).toNat):=by
 obtain⟨b1,b2,b3,b4,b5,b6,b7⟩:=bR (cF h)
 have hp:=jA hc h0
 have hE:=jQ (aA:=aA) (many:=(bI xs).length) b6
 obtain⟨s1,s2⟩:=uJ hD hE (lS b6 (kY b6 hp).1)
 refine⟨s1,fun h1=> ?_⟩
 have e1:aW D c (aN xs)=ddH aA xs c (aN xs):=s2 h1
 refine⟨e1,?_⟩
 obtain⟨d,hd⟩:=Int.eq_ofNat_of_zero_le h1
 rw[←e1,hd]
 unfold lK
 refine List.map_congr_left fun i hi=> ?_
 have:=List.mem_range.1 hi
 rw[aC1 b5 b6 hD hE hp hd (show i<d by simpa using this)]
 rfl
theorem sO (h:aP aA aB xs=true)(hc:xs[c]? =some id) (h0:id≠0) (hD:eE aA xs.length (bI xs).length D):dD aA xs c=if aW D c (aN xs)<0 then none else some (lK aA xs.length (aW D) (c,aN xs) (aW D c (aN xs)).toNat):=by
 obtain⟨a,b⟩:=aEx h hc h0 hD
 unfold dD
 by_cases h1:0≤aW D c (aN xs)
 ·rw[if_neg (by have:=a.1 h1;omega),if_neg (by omega),(b h1).2]
 ·rw[if_pos (by have:=fun x=>h1 (a.2 x);omega),if_pos (by omega)]
theorem mD (h:aP aA aB xs=true)(hc:xs[c]? =some id) (h0:id≠0):(dD aA xs c=none↔bI xs= []∧c≠0)∧ ∀l,dD aA xs c=some l→l.length≤60∧ ∃ys,bA aA aB xs l=(ys,l.length)∧aP aA aB ys=true∧ys.length=xs.length∧ys[0]? =some id:=by
 obtain⟨b1,b2,b3,b4,b5,b6,b7⟩:=bR (cF h)
 have hE:=jQ (aA:=aA) (many:=(bI xs).length) b6
 obtain⟨n1,n2,n3⟩:=pS h hc h0 hE
 have e:ddH aA xs c (aN xs)=aW (fE aA xs.length (bI xs).length) c (aN xs):=rfl
 constructor
 ·unfold dD
  rw[e]
  constructor
  ·intro hn
   by_cases hf:bI xs= []
   ·refine⟨hf,fun hc0=> ?_⟩
    rw[n2 hc0]at hn;simp at hn
   ·rw[if_neg (by have:=(n1 hf).1;omega)]at hn;cases hn
  ·rintro⟨hf,hc0⟩
   rw[if_pos (n3 hf hc0)]
 ·intro l hl
  unfold dD at hl
  rw[e]at hl
  by_cases h1:aW (fE aA xs.length (bI xs).length) c (aN xs)<0
  ·rw[if_pos h1]at hl;cases hl
  ·rw[if_neg h1]at hl
   injection hl with hl
   obtain⟨d,hd⟩:=Int.eq_ofNat_of_zero_le (show 0≤aW (fE aA xs.length (bI xs).length) c (aN xs) by omega)
   have hlen:l.length=d:=by rw[←hl,lM,hd];rfl
   have hd60:d≤60:=by
    by_cases hf:bI xs= []
    ·by_cases hc0:c=0
     ·have:=n2 hc0;omega
     ·exact absurd (n3 hf hc0) h1
    ·have:=(n1 hf).2;omega
   refine⟨by omega,?_⟩
   obtain⟨ys,w1,w2,w3,w4,w5⟩:=aF0 h hc h0 hE hd d (Nat.le_refl _)
   have hz:=(aGx b5 b6 hE (jA hc h0) hd (Nat.le_refl d)).2 rfl
   rw[hz]at w5
   refine⟨ys,?_,w2,w3,w5⟩
   rw[hlen,←w1,←hl,hd];rfl
end
def kF (aA aB:Int)(xs:List Int)(id:Int):Option (List Int×Nat):=
 if id<1∨id∉xs then none else(dD aA xs (mV xs id).toNat).map (fun l=>((bA aA aB xs l).1.set 0 0,l.length))
/-! the other search: its states, coded by 2^n -/
def eD (n:Nat)(s:Nat×Nat):Nat:=s.1*2 ^ n+s.2
def ddM (n:Nat)(dd:Nat→Nat→Int)(v:Nat):Int:=dd (v/2 ^ n) (v%2 ^ n)
theorem iT {n:Nat}{s:Nat×Nat}(h:s.2<2 ^ n):eD n s/2 ^ n=s.1∧eD n s%2 ^ n=s.2:=⟨jR h,fL h⟩
theorem sM {n:Nat}{dd:Nat→Nat→Int}{s:Nat×Nat}(h:s.2<2 ^ n):ddM n dd (eD n s)=dd s.1 s.2:=by
 obtain⟨a,b⟩:=iT h
 unfold ddM;rw[a,b]
section
variable {aA:Int} {n many:Nat} {D:List Int}
theorem aEu {s:Nat×Nat}(h:s.2<2 ^ n):lF aA n (2 ^ n) (eD n s)=(dO aA n s.2).map (fun e=>eD n (iG s e)):=by
 obtain⟨a,b⟩:=iT h
 unfold lF;rw[a,b];rfl
theorem oQ {s:Nat×Nat}(h1:s.1<n)(h2:s.2<2 ^ n):eD n s<n*2 ^ n:=by
 unfold eD
 have:(s.1+1)*2 ^ n≤n*2 ^ n:=Nat.mul_le_mul_right _ h1
 rw[Nat.succ_mul]at this
 omega
theorem sH (hn0:4≤n)(hn:n≤12)(hD:eE aA n many D){s:Nat×Nat}(h:lL n many s){d:Nat}(hd:aW D s.1 s.2=d):
  lH (lF aA n (2 ^ n)) (ddM n (aW D)) (fun j=>eD n (gP aA n (aW D) s j)) d (eD n s):=by
 refine⟨rfl,fun j hj=> ?_,fun j hj=> ?_⟩
 ·obtain⟨a,b⟩:=iA hn0 hn hD h hd j hj
  show ddM n (aW D) (eD n (gP aA n (aW D) s j))=_
  rw[sM a.set,b]
 ·obtain⟨a,b⟩:=iA hn0 hn hD h hd j (by omega)
  obtain⟨e1,e2,e3⟩:=iR hn0 hn hD h hd hj
  rw[aEu a.set,sM a.set,e3]
  rw[List.find?_map]
  have key:(dO aA n (gP aA n (aW D) s j).2).find? ((fun v=>decide (ddM n (aW D) v=aW D (gP aA n (aW D) s j).1 (gP aA n (aW D) s j).2-1))∘fun e=>eD n (iG (gP aA n (aW D) s j) e))=jY aA n (aW D) (gP aA n (aW D) s j):=by
   unfold jY
   have k2: ∀l:List (Nat×Nat),(∀e∈l,e∈dO aA n (gP aA n (aW D) s j).2)→l.find? ((fun v=>decide (ddM n (aW D) v=aW D (gP aA n (aW D) s j).1 (gP aA n (aW D) s j).2-1))∘fun e=>eD n (iG (gP aA n (aW D) s j) e))=l.find? (fun e=>decide (aW D (dC (gP aA n (aW D) s j).1 e.1 e.2) (cO (gP aA n (aW D) s j).2 e.1 e.2)=aW D (gP aA n (aW D) s j).1 (gP aA n (aW D) s j).2-1)):=by
    intro l
    induction l with
    |nil=>intro _;rw[List.find?_nil,List.find?_nil]
    |cons e l ih=>
     intro hl
     rw[List.find?_cons,List.find?_cons,ih (fun x hx=>hl x (by simp[hx]))]
     have hp:=(vK hn a (hl e (by simp))).2
     have:ddM n (aW D) (eD n (iG (gP aA n (aW D) s j) e))=aW D (dC (gP aA n (aW D) s j).1 e.1 e.2) (cO (gP aA n (aW D) s j).2 e.1 e.2):=sM hp.set
     simp only[Function.comp_apply,this]
   exact k2 _ (fun e he=>he)
  rw[key,e1];rfl
theorem oM (hn0:4≤n)(hn:n≤12)(hD:eE aA n many D):aA1 (lF aA n (2 ^ n)) (ddM n (aW D)) (n*2 ^ n):=by
 have hpos:0<2 ^ n:=Nat.two_pow_pos n
 have bd: ∀u v,u<n*2 ^ n→v∈lF aA n (2 ^ n) u→v/2 ^ n<n∧v%2 ^ n<2 ^ n:=fun u v hu hv=>
  aCp (Nat.le_refl _) ((Nat.div_lt_iff_lt_mul hpos).2 hu) (Nat.mod_lt _ hpos) (mE.1 hv)
 refine⟨fun u v hu hv h0=> ?_,fun u v hu hv=> ?_⟩
 ·obtain⟨f,t,h1,h2,h3,h4,h5,h6,h7,h8⟩:=jE (Nat.le_refl _) (Nat.mod_lt u hpos) (mE.1 hv)
  have hc:=(Nat.div_lt_iff_lt_mul hpos).2 hu
  have hS:=Nat.mod_lt u hpos
  have hlt:u/2 ^ n*MM+u%2 ^ n<NN:=by
   have:=fW hn
   show u/2 ^ n*4096+u%2 ^ n<49152
   have h4:(MM:Nat)=4096:=rfl
   omega
  obtain⟨k,hk⟩:=Int.eq_ofNat_of_zero_le h0
  obtain⟨u1,u2⟩:=aCq hn0 hn hD k _ hlt hk
  have hSM:u%2 ^ n<MM:=Nat.lt_of_lt_of_le hS (fW hn)
  have hE:nS aA n MM (u/2 ^ n*MM+u%2 ^ n) (v/2 ^ n*MM+v%2 ^ n):=⟨f,t,h1,h2,h3,by rw[fL hSM];exact h4,by rw[fL hSM];exact h5,by rw[jR hSM,fL hSM,h6,h7];rfl⟩
  obtain⟨a,b⟩:=uL hn0 hn hD u1 hE
  exact⟨a.1 h0,(b h0).1⟩
 ·obtain⟨a,b⟩:=bd u v hu hv
  have:=oQ (s:=(v/2 ^ n,v%2 ^ n)) a b
  unfold eD at this
  rw[Nat.mul_comm (v/2 ^ n),Nat.div_add_mod]at this
  exact this
theorem aHd (hn0:4≤n)(hn:n≤12)(hD:eE aA n many D){v:Nat}(hv:v<n*2 ^ n)(hok:tI n (2 ^ n) v)(hm:fI (v%2 ^ n)=many):ddM n (aW D) v=0↔v/2 ^ n=0:=by
 have hp:lL n many (v/2 ^ n,v%2 ^ n):=⟨hok.car,hok.set,hok.occ,hm⟩
 obtain⟨k1,k2,k3⟩:=kY hn hp
 have hz:=hD.zero _ (lS hn k1)
 have e:ddM n (aW D) v=D.getD ((v/2 ^ n)*MM+v%2 ^ n) 0:=rfl
 rw[e]
 constructor
 ·intro h
  have h1:=(hU.1 (hz.1 h)).1
  have h2:=Nat.div_eq_of_lt (Nat.lt_of_lt_of_le h1 (fW hn))
  rwa[k2]at h2
 ·intro h
  refine hz.2 (hU.2 ?_)
  dsimp only
  rw[h,Nat.zero_mul,Nat.zero_add]
  have:=hok.occ
  rw[h]at this
  exact⟨hok.set,this,hm⟩
theorem walk_ok (hn:n≤12){s:Nat×Nat}(h:lL n many s): ∀(k v:Nat),lJ (lF aA n (2 ^ n)) [eD n s] k v→tI n (2 ^ n) v∧fI (v%2 ^ n)=many:=by
 intro k
 induction k with
 |zero=>
  intro v hv
  have:v=eD n s:=by simpa[lJ]using hv
  subst this
  obtain⟨a,b⟩:=iT (n:=n) h.set
  exact⟨⟨by rw[a];exact h.car,by rw[b];exact h.set,by rw[a,b];exact h.occ⟩,by rw[b];exact h.many⟩
 |succ k ih=>
  rintro v ⟨u,hu,hv⟩
  obtain⟨a,b⟩:=ih u hu
  exact⟨oO (Nat.le_refl _) a (mE.1 hv),by rw[mR (Nat.le_refl _) a.set (mE.1 hv)];exact b⟩
end
end Go.Proofs.YtgnkoffndhmhpaaGreatDoor
