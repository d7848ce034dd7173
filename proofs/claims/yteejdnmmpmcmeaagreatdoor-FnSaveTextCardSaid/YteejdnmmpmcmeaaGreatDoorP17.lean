/-
  Texts of this proof, packed (@packed).
-/
import Derived.Test.YteejdnmmpmcmeaaGreatDoorP5
import Derived.Test.YteejdnmmpmcmeaaGreatDoorP16
namespace Go.Proofs.YteejdnmmpmcmeaaGreatDoor
open Go.RowKit
set_option linter.unusedVariables false
set_option linter.unusedSimpArgs false
theorem aJr (m:Nat→Bool)(f k:Nat):jO m f k=((List.range k).filter m).map (fun(t:Nat)=>((f:Int),(t:Int))):=by
 induction k with
 |zero=>rfl
 |succ k ih=>
  rw[List.range_succ,List.filter_append,List.map_append,show jO m f (k+1)=jO m f k++(if m k then [((f:Int),(k:Int))]else [])from rfl,ih]
  cases h:m k<;>simp[h]
theorem aI1 (m:Nat→Nat→Bool)(n k:Nat):dO m n k=(List.range k).flatMap (fun f=>((List.range n).filter (m f)).map (fun(t:Nat)=>((f:Int),(t:Int)))):=by
 induction k with
 |zero=>rfl
 |succ k ih=>
  rw[List.range_succ,List.flatMap_append,show dO m n (k+1)=dO m n k++jO (m k) k n from rfl,ih,aJr]
  simp
theorem gH {xs:List Int}{k:Nat}(hk:k<xs.length):dY xs k=decide (xs.getD k 0=0):=by
 unfold dY
 rw[List.getD_eq_getElem?_getD,List.getElem?_eq_getElem hk]
 simp
 rfl
theorem aCb {aA aB:Int}{xs:List Int}(h:aR aA aB xs=true){f t:Nat}(hf:f<xs.length)(ht:t<xs.length):
  bR aA aB xs (f:Int) (t:Int)=(!(aM xs).testBit f&&(decide (t∈aY aA xs.length f)&&(aM xs).testBit t)):=by
 have h1:dN aA aB xs (f:Int) (t:Int)=bM aA f t:=by
  unfold dN;rw[if_pos ⟨h,⟨by omega,by omega⟩,by omega,by omega⟩]
 have h2:=tC h f
 unfold bR
 rw[h1,eS,eS,gH hf,gH ht]
 simp only[Int.toNat_natCast]
 have h3:decide (t∈aY aA xs.length f)=decide (bM aA f t=1):=by
  have:t∈aY aA xs.length f↔bM aA f t=1:=by rw[cL];exact⟨fun h=>h.2,fun h=>⟨ht,h⟩⟩
  simp[this]
 have h4:decide (0<xs.getD f 0)= !decide (xs.getD f 0=0):=by
  by_cases h0:xs.getD f 0=0
  ·rw[h0];rfl
  ·have:0<xs.getD f 0:=by omega
   simp only[h0,this];rfl
 rw[h3,h4]
 cases decide (bM aA f t=1)<;>cases decide (xs.getD f 0=0)<;>rfl
theorem aA0 {aA aB:Int}{xs:List Int}(h:aR aA aB xs=true):gK aA aB xs=(fP aA xs.length (aM xs)).map (fun e=>((e.1:Int),(e.2:Int))):=by
 unfold gK fP
 rw[aI1,List.map_flatMap]
 have key: ∀l:List Nat,(∀f∈l,f<xs.length)→l.flatMap (fun(f:Nat)=>((List.range xs.length).filter (fun(t:Nat)=>bR aA aB xs f t)).map (fun(t:Nat)=>((f:Int),(t:Int))))=l.flatMap (fun a=>(if(aM xs).testBit a then []else((aY aA xs.length a).filter (fun t=>(aM xs).testBit t)).map (fun t=>(a,t))).map (fun e=>((e.1:Int),(e.2:Int)))):=by
  intro l
  induction l with
  |nil=>intro _;rfl
  |cons f l ih=>
   intro hl
   have hf:=hl f (by simp)
   rw[List.flatMap_cons,List.flatMap_cons,ih (fun x hx=>hl x (by simp[hx]))]
   congr 1
   have e1:(List.range xs.length).filter (fun(t:Nat)=>bR aA aB xs f t)=(List.range xs.length).filter (fun(t:Nat)=>(!(aM xs).testBit f&&(decide (t∈aY aA xs.length f)&&(aM xs).testBit t))):=
    List.filter_congr (fun t ht=>aCb h hf (List.mem_range.1 ht))
   rw[e1]
   cases hb:(aM xs).testBit f with
   |true=>simp
   |false=>
    simp only[Bool.not_false,Bool.true_and,Bool.false_eq_true,if_false,List.map_map]
    have e2:(List.range xs.length).filter (fun(t:Nat)=>decide (t∈aY aA xs.length f)&&(aM xs).testBit t)=(aY aA xs.length f).filter (fun t=>(aM xs).testBit t):=by
     have:aY aA xs.length f=(List.range xs.length).filter (fun t=>decide (t∈aY aA xs.length f)):=by
      conv=>lhs;unfold aY
      refine List.filter_congr (fun t ht=> ?_)
      have:t∈aY aA xs.length f↔bM aA f t=1:=by rw[cL];exact⟨fun h=>h.2,fun h=>⟨List.mem_range.1 ht,h⟩⟩
      simp[this]
     conv=>rhs;rw[this]
     rw[List.filter_filter]
     refine List.filter_congr (fun t _=> ?_)
     rw[Bool.and_comm]
    rw[e2]
    rfl
 exact key _ (fun f hf=>List.mem_range.1 hf)
theorem sG {aA aB:Int}{xs:List Int}(h:aR aA aB xs=true){f t:Nat}(he:(f,t)∈fP aA xs.length (aM xs)):
  bR aA aB xs (f:Int) (t:Int)=true∧bP aA aB xs (f:Int) (t:Int)=(xs.set t (xs.getD f 0)).set f 0∧aM (bP aA aB xs (f:Int) (t:Int))=dX (aM xs) f t∧ ∀c id,xs[c]? =some id→id≠0→(bP aA aB xs (f:Int) (t:Int))[dR c f t]? =some id:=by
 obtain⟨h1,h2,h3,h4,h5⟩:=nA.1 he
 dsimp only at h1 h2 h3 h4 h5
 have hm:bR aA aB xs (f:Int) (t:Int)=true:=by rw[aCb h h1 h2,h4,h5];simp[h3]
 have hd:bP aA aB xs (f:Int) (t:Int)=(xs.set t (xs.getD f 0)).set f 0:=by unfold bP;rw[if_pos hm];simp only[Int.toNat_natCast]
 have hne:f≠t:=fun e=>by subst e;rw[h5]at h4;cases h4
 have hf0:xs.getD f 0≠0:=by
  intro e;rw[eS,gH h1,e]at h4;simp at h4
 refine⟨hm,hd,?_,?_⟩
 ·refine aFf fun k=> ?_
  rw[fU h5 h4,eS,eS,hd]
  by_cases hk:k<xs.length
  ·rw[gH (by simpa using hk),gH hk]
   by_cases k1:k=f
   ·subst k1
    rw[List.getD_eq_getElem?_getD,List.getElem?_set_self (by simpa using hk)];simp
   ·by_cases k2:k=t
    ·subst k2
     rw[List.getD_eq_getElem?_getD,List.getElem?_set_ne (Ne.symm k1),List.getElem?_set_self hk]
     have e:(some (xs.getD f 0)).getD 0=xs.getD f 0:=rfl
     rw[e]
     have hf1: ¬xs[f]?.getD 0=0:=by rw[←List.getD_eq_getElem?_getD];exact hf0
     simp[hf1,k1]
    ·rw[List.getD_eq_getElem?_getD,List.getElem?_set_ne (Ne.symm k1),List.getElem?_set_ne (Ne.symm k2),←List.getD_eq_getElem?_getD]
     simp[k1,k2]
  ·have e1:dY ((xs.set t (xs.getD f 0)).set f 0) k=false:=by unfold dY;rw[List.getElem?_eq_none (by simp;omega)];rfl
   have e2:dY xs k=false:=by unfold dY;rw[List.getElem?_eq_none (by omega)];rfl
   rw[e1,e2]
   have:k≠f:=by omega
   simp[this]
 ·intro c id hc h0
  rw[hd]
  obtain⟨hcl,hce⟩:=List.getElem?_eq_some_iff.1 hc
  unfold dR
  by_cases hcf:f=c
  ·rw[if_pos hcf,List.getElem?_set_ne (by omega),List.getElem?_set_self h2,hcf,List.getD_eq_getElem?_getD,hc];rfl
  ·rw[if_neg hcf]
   have hct:t≠c:=by
    rintro rfl
    rw[eS,gH h2,List.getD_eq_getElem?_getD,hc]at h5
    simp at h5;exact h0 h5
   rw[List.getElem?_set_ne hcf,List.getElem?_set_ne hct,hc]
def nH (aA:Int)(n:Nat)(dd:Nat→Nat→Int)(s:Nat×Nat):Option (Nat×Nat):=(fP aA n s.2).find? (fun e=>decide (dd (dR s.1 e.1 e.2) (dX s.2 e.1 e.2)=dd s.1 s.2-1))
def lX (s e:Nat×Nat):Nat×Nat:=(dR s.1 e.1 e.2,dX s.2 e.1 e.2)
def gP (aA:Int)(n:Nat)(dd:Nat→Nat→Int)(s:Nat×Nat):Nat→Nat×Nat
 |0=>s
 |j+1=>match nH aA n dd (gP aA n dd s j)with
  |none=>gP aA n dd s j
  |some e=>lX (gP aA n dd s j) e
def gZ (aA:Int)(n:Nat)(dd:Nat→Nat→Int)(s:Nat×Nat)(j:Nat):Nat×Nat:=(nH aA n dd (gP aA n dd s j)).getD (0,0)
def bG (D:List Int)(c S:Nat):Int:=D.getD (c*MM+S) 0
structure rH (n many:Nat) (s:Nat×Nat):Prop where
 car:s.1<n
 set:s.2<2 ^ n
 occ:s.2.testBit s.1=false
 many:gX s.2=many
section
variable {aA:Int} {n many:Nat} {D:List Int}
theorem oM (hn:n≤12){s:Nat×Nat}(h:rH n many s):aD6 n MM (s.1*MM+s.2)∧(s.1*MM+s.2)/MM=s.1∧(s.1*MM+s.2)%MM=s.2:=by
 have hl:s.2<MM:=Nat.lt_of_lt_of_le h.set (jA hn)
 have e1:(s.1*MM+s.2)/MM=s.1:=oD hl
 have e2:(s.1*MM+s.2)%MM=s.2:=mJ hl
 exact⟨⟨by rw[e1];exact h.car,by rw[e2];exact h.set,by rw[e1,e2];exact h.occ⟩,e1,e2⟩
theorem aF4 (hn:n≤12){s e:Nat×Nat}(h:rH n many s)(he:e∈fP aA n s.2):tZ aA n MM (s.1*MM+s.2) ((lX s e).1*MM+(lX s e).2)∧rH n many (lX s e):=by
 obtain⟨h1,h2,h3,h4,h5⟩:=nA.1 he
 obtain⟨a,b,c⟩:=oM hn h
 have hE:tZ aA n MM (s.1*MM+s.2) ((lX s e).1*MM+(lX s e).2):=⟨e.1,e.2,h1,h2,h3,by rw[c];exact h4,by rw[c];exact h5,by rw[b,c];rfl⟩
 have hl:=qQ h.set h1 h5 h4
 have k:=uH (jA hn) a hE
 have k2:=sF (jA hn) a.set hE
 have hl2:(lX s e).2<MM:=Nat.lt_of_lt_of_le hl (jA hn)
 have e1:=k.car;have e2:=k.set;have e3:=k.occ
 rw[oD hl2]at e1
 rw[mJ hl2]at e2
 rw[oD hl2,mJ hl2]at e3
 rw[mJ hl2,c,h.many]at k2
 exact⟨hE,e1,e2,e3,k2⟩
theorem rT (hn0:4≤n)(hn:n≤12)(hD:fG aA n many D){s:Nat×Nat}(h:rH n many s)(h0:0<bG D s.1 s.2): ∃e,nH aA n (bG D) s=some e∧e∈fP aA n s.2∧bG D (lX s e).1 (lX s e).2=bG D s.1 s.2-1∧rH n many (lX s e):=by
 obtain⟨a,b,c⟩:=oM hn h
 obtain⟨u,hu,hm,hd⟩:=hD.back _ (pN hn a) h0
 have h0':D.getD (s.1*MM+s.2) 0=bG D s.1 s.2:=rfl
 obtain⟨k,hk⟩:=Int.eq_ofNat_of_zero_le (show 0≤D.getD u 0 by rw[hd,h0'];omega)
 obtain⟨u1,u2⟩:=aK9 hn0 hn hD k u hu hk
 obtain⟨f,t,h1,h2,h3,h4,h5,h6⟩:=zB (jA hn) u1 (mM.1 hm)
 rw[b,c]at h6
 rw[c]at h4 h5
 have he:(f,t)∈fP aA n s.2:=nA.2 ⟨h1,h2,h3,h4,h5⟩
 have hp:(fun e:Nat×Nat=>decide (bG D (dR s.1 e.1 e.2) (dX s.2 e.1 e.2)=bG D s.1 s.2-1)) (f,t)=true:=by
  simp only[decide_eq_true_eq]
  show D.getD (nJ MM s.1 s.2 f t) 0=_
  rw[←h6,hd,h0']
 cases hf:nH aA n (bG D) s with
 |none=>
  unfold nH at hf
  have:=List.find?_eq_none.1 hf _ he
  exact absurd hp this
 |some e=>
  unfold nH at hf
  have h7:=List.find?_some hf
  have h8:=List.mem_of_find?_eq_some hf
  simp only[decide_eq_true_eq]at h7
  exact⟨e,rfl,h8,h7,(aF4 hn h h8).2⟩
theorem aFa {dd:Nat→Nat→Int}{s:Nat×Nat}{j:Nat}{e:Nat×Nat}(h:nH aA n dd (gP aA n dd s j)=some e):gP aA n dd s (j+1)=lX (gP aA n dd s j) e:=by
 rw[gP,h]
theorem mE (hn0:4≤n)(hn:n≤12)(hD:fG aA n many D){s:Nat×Nat}(h:rH n many s){d:Nat}(hd:bG D s.1 s.2=d): ∀j,j≤d→rH n many (gP aA n (bG D) s j)∧bG D (gP aA n (bG D) s j).1 (gP aA n (bG D) s j).2=(d:Int)-j:=by
 intro j
 induction j with
 |zero=>intro _;exact⟨h,by show bG D s.1 s.2=_;rw[hd];simp⟩
 |succ j ih=>
  intro hj
  obtain⟨a,b⟩:=ih (by omega)
  obtain⟨e,h1,h2,h3,h4⟩:=rT hn0 hn hD a (by rw[b];omega)
  rw[aFa h1]
  exact⟨h4,by rw[h3,b];omega⟩
theorem nZ (hn0:4≤n)(hn:n≤12)(hD:fG aA n many D){s:Nat×Nat}(h:rH n many s){d:Nat}(hd:bG D s.1 s.2=d){j:Nat}(hj:j<d):nH aA n (bG D) (gP aA n (bG D) s j)=some (gZ aA n (bG D) s j)∧gZ aA n (bG D) s j∈fP aA n (gP aA n (bG D) s j).2∧gP aA n (bG D) s (j+1)=lX (gP aA n (bG D) s j) (gZ aA n (bG D) s j):=by
 obtain⟨a,b⟩:=mE hn0 hn hD h hd j (by omega)
 obtain⟨e,h1,h2,h3,h4⟩:=rT hn0 hn hD a (by rw[b];omega)
 have he:gZ aA n (bG D) s j=e:=by unfold gZ;rw[h1];rfl
 rw[he]
 exact⟨h1,h2,aFa h1⟩
theorem aIn (hn0:4≤n)(hn:n≤12)(hD:fG aA n many D){s:Nat×Nat}(h:rH n many s){d:Nat}(hd:bG D s.1 s.2=d){j:Nat}(hj:j≤d):(gP aA n (bG D) s j).1=0↔j=d:=by
 obtain⟨a,b⟩:=mE hn0 hn hD h hd j hj
 obtain⟨k1,k2,k3⟩:=oM hn a
 have hz:=hD.zero _ (pN hn k1)
 have hb:D.getD ((gP aA n (bG D) s j).1*MM+(gP aA n (bG D) s j).2) 0=(d:Int)-j:=b
 rw[hb,kQ]at hz
 constructor
 ·intro h0
  have:=hz.2 (by
   rw[h0,Nat.zero_mul,Nat.zero_add]
   exact⟨a.set,by have:=a.occ;rw[h0]at this;exact this,a.many⟩)
  omega
 ·intro e
  have h1:=(hz.1 (by omega)).1
  have hp:=jA hn
  have h2:=Nat.div_eq_of_lt (Nat.lt_of_lt_of_le h1 hp)
  rw[k2]at h2
  exact h2
theorem yK (hn0:4≤n)(hn:n≤12){E:List Int}(hD:fG aA n many D)(hE:fG aA n many E){s:Nat×Nat}(h:rH n many s)(h0:0<bG D s.1 s.2):nH aA n (bG D) s=nH aA n (bG E) s:=by
 unfold nH
 have same: ∀s:Nat×Nat,rH n many s→(0≤bG D s.1 s.2↔0≤bG E s.1 s.2)∧(0≤bG D s.1 s.2→bG D s.1 s.2=bG E s.1 s.2):=fun s hs=>zC hD hE (pN hn (oM hn hs).1)
 have h1:=(same s h).2 (by omega)
 have key: ∀l:List (Nat×Nat),(∀e∈l,e∈fP aA n s.2)→l.find? (fun e=>decide (bG D (dR s.1 e.1 e.2) (dX s.2 e.1 e.2)=bG D s.1 s.2-1))=l.find? (fun e=>decide (bG E (dR s.1 e.1 e.2) (dX s.2 e.1 e.2)=bG E s.1 s.2-1)):=by
  intro l
  induction l with
  |nil=>intro _;rfl
  |cons e l ih=>
   intro hl
   have hp:=(aF4 hn h (hl e (by simp))).2
   obtain⟨a,b⟩:=same _ hp
   have hh:decide (bG D (dR s.1 e.1 e.2) (dX s.2 e.1 e.2)=bG D s.1 s.2-1)=decide (bG E (dR s.1 e.1 e.2) (dX s.2 e.1 e.2)=bG E s.1 s.2-1):=by
    have a':0≤bG D (dR s.1 e.1 e.2) (dX s.2 e.1 e.2)↔0≤bG E (dR s.1 e.1 e.2) (dX s.2 e.1 e.2):=a
    have b':0≤bG D (dR s.1 e.1 e.2) (dX s.2 e.1 e.2)→bG D (dR s.1 e.1 e.2) (dX s.2 e.1 e.2)=bG E (dR s.1 e.1 e.2) (dX s.2 e.1 e.2):=b
    rw[←h1]
    by_cases hc:0≤bG D (dR s.1 e.1 e.2) (dX s.2 e.1 e.2)
    ·rw[b' hc]
    ·have hc2: ¬0≤bG E (dR s.1 e.1 e.2) (dX s.2 e.1 e.2):=fun x=>hc (a'.2 x)
     have d1: ¬(bG D (dR s.1 e.1 e.2) (dX s.2 e.1 e.2)=bG D s.1 s.2-1):=by omega
     have d2: ¬(bG E (dR s.1 e.1 e.2) (dX s.2 e.1 e.2)=bG D s.1 s.2-1):=by omega
     simp only[d1,d2]
   rw[List.find?_cons,List.find?_cons,hh,ih (fun x hx=>hl x (by simp[hx]))]
 exact key _ (fun e he=>he)
theorem aK3 (hn0:4≤n)(hn:n≤12){E:List Int}(hD:fG aA n many D)(hE:fG aA n many E){s:Nat×Nat}(h:rH n many s){d:Nat}(hd:bG D s.1 s.2=d): ∀j,j≤d→gP aA n (bG D) s j=gP aA n (bG E) s j:=by
 intro j
 induction j with
 |zero=>intro _;rfl
 |succ j ih=>
  intro hj
  have e:=ih (by omega)
  obtain⟨a,b⟩:=mE hn0 hn hD h hd j (by omega)
  have p:=yK hn0 hn hD hE a (by rw[b];omega)
  rw[gP,gP,←e,p]
theorem aEt (hn0:4≤n)(hn:n≤12){E:List Int}(hD:fG aA n many D)(hE:fG aA n many E){s:Nat×Nat}(h:rH n many s){d:Nat}(hd:bG D s.1 s.2=d){j:Nat}(hj:j<d):gZ aA n (bG D) s j=gZ aA n (bG E) s j:=by
 obtain⟨a,b⟩:=mE hn0 hn hD h hd j (by omega)
 unfold gZ
 rw[←aK3 hn0 hn hD hE h hd j (by omega),yK hn0 hn hD hE a (by rw[b];omega)]
end
end Go.Proofs.YteejdnmmpmcmeaaGreatDoor
namespace Go.Proofs.YteejdnmmpmcmeaaGreatDoor
set_option linter.unusedVariables false
structure sL (adj:Nat→List Nat) (D:Nat→Int) (g:Nat→Nat) (d start:Nat):Prop where
 zero:g 0=start
 dist: ∀j,j≤d→D (g j)=d-j
 next: ∀j,j<d→(adj (g j)).find? (fun v=>decide (D v=D (g j)-1))=some (g (j+1))
structure aJe (adj:Nat→List Nat) (D:Nat→Int) (N:Nat):Prop where
 edge: ∀u v,u<N→v∈adj u→0≤D u→0≤D v∧D u≤D v+1
 bd: ∀u v,u<N→v∈adj u→v<N
structure Fwd (adj:Nat→List Nat) (D:Nat→Int) (g:Nat→Nat) (d N start k:Nat) (B A:List Int) (Q:List Nat):Prop where
 inv:Inv adj [start] N k (A,Q)
 blen:B.length=N
 bmem: ∀v,v<N→(0≤B.getD v 0↔v∈Q)
 ngoal: ∀(i u:Nat),i<k→Q[i]? =some u→D u≠0
 tri: ∀v∈Q,0≤D v∧(d:Int)≤A.getD v 0+D v
 chain: ∀j:Nat,j<d→g (j+1)∈Q→A.getD (g (j+1)) 0=j+1→B.getD (g (j+1)) 0=g j
 tight: ∀(i v:Nat),Q[i]? =some v→A.getD v 0+D v=d→ ∃i',i'≤i∧Q[i']? =some (g (A.getD v 0).toNat)
structure FMid (adj:Nat→List Nat) (D:Nat→Int) (g:Nat→Nat) (d N start k u:Nat) (ws:List Nat) (A0:List Int) (Q0:List Nat) (B A:List Int) (Q:List Nat):Prop where
 mid:Mid adj [start] N k u ws (A0,Q0) (A,Q)
 blen:B.length=N
 bmem: ∀v,v<N→(0≤B.getD v 0↔v∈Q)
 tri: ∀v∈Q,0≤D v∧(d:Int)≤A.getD v 0+D v
 chain: ∀j:Nat,j<d→g (j+1)∈Q→A.getD (g (j+1)) 0=j+1→B.getD (g (j+1)) 0=g j
 tight: ∀(i v:Nat),Q[i]? =some v→A.getD v 0+D v=d→ ∃i',i'≤i∧Q[i']? =some (g (A.getD v 0).toNat)
theorem FMid.step {adj:Nat→List Nat}{D:Nat→Int}{g:Nat→Nat}{d N start k u w:Nat}{ws post:List Nat}{B0 A0:List Int}{Q0:List Nat}{B A:List Int}{Q:List Nat}
  (hG:sL adj D g d start)(hD:aJe adj D N)(h0:Fwd adj D g d N start k B0 A0 Q0)(hu:Q0[k]? =some u) (h:FMid adj D g d N start k u ws A0 Q0 B A Q) (hadj:adj u=ws++w::post):
  ∃B' A' Q',iM (u:Int) (B,Q) w=(B',Q')∧iM (A0.getD u 0+1) (A,Q) w=(A',Q')∧FMid adj D g d N start k u (ws++ [w]) A0 Q0 B' A' Q':=by
 have hum:u∈Q0:=List.mem_of_getElem? hu
 have huN:u<N:=h0.inv.bd u hum
 have hw:w∈adj u:=by rw[hadj];simp
 have hwN:w<N:=hD.bd u w huN hw
 have hval:A0.getD u 0=A.getD u 0:=(h.mid.same u hum).symm
 have m:=h.mid.step hum hw hwN hval
 obtain⟨r,hr⟩:=h.mid.pre
 dsimp only at hr
 have huQ:u∈Q:=by rw[hr];exact List.mem_append_left _ hum
 have hkQ:Q[k]? =some u:=by
  have hk:k<Q0.length:=(List.getElem?_eq_some_iff.1 hu).1
  rw[hr,List.getElem?_append_left hk];exact hu
 have hu0:0≤A.getD u 0:=(h.mid.mem u huN).2 huQ
 by_cases hc:w∈Q
 ·have hB: ¬B.getD w 0<0:=by have:=(h.bmem w hwN).2 hc;omega
  have hA: ¬A.getD w 0<0:=by have:=(h.mid.mem w hwN).2 hc;dsimp only at this;omega
  refine⟨B,A,Q,by unfold iM;rw[if_neg hB],by unfold iM;rw[if_neg hA],?_⟩
  have e:iM (A0.getD u 0+1) (A,Q) w=(A,Q):=by unfold iM;rw[if_neg hA]
  rw[e]at m
  exact⟨m,h.blen,h.bmem,h.tri,h.chain,h.tight⟩
 ·have hB:B.getD w 0<0:=by
   by_cases hh:B.getD w 0<0
   ·exact hh
   ·exact absurd ((h.bmem w hwN).1 (by omega)) hc
  have hA:A.getD w 0<0:=by
   by_cases hh:A.getD w 0<0
   ·exact hh
   ·exact absurd ((h.mid.mem w hwN).1 (by dsimp only;omega)) hc
  have hne: ∀v∈Q,w≠v:=fun v hv e=>hc (by rw[e];exact hv)
  refine⟨B.set w u,A.set w (A0.getD u 0+1),Q++ [w],by unfold iM;rw[if_pos hB],by unfold iM;rw[if_pos hA],?_⟩
  have e:iM (A0.getD u 0+1) (A,Q) w=(A.set w (A0.getD u 0+1),Q++ [w]):=by unfold iM;rw[if_pos hA]
  rw[e]at m
  have hwB:w<B.length:=by rw[h.blen];exact hwN
  have hwA:w<A.length:=by have:=h.mid.len;dsimp only at this;omega
  have sB:(B.set w (u:Int)).getD w 0=u:=cJ hwB
  have sA:(A.set w (A0.getD u 0+1)).getD w 0=A.getD u 0+1:=by rw[cJ hwA,hval]
  obtain⟨tu0,tu1⟩:=h.tri u huQ
  obtain⟨e1,e2⟩:=hD.edge u w huN hw tu0
  -- if w is tight, then so is u; and the step that is first is there
  have key:A.getD u 0+1+D w=d→ ∃i',i'≤k∧Q[i']? =some (g (A.getD u 0).toNat)∧(i'<k→g ((A.getD u 0).toNat+1)∈Q)∧(i'=k→u=g (A.getD u 0).toNat):=by
   intro ht
   obtain⟨i',hi',hq⟩:=h.tight k u hkQ (by omega)
   refine⟨i',hi',hq,fun hlt=> ?_,fun he=> ?_⟩
   ·have hk:k<Q0.length:=(List.getElem?_eq_some_iff.1 hu).1
    have hq0:Q0[i']? =some (g (A.getD u 0).toNat):=by rw[hr,List.getElem?_append_left (by omega)]at hq;exact hq
    have hlt2:(A.getD u 0).toNat<d:=by omega
    have hmem:g ((A.getD u 0).toNat+1)∈adj (g (A.getD u 0).toNat):=List.mem_of_find?_eq_some (hG.next _ hlt2)
    have:=(h0.inv.done i' _ hlt hq0 _ hmem).1
    rw[hr];exact List.mem_append_left _ this
   ·subst he;rw[hkQ]at hq;injection hq
  have first:A.getD u 0+1+D w=d→g ((A.getD u 0).toNat+1)∈Q∨g ((A.getD u 0).toNat+1)=w:=by
   intro ht
   obtain⟨i',hi',hq,k1,k2⟩:=key ht
   by_cases he:i'=k
   ·have hug:=k2 he
    have hlt2:(A.getD u 0).toNat<d:=by omega
    have hn:=hG.next _ hlt2
    rw[←hug,hadj]at hn
    have hdu:D u=d-(A.getD u 0).toNat:=by
     have:=hG.dist _ (Nat.le_of_lt hlt2)
     rw[←hug]at this;exact this
    rw[List.find?_append]at hn
    cases hf:ws.find? (fun v=>decide (D v=D u-1))with
    |some x=>
     rw[hf,Option.some_or]at hn
     injection hn with hn
     left
     rw[←hn]
     exact h.mid.seen x (List.mem_of_find?_eq_some hf)
    |none=>
     rw[hf]at hn
     right
     rw[Option.none_or,List.find?_cons_of_pos (by simp;omega)]at hn
     injection hn with hn
     exact hn.symm
   ·exact .inl (k1 (by omega))
  refine⟨m,by simp[h.blen],?_,?_,?_,?_⟩
  ·intro v hv
   by_cases ev:w=v
   ·subst ev
    rw[sB]
    exact⟨fun _=>by simp,fun _=>by omega⟩
   ·rw[bL ev,h.bmem v hv]
    simp
    intro e2;exact absurd e2.symm ev
  ·intro v hv
   rcases List.mem_append.1 hv with hv|hv
   ·rw[bL (hne v hv)];exact h.tri v hv
   ·simp at hv;subst hv;rw[sA];exact⟨e1,by omega⟩
  ·intro j hj hm ha
   by_cases ev:w=g (j+1)
   ·rw[←ev]at ha⊢
    rw[sA]at ha
    rw[sB]
    have hdw:D w=d-(j+1:Nat):=by rw[ev];exact hG.dist (j+1) (by omega)
    have ht:A.getD u 0+1+D w=d:=by omega
    obtain⟨i',hi',hq,k1,k2⟩:=key ht
    have hj2:(A.getD u 0).toNat=j:=by omega
    by_cases he:i'=k
    ·have:=k2 he;rw[hj2]at this;rw[this]
    ·have:=k1 (by omega)
     rw[hj2,←ev]at this
     exact absurd this hc
   ·rcases List.mem_append.1 hm with hm|hm
    ·rw[bL ev]at ha⊢
     exact h.chain j hj hm ha
    ·simp at hm;exact absurd hm.symm ev
  ·intro i v hi ht
   by_cases hiQ:i<Q.length
   ·rw[List.getElem?_append_left hiQ]at hi
    have hvQ:v∈Q:=List.mem_of_getElem? hi
    rw[bL (hne v hvQ)]at ht⊢
    obtain⟨i',a,b⟩:=h.tight i v hi ht
    exact⟨i',a,by rw[List.getElem?_append_left (by omega)];exact b⟩
   ·have hil:i<(Q++ [w]).length:=(List.getElem?_eq_some_iff.1 hi).1
    have hie:i=Q.length:=by simp at hil;omega
    subst hie
    simp at hi
    subst hi
    rw[sA]at ht⊢
    have e3:(A.getD u 0+1).toNat=(A.getD u 0).toNat+1:=by omega
    rw[e3]
    rcases first ht with hm|hm
    ·obtain⟨i',hi',ei⟩:=List.getElem_of_mem hm
     exact⟨i',by omega,by rw[List.getElem?_append_left hi',List.getElem?_eq_getElem hi',ei]⟩
    ·exact⟨Q.length,Nat.le_refl _,by rw[hm,List.getElem?_append_right (Nat.le_refl _)];simp⟩
theorem Fwd.mid {adj:Nat→List Nat}{D:Nat→Int}{g:Nat→Nat}{d N start k u:Nat}{B A:List Int}{Q:List Nat}(h:Fwd adj D g d N start k B A Q)(hu:Q[k]? =some u):FMid adj D g d N start k u [] A Q B A Q:=
 ⟨h.inv.mid hu,h.blen,h.bmem,h.tri,h.chain,h.tight⟩
theorem FMid.many {adj:Nat→List Nat}{D:Nat→Int}{g:Nat→Nat}{d N start k u:Nat}{B0 A0:List Int}{Q0:List Nat}
  (hG:sL adj D g d start)(hD:aJe adj D N)(h0:Fwd adj D g d N start k B0 A0 Q0)(hu:Q0[k]? =some u):
  ∀(vs ws:List Nat) (B A:List Int) (Q:List Nat),FMid adj D g d N start k u ws A0 Q0 B A Q→adj u=ws++vs→(cO (A0.getD u 0+1) (A,Q) vs).2=(cO (u:Int) (B,Q) vs).2∧FMid adj D g d N start k u (ws++vs) A0 Q0 (cO (u:Int) (B,Q) vs).1 (cO (A0.getD u 0+1) (A,Q) vs).1 (cO (u:Int) (B,Q) vs).2:=by
 intro vs
 induction vs with
 |nil=>intro ws B A Q h _;exact⟨rfl,by simpa[cO]using h⟩
 |cons v vs ih=>
  intro ws B A Q h e
  obtain⟨B',A',Q',e1,e2,h1⟩:=h.step hG hD h0 hu e
  have e3:cO (u:Int) (B,Q) (v::vs)=cO (u:Int) (B',Q') vs:=by
   show vs.foldl _ (iM (u:Int) (B,Q) v)=_
   rw[e1];rfl
  have e4:cO (A0.getD u 0+1) (A,Q) (v::vs)=cO (A0.getD u 0+1) (A',Q') vs:=by
   show vs.foldl _ (iM (A0.getD u 0+1) (A,Q) v)=_
   rw[e2];rfl
  have:=ih (ws++ [v]) B' A' Q' h1 (by rw[e];simp)
  rw[e3,e4]
  simpa using this
theorem Fwd.step {adj:Nat→List Nat}{D:Nat→Int}{g:Nat→Nat}{d N start k u:Nat}{B A:List Int}{Q:List Nat}(hG:sL adj D g d start)(hD:aJe adj D N)(h:Fwd adj D g d N start k B A Q)(hu:Q[k]? =some u) (hg:D u≠0):
  ∃A',Fwd adj D g d N start (k+1) (cO (u:Int) (B,Q) (adj u)).1 A' (cO (u:Int) (B,Q) (adj u)).2:=by
 have huN:=h.inv.bd u (List.mem_of_getElem? hu)
 obtain⟨e,m⟩:=FMid.many hG hD h hu (adj u) [] B A Q (h.mid hu) rfl
 have hi:=h.inv.step hu (fun v hv=>hD.bd u v huN hv)
 have e2:cO (A.getD u 0+1) (A,Q) (adj u)=((cO (A.getD u 0+1) (A,Q) (adj u)).1,(cO (u:Int) (B,Q) (adj u)).2):=by rw[←e]
 dsimp only at hi
 rw[e2]at hi
 obtain⟨r,hr⟩:=m.mid.pre
 dsimp only at hr
 refine⟨_,hi,m.blen,m.bmem,?_,m.tri,m.chain,m.tight⟩
 intro i v hik hv
 have hk:k<Q.length:=(List.getElem?_eq_some_iff.1 hu).1
 by_cases he:i=k
 ·subst he
  rw[hr,List.getElem?_append_left hk,hu]at hv
  injection hv with hv
  rw[←hv];exact hg
 ·rw[hr,List.getElem?_append_left (by omega)]at hv
  exact h.ngoal i v (by omega) hv
theorem Fwd.way {adj:Nat→List Nat}{D:Nat→Int}{g:Nat→Nat}{d N start k:Nat}{B A:List Int}{Q:List Nat}(hG:sL adj D g d start)(h:Fwd adj D g d N start k B A Q)
  (hp: ∀(i v:Nat),Q[i]? =some v→A.getD v 0<d→i<k): ∀j,j≤d→g j∈Q∧A.getD (g j) 0=j:=by
 intro j
 induction j with
 |zero=>
  intro _
  obtain⟨a,b⟩:=h.inv.src start (by simp)
  rw[hG.zero]
  exact⟨a,by simpa using b⟩
 |succ j ih=>
  intro hj
  obtain⟨a,b⟩:=ih (by omega)
  obtain⟨i,hi,e⟩:=List.getElem_of_mem a
  have hq:Q[i]? =some (g j):=by rw[List.getElem?_eq_getElem hi,e]
  have hik:=hp i (g j) hq (by omega)
  have hm:g (j+1)∈adj (g j):=List.mem_of_find?_eq_some (hG.next j (by omega))
  obtain⟨c1,c2⟩:=h.inv.done i (g j) hik hq _ hm
  have t:=(h.tri (g (j+1)) c1).2
  have dd:=hG.dist (j+1) hj
  dsimp only at c2
  exact⟨c1,by omega⟩
theorem Fwd.more {adj:Nat→List Nat}{D:Nat→Int}{g:Nat→Nat}{d N start k:Nat}{B A:List Int}{Q:List Nat}(hG:sL adj D g d start)(h:Fwd adj D g d N start k B A Q):k<Q.length:=by
 by_cases hk:k<Q.length
 ·exact hk
 ·exfalso
  have hp: ∀(i v:Nat),Q[i]? =some v→i<k:=fun i v hv=>by have:=(List.getElem?_eq_some_iff.1 hv).1;omega
  obtain⟨a,b⟩:=h.way hG (fun i v hv _=>hp i v hv) d (Nat.le_refl _)
  obtain⟨i,hi,e⟩:=List.getElem_of_mem a
  have hq:Q[i]? =some (g d):=by rw[List.getElem?_eq_getElem hi,e]
  have hgd:=hG.dist d (Nat.le_refl _)
  exact h.ngoal i _ (hp i _ hq) hq (by omega)
theorem Fwd.start {adj:Nat→List Nat}{D:Nat→Int}{g:Nat→Nat}{d N start:Nat}(hG:sL adj D g d start)(hs:start<N):
  Fwd adj D g d N start 0 ((List.replicate N (-1)).set start (start:Int)) ((List.replicate N (-1)).set start 0) [start]:=by
 have hl:start<(List.replicate N (-1:Int)).length:=by simpa using hs
 have hne: ∀(x:Int) v,v<N→start≠v→((List.replicate N (-1:Int)).set start x).getD v 0= -1:=by
  intro x v hv e
  rw[bL e]
  simp[List.getD,hv]
 refine⟨⟨by simp,by simpa using hs,?_,by simp,by simp,?_,?_,?_,fun i u hi=>by omega⟩,by simp,?_,fun i u hi=>by omega,?_,?_,?_⟩
 ·intro v hv
  dsimp only
  by_cases e:start=v
  ·subst e;rw[cJ hl];simp
  ·rw[hne 0 v hv e];simp;exact fun h=>e h.symm
 ·intro u hu v hv
  simp at hu hv;subst hu hv
  omega
 ·intro v hv
  simp at hv;subst hv
  dsimp only
  rw[cJ hl]
  simp[zI]
 ·intro v hv
  simp at hv;subst hv
  exact⟨by simp,cJ hl⟩
 ·intro v hv
  by_cases e:start=v
  ·subst e;rw[cJ hl];simp
  ·rw[hne _ v hv e];simp;exact fun h=>e h.symm
 ·intro v hv
  simp at hv;subst hv
  have:=hG.dist 0 (Nat.zero_le _)
  rw[hG.zero]at this
  rw[cJ hl]
  omega
 ·intro j hj hm ha
  simp at hm
  rw[hm,cJ hl]at ha
  omega
 ·intro i v hi ht
  have hi0:i=0:=by have:=(List.getElem?_eq_some_iff.1 hi).1;simp at this;omega
  subst hi0
  simp at hi;subst hi
  rw[cJ hl]
  exact⟨0,Nat.le_refl _,by simp[hG.zero]⟩
open Go.RowKit
set_option linter.unusedSimpArgs false
def aAx (adj:Nat→List Nat):Nat→Nat→List Int×List Nat→List Int×List Nat
 |0,_,s=>s
 |m+1,k,s=>match s.2[k]? with
  |none=>s
  |some u=>aAx adj m (k+1) (cO (s.1.getD u 0+1) s (adj u))
theorem aD4 {adj:Nat→List Nat}{src:List Nat}{N:Nat}(ha: ∀u v,u<N→v∈adj u→v<N): ∀(m k:Nat) (s:List Int×List Nat),Inv adj src N k s→N≤k+m→uA adj src N (aAx adj m k s).1:=by
 intro m
 induction m with
 |zero=>intro k s hI hk;exact hI.dist (Nat.le_trans hI.qlen (by omega))
 |succ m ih=>
  intro k s hI hk
  rw[aAx]
  cases hu:s.2[k]? with
  |none=>exact hI.dist (by rw[List.getElem?_eq_none_iff]at hu;exact hu)
  |some u=>exact ih (k+1) _ (hI.step hu (fun v hv=>ha _ v (hI.bd _ (List.mem_of_getElem? hu)) hv)) (by omega)
def aD1 (aA:Int)(n many:Nat):List Int:=(aAx (wT aA n MM) NN 0 (gY NN (uP n many),uP n many)).1
theorem aD0 {aA:Int}{n many:Nat}(hn:n≤12):fG aA n many (aD1 aA n many):=
 aD4 (rF hn) _ _ _ (Inv.begin (aF3 hn) uO) (by omega)
abbrev mK (e:Nat×Nat):Sl2:=((e.1:Int),(e.2:Int))
def nM (aA:Int)(n:Nat)(dd:Nat→Nat→Int)(s:Nat×Nat)(j:Nat):List Sl2:=(List.range j).map (fun i=>mK (gZ aA n dd s i))
theorem nN (aA:Int)(n:Nat)(dd:Nat→Nat→Int)(s:Nat×Nat)(j:Nat):(nM aA n dd s j).length=j:=by simp[nM]
theorem yB (aA:Int)(n:Nat)(dd:Nat→Nat→Int)(s:Nat×Nat)(j:Nat):nM aA n dd s (j+1)=nM aA n dd s j++ [mK (gZ aA n dd s j)]:=by
 simp[nM,List.range_succ]
def ddH (aA:Int)(xs:List Int):Nat→Nat→Int:=bG (aD1 aA xs.length (cR xs).length)
def fZ (aA:Int)(xs:List Int)(c:Nat):Option (List Sl2):=
 if ddH aA xs c (aM xs)<0 then none else some (nM aA xs.length (ddH aA xs) (c,aM xs) (ddH aA xs c (aM xs)).toNat)
theorem oY {xs:List Int}{c:Nat}{id:Int}(hc:xs[c]? =some id) (h0:id≠0):rH xs.length (cR xs).length (c,aM xs):=by
 obtain⟨hl,he⟩:=List.getElem?_eq_some_iff.1 hc
 refine⟨hl,wF xs,?_,aAm xs⟩
 show(aM xs).testBit c=false
 rw[eS,gH hl,List.getD_eq_getElem?_getD,hc]
 simpa using h0
section
variable {aA aB:Int} {xs:List Int} {c:Nat} {id:Int} {D:List Int}
theorem aH0 (h:aR aA aB xs=true)(hc:xs[c]? =some id) (h0:id≠0) (hD:fG aA xs.length (cR xs).length D) {d:Nat} (hd:bG D c (aM xs)=d):
  ∀j,j≤d→ ∃ys,bE aA aB xs (nM aA xs.length (bG D) (c,aM xs) j)=(ys,j)∧aR aA aB ys=true∧ys.length=xs.length∧aM ys=(gP aA xs.length (bG D) (c,aM xs) j).2∧ys[(gP aA xs.length (bG D) (c,aM xs) j).1]? =some id:=by
 obtain⟨b1,b2,b3,b4,b5,b6,b7⟩:=cG (cW h)
 have hp:=oY hc h0
 intro j
 induction j with
 |zero=>intro _;exact⟨xs,rfl,h,rfl,rfl,hc⟩
 |succ j ih=>
  intro hj
  obtain⟨ys,h1,h2,h3,h4,h5⟩:=ih (by omega)
  obtain⟨e1,e2,e3⟩:=nZ b5 b6 hD hp hd (show j<d by omega)
  have hw:=yB aA xs.length (bG D) (c,aM xs) j
  generalize gZ aA xs.length (bG D) (c,aM xs) j=e at*
  obtain⟨f,t⟩:=e
  rw[←h4,←h3]at e2
  obtain⟨m1,m2,m3,m4⟩:=sG h2 e2
  refine⟨bP aA aB ys (f:Int) (t:Int),?_,jE _ _ h2,by rw[dW,h3],?_,?_⟩
  ·rw[hw,pJ _ _ _ (by rw[h1,nN]),h1,nN]
   dsimp only
   rw[if_pos m1]
  ·rw[m3,e3,h4];rfl
  ·rw[e3];exact m4 _ _ h5 h0
theorem zD (h:aR aA aB xs=true)(hc:xs[c]? =some id) (h0:id≠0) (hD:fG aA xs.length (cR xs).length D):(cR xs≠ []→0≤bG D c (aM xs)∧bG D c (aM xs)≤60)∧(c=0→bG D c (aM xs)=0)∧(cR xs= []→c≠0→bG D c (aM xs)<0):=by
 obtain⟨b1,b2,b3,b4,b5,b6,b7⟩:=cG (cW h)
 have hp:=oY hc h0
 obtain⟨k1,k2,k3⟩:=oM b6 hp
 refine⟨fun hf=> ?_,fun hc0=> ?_,fun hf hc0=> ?_⟩
 ·obtain⟨u,hu⟩:=List.exists_mem_of_ne_nil _ hf
  obtain⟨u1,u2⟩:=mF hu
  have hb:(aM xs).testBit u=true:=by rw[eS,gH u1,u2];rfl
  have hg:=mC h
  obtain⟨a,b⟩:=aJ0 hg b5 b6 hD _ _ u (Nat.le_refl _) k1 (by rw[k3];exact hp.many) (by rw[k3];exact hb)
  rw[k2]at b
  exact⟨a,Int.le_trans b (by have:=(vI hg hp.car u1).1;exact_mod_cast this)⟩
 ·subst hc0
  refine(hD.zero _ (pN b6 k1)).2 (kQ.2 ?_)
  rw[Nat.zero_mul,Nat.zero_add]
  exact⟨hp.set,hp.occ,hp.many⟩
 ·rcases Int.lt_or_le (bG D c (aM xs)) 0 with hlt|hge
  ·exact hlt
  ·exfalso
   rcases Int.lt_or_eq_of_le hge with h1|h1
   ·obtain⟨e,e1,e2,_⟩:=rT b5 b6 hD hp h1
    obtain⟨_,g2,_,_,g5⟩:=nA.1 e2
    have hm:e.2∈cR xs:=by
     unfold cR
     rw[List.mem_filter]
     exact⟨List.mem_range.2 g2,by rw[←eS];exact g5⟩
    rw[hf]at hm;cases hm
   ·have hz:=(hD.zero _ (pN b6 k1)).1 h1.symm
    have h2:=(kQ.1 hz).1
    have h3:=Nat.div_eq_of_lt (Nat.lt_of_lt_of_le h2 (jA b6))
    rw[k2]at h3
    exact hc0 h3
theorem aGx (h:aR aA aB xs=true)(hc:xs[c]? =some id) (h0:id≠0) (hD:fG aA xs.length (cR xs).length D):
  (0≤bG D c (aM xs)↔0≤ddH aA xs c (aM xs))∧(0≤bG D c (aM xs)→bG D c (aM xs)=ddH aA xs c (aM xs)∧nM aA xs.length (bG D) (c,aM xs) (bG D c (aM xs)).toNat=nM aA xs.length (ddH aA xs) (c,aM xs) (ddH aA xs c (aM xs)).toNat):=by
 obtain⟨b1,b2,b3,b4,b5,b6,b7⟩:=cG (cW h)
 have hp:=oY hc h0
 have hE:=aD0 (aA:=aA) (many:=(cR xs).length) b6
 obtain⟨s1,s2⟩:=zC hD hE (pN b6 (oM b6 hp).1)
 refine⟨s1,fun h1=> ?_⟩
 have e1:bG D c (aM xs)=ddH aA xs c (aM xs):=s2 h1
 refine⟨e1,?_⟩
 obtain⟨d,hd⟩:=Int.eq_ofNat_of_zero_le h1
 rw[←e1,hd]
 unfold nM
 refine List.map_congr_left fun i hi=> ?_
 have:=List.mem_range.1 hi
 rw[aEt b5 b6 hD hE hp hd (show i<d by simpa using this)]
 rfl
theorem aEw (h:aR aA aB xs=true)(hc:xs[c]? =some id) (h0:id≠0) (hD:fG aA xs.length (cR xs).length D):fZ aA xs c=if bG D c (aM xs)<0 then none else some (nM aA xs.length (bG D) (c,aM xs) (bG D c (aM xs)).toNat):=by
 obtain⟨a,b⟩:=aGx h hc h0 hD
 unfold fZ
 by_cases h1:0≤bG D c (aM xs)
 ·rw[if_neg (by have:=a.1 h1;omega),if_neg (by omega),(b h1).2]
 ·rw[if_pos (by have:=fun x=>h1 (a.2 x);omega),if_pos (by omega)]
theorem tK (h:aR aA aB xs=true)(hc:xs[c]? =some id) (h0:id≠0):(fZ aA xs c=none↔cR xs= []∧c≠0)∧ ∀l,fZ aA xs c=some l→l.length≤60∧ ∃ys,bE aA aB xs l=(ys,l.length)∧aR aA aB ys=true∧ys.length=xs.length∧ys[0]? =some id:=by
 obtain⟨b1,b2,b3,b4,b5,b6,b7⟩:=cG (cW h)
 have hE:=aD0 (aA:=aA) (many:=(cR xs).length) b6
 obtain⟨n1,n2,n3⟩:=zD h hc h0 hE
 have e:ddH aA xs c (aM xs)=bG (aD1 aA xs.length (cR xs).length) c (aM xs):=rfl
 constructor
 ·unfold fZ
  rw[e]
  constructor
  ·intro hn
   by_cases hf:cR xs= []
   ·refine⟨hf,fun hc0=> ?_⟩
    rw[n2 hc0]at hn;simp at hn
   ·rw[if_neg (by have:=(n1 hf).1;omega)]at hn;cases hn
  ·rintro⟨hf,hc0⟩
   rw[if_pos (n3 hf hc0)]
 ·intro l hl
  unfold fZ at hl
  rw[e]at hl
  by_cases h1:bG (aD1 aA xs.length (cR xs).length) c (aM xs)<0
  ·rw[if_pos h1]at hl;cases hl
  ·rw[if_neg h1]at hl
   injection hl with hl
   obtain⟨d,hd⟩:=Int.eq_ofNat_of_zero_le (show 0≤bG (aD1 aA xs.length (cR xs).length) c (aM xs) by omega)
   have hlen:l.length=d:=by rw[←hl,nN,hd];rfl
   have hd60:d≤60:=by
    by_cases hf:cR xs= []
    ·by_cases hc0:c=0
     ·have:=n2 hc0;omega
     ·exact absurd (n3 hf hc0) h1
    ·have:=(n1 hf).2;omega
   refine⟨by omega,?_⟩
   obtain⟨ys,w1,w2,w3,w4,w5⟩:=aH0 h hc h0 hE hd d (Nat.le_refl _)
   have hz:=(aIn b5 b6 hE (oY hc h0) hd (Nat.le_refl d)).2 rfl
   rw[hz]at w5
   refine⟨ys,?_,w2,w3,w5⟩
   rw[hlen,←w1,←hl,hd];rfl
end
def qY (aA aB:Int)(xs:List Int)(id:Int):Option (List Int×Nat):=
 if id<1∨id∉xs then none else(fZ aA xs (xL xs id).toNat).map (fun l=>((bE aA aB xs l).1.set 0 0,l.length))
/-! the other search: its states, coded by 2^n -/
section
variable {aA:Int} {n many:Nat} {D:List Int}
end
end Go.Proofs.YteejdnmmpmcmeaaGreatDoor
namespace Go.Proofs.YteejdnmmpmcmeaaGreatDoor
open Go.RowKit
set_option linter.unusedVariables false
set_option linter.unusedSimpArgs false
set_option maxRecDepth 100000 in
set_option maxHeartbeats 4000000 in
theorem aEh (S:Nat)(w:World)(hS:S≤1099511627776):Calls Tryz.prog 234 #[.int .i64 (S:Int)] w fun e w'=>e= .returned (.int .i64 (gX S:Int))∧w=w':=by
 go_enter Tryz.func234,Tryz.ntmps234
 go_wp2
 go_loopw [0,3] (fun v i wr=> ∃(T c:Nat),v= .int .i64 (T:Int)∧i= .int .i64 (c:Int)∧c+gX T=gX S∧T≤S∧c+T≤2*S∧w=wr) (fun v _ _=>(intOf v).toNat)
 case atStart=>exact⟨S,0,rfl,rfl,by omega,Nat.le_refl _,by omega,rfl⟩
 case round=>
  obtain⟨T,c,rfl,rfl,h1,h2,h3,rfl⟩:=hrel
  by_cases h0:0<T
  ·have t0:decide ((0:Int)<(T:Int))=true:=by simp;omega
   have t1:(T:Int).tmod 2=((T%2:Nat):Int):=rfl
   have t2:(T:Int).tdiv 2=((T/2:Nat):Int):=rfl
   have hp:=qN T
   have hw:IntKind.i64.wrap ((c:Int)+((T%2:Nat):Int))=(c:Int)+((T%2:Nat):Int):=IntWalk.i64_in _ (by omega)
   have HP:=xQ hp
   have H1:=xQ h1
   clear hp h1
   go_wp2
   go_roundw
   case rel=>exact⟨T/2,c+T%2,by first|rfl|go_num,by first|rfl|go_num,by have:=HP.out;have:=H1.out;omega,by omega,by omega,by trivial⟩
   case measure=>simp[intOf];omega
  ·have t0:decide ((0:Int)<(T:Int))=false:=by simp;omega
   have hc:Hid (c=gX S):=by show _=_;rw[←h1,show T=0 by omega];simp[gX]
   clear h1
   go_wp2
   go_ret
   exact⟨by rw[hc.out];rfl,rfl⟩
def aFb (fr:List Nat):Nat:=fr.foldl (fun a f=>a+2 ^ f) 0
theorem aK4: ∀(l:List Nat) (a:Nat),(∀f∈l,f<12)→l.foldl (fun a f=>a+2 ^ f) a≤a+l.length*4096:=by
 intro l
 induction l with
 |nil=>intro a _;simp
 |cons f l ih=>
  intro a h
  have h1:=ih (a+2 ^ f) (fun x hx=>h x (by simp[hx]))
  have h2:2 ^ f≤4096:=Nat.le_trans (Nat.pow_le_pow_right (by omega) (show f≤11 by have:=h f (by simp);omega)) (by decide)
  rw[List.foldl_cons,List.length_cons,Nat.succ_mul]
  omega
theorem aK5 {fr:List Nat}(h: ∀f∈fr,f<12)(k:Nat):(fr.take k).foldl (fun a f=>a+2 ^ f) 0≤k*4096:=by
 have h1:=aK4 (fr.take k) 0 (fun f hf=>h f (List.mem_of_mem_take hf))
 have h2:(fr.take k).length≤k:=by rw[List.length_take];omega
 have h3:=Nat.mul_le_mul_right 4096 h2
 omega
theorem aIr (xs:List Int):aFb (cR xs)=aM xs:=by
 unfold aFb cR aM
 generalize xs.length=k
 induction k with
 |zero=>rfl
 |succ k ih=>
  rw[List.range_succ,List.filter_append,List.foldl_append,ih,show pF (dY xs) (k+1)=pF (dY xs) k+(if dY xs k then 2 ^ k else 0)from rfl]
  cases h:dY xs k<;>simp[h]
set_option maxRecDepth 100000 in
set_option maxHeartbeats 4000000 in
theorem aDu (aA aB:Int)(p:Option Addr)(n cap:Nat)(fr:List Nat)(F:Nat)(w:World)(hF:Hid (fr.length=F))(hF12:F≤12)(hfr:Hid (∀x∈fr,x<12))
  (HF:Hid (∀w',Ext w w'→Calls Tryz.prog 79 #[aJ aA aB p n cap] w' fun e w''=> ∃q c,e= .returned (.slice q F c)∧w''.ownsRow w'.heap.size TI 1 (.slice q F c) F (ivs (cT fr))∧Ext w' w'')):
  Calls Tryz.prog 217 #[aJ aA aB p n cap] w fun e w'=>e= .returned (.int .i64 (aFb fr:Int))∧Ext w w':=by
 go_enter Tryz.func217,Tryz.ntmps217
 go_wp2_with fail
 refine(HF.out _ (((Mem.start w).blkNew TH3 #[.int .i64 aA,.int .i64 aB,.slice p n cap] (w.heap.size) (by simp))).ext).mono ?_
 rintro e w1 ⟨q1,c1,rfl,ho1,hx1⟩
 have M1:=xQ (show Mem w w1 [aP w.heap.size TI 1 (q1) (F) (c1) (ivs (cT fr)),aK w.heap.size (w.heap.size) TH3 #[.int .i64 aA,.int .i64 aB,.slice p n cap]]from(((Mem.start w).blkNew TH3 #[.int .i64 aA,.int .i64 aB,.slice p n cap] (w.heap.size) (by simp))).call hx1 ho1)
 have lt1_1:=M1.out.hi 1
 clear hx1 ho1
 go_wp2
 go_loopw [3,5] (fun v i wr=> ∃(k T:Nat),k≤F∧i= .int .i64 (k:Int)∧v= .int .i64 (T:Int)∧T=(fr.take k).foldl (fun a f=>a+2 ^ f) 0∧w1=wr) (fun _ i _=>F-(intOf i).toNat)
 case atStart=>exact⟨0,0,Nat.zero_le _,rfl,rfl,rfl,rfl⟩
 case round=>
  obtain⟨k,T,hk,rfl,rfl,hT,rfl⟩:=hrel
  have HT:=xQ hT
  have hTb:T≤12*4096:=by have:=aK5 hfr.out k;rw[hT];have:k≤12:=by omega
                         omega
  clear hT
  by_cases hlt:k<F
  ·obtain⟨f,hf⟩: ∃f,fr[k]? =some f:=⟨_,List.getElem?_eq_getElem (by rw[hF.out];exact hlt)⟩
   have hfn:f<12:=hfr.out f (List.mem_of_getElem? hf)
   obtain⟨gf,rfl,hf1,hf2⟩:=M1.out.some (i:=0) rfl (by omega)
   have cu:w1.cell? ⟨gf,k,none⟩=some (.int .i64 (f:Int)):=by have:=(M1.out.own (i:=0) rfl).cellAt k (by omega);rw[this];simp[ivs,cT,hf]
   have hn:=xQ (show(fr.take (k+1)).foldl (fun a f=>a+2 ^ f) 0=T+2 ^ f by rw[bF hf,List.foldl_append,←HT.out];rfl)
   clear hf
   have i1:(0:Int)≤(k:Int):=by omega
   have i2:(k:Int)<(F:Int):=by omega
   obtain⟨P,hP⟩: ∃P:Nat,P=2 ^ f:=⟨_,rfl⟩
   have hPb:P≤2048:=by rw[hP];exact Nat.le_trans (Nat.pow_le_pow_right (by omega) (show f≤11 by omega)) (by decide)
   have hsh:(2:Int) ^ f=(P:Int):=by rw[hP];simp
   have hw1:IntKind.i64.wrap (P:Int)=(P:Int):=IntWalk.i64_in _ (by omega)
   have hw2:IntKind.i64.wrap ((T:Int)+(P:Int))=(T:Int)+(P:Int):=IntWalk.i64_in _ (by omega)
   rw[←hP]at hn
   clear hP
   go_wp2
   go_roundw
   case rel=>exact⟨k+1,T+P,by omega,by go_num,by first|rfl|go_num,hn.out.symm,by trivial⟩
   case measure=>simp[intOf];omega
  ·obtain rfl:F=k:=by omega
   have hfin:Hid ((T:Int)=((aFb fr:Nat):Int)):=by
    show _=_
    rw[HT.out,List.take_of_length_le (by rw[hF.out];omega)];rfl
   go_wp2
   go_ret
   exact⟨by rw[hfin.out];rfl,M1.out.ext⟩
theorem qW (aA aB:Int)(p:Option Addr)(n cap:Nat)(xs:List Int)(w:World)(hS:Sl w p n cap 1 (ivs xs))(hok:aR aA aB xs=true):
  Calls Tryz.prog 79 #[aJ aA aB p n cap] w fun e w'=> ∃q c,e= .returned (.slice q (cR xs).length c)∧w'.ownsRow w.heap.size TI 1 (.slice q (cR xs).length c) (cR xs).length (ivs (cT (cR xs)))∧Ext w w':=by
 have:=aHk aA aB p n cap xs w hS
 rw[hok,if_pos rfl,aCx]at this
 refine this.mono fun e w'' h=> ?_
 obtain⟨q,c,h1,h2,h3⟩:=h
 rw[List.length_map]at h1 h2
 exact⟨q,c,h1,h2,h3⟩
theorem aIq {aA aB:Int}{xs:List Int}(hok:aR aA aB xs=true):(cR xs).length≤12:=by
 obtain⟨g1,g2,g3,g4,g5,g6,g7⟩:=cG (cW hok)
 unfold cR
 exact Nat.le_trans (List.length_filter_le _ _) (by simp;omega)
theorem vS (aA aB:Int)(p:Option Addr)(n cap:Nat)(xs:List Int)(w:World)(hS:Sl w p n cap 1 (ivs xs))(hok:aR aA aB xs=true):
  Calls Tryz.prog 217 #[aJ aA aB p n cap] w fun e w'=>e= .returned (.int .i64 (aM xs:Int))∧Ext w w':=by
 have hl:=hS.ilen
 obtain⟨g1,g2,g3,g4,g5,g6,g7⟩:=cG (cW hok)
 rw[←aIr]
 exact aDu aA aB p n cap (cR xs) _ w rfl (aIq hok) (fun x hx=>by have:=(mF hx).1;omega) (fun w' hy=>qW aA aB p n cap xs w' (hS.ext hy) hok)
abbrev TSS:TypeId:=23
theorem aL8:ElT Tryz.prog 205 TSS 1:=
 ⟨Tryz.underlying205,by
  obtain⟨i,hi,h0,h1,h2⟩:=info_parts (show(Tryz.prog.info? TSS).map (fun i=>(i.zero,i.size,i.bytes))=some (some (.slice none 0 0),1,24) by kernel_rfl)
  exact⟨i,_,hi,h0,h1,by omega,rfl⟩,by omega⟩
def uK (aA:Int)(n k:Nat)(rows:List RowD):Prop:=rows.length=k∧ ∀(j:Nat) (r:RowD),rows[j]? =some r→r.n=(aY aA n j).length∧r.xs=ivs (cT (aY aA n j))
def aB0 (aA:Int)(n:Nat)(w:World)(e:Ending)(w':World):Prop:=
 ∃q c rows,e= .returned (.slice q n c)∧uK aA n n rows∧sK w.heap.size TSS TI 1 q c rows w'∧Ext w w'
theorem aD5 {aA:Int}{n k:Nat}{rows:List RowD}{q:Option Addr}{c:Nat}(h:uK aA n k rows):uK aA n (k+1) (rows++ [⟨q,(aY aA n k).length,c,ivs (cT (aY aA n k))⟩]):=by
 refine⟨by rw[List.length_append,h.1];rfl,fun j r hj=> ?_⟩
 by_cases hk:j<k
 ·rw[List.getElem?_append_left (by rw[h.1];exact hk)]at hj;exact h.2 j r hj
 ·have hl:=(List.getElem?_eq_some_iff.1 hj).1
  rw[List.length_append,h.1]at hl
  simp at hl
  obtain rfl:j=k:=by omega
  rw[List.getElem?_append_right (by rw[h.1];exact Nat.le_refl _),h.1,Nat.sub_self]at hj
  simp at hj
  subst hj
  exact⟨rfl,by simp[ivs,cT]⟩
set_option maxRecDepth 100000 in
set_option maxHeartbeats 4000000 in
theorem aG1 (aA aB:Int)(p:Option Addr)(n cap:Nat)(w:World)(hn:n≤12)
  (HC:Hid (∀(k:Nat),k<n→ ∀w',Ext w w'→Calls Tryz.prog 241 #[aJ aA aB p n cap,.int .i64 (k:Int)] w' (cC (cT (aY aA n k)) w'))):
  Calls Tryz.prog 235 #[aJ aA aB p n cap] w (aB0 aA n w):=by
 go_enter Tryz.func235,Tryz.ntmps235
 have ME:=xQ (show Mem w ((w.alloc (.cells #[.int .i64 aA,.int .i64 aB,.slice p n cap] TH3)).alloc (.cells #[] TSS)) [aP w.heap.size TSS 1 (some ⟨w.heap.size+1,0,none⟩) (0) (0) ([]),aK w.heap.size (w.heap.size) TH3 #[.int .i64 aA,.int .i64 aB,.slice p n cap]]from((((Mem.start w).blkNew TH3 #[.int .i64 aA,.int .i64 aB,.slice p n cap] (w.heap.size) (by simp))).made0 TSS 1 (w.heap.size+1) (by simp)))
 go_wp2
 go_loopw [3,4] (fun v i wr=> ∃(k:Nat) (q:Option Addr) (c:Nat) (rows:List RowD),k≤n∧i= .int .i64 (k:Int)∧v= .slice q k c∧uK aA n k rows∧Mem w wr [nF w.heap.size TI 1 rows,aP w.heap.size TSS 1 (q) (k) (c) (rows.map RowD.v),aK w.heap.size (w.heap.size) TH3 #[.int .i64 aA,.int .i64 aB,.slice p n cap]]) (fun _ i _=>n-(intOf i).toNat)
 case atStart=>exact⟨0,some ⟨w.heap.size+1,0,none⟩,0,[],Nat.zero_le _,rfl,rfl,⟨rfl,fun j r h=>by simp at h⟩,ME.out.rows0 rfl⟩
 case round=>
  clear ME
  obtain⟨k,q,c,rows,hk,rfl,rfl,hrows,hM⟩:=hrel
  have HM:=xQ hM
  have HR:=xQ hrows
  clear hM hrows
  have lt0:=(HM.out.lt (i:=2) rfl rfl).2
  obtain⟨c0,c1,c2⟩:=((HM.out.blk (i:=2) rfl)).tri
  by_cases hlt:k<n
  ·go_wp2_with fail
   clear c0 c1 c2
   refine(HC.out k hlt _ HM.out.ext).mono ?_
   rintro e w2 ⟨q2,c2,rfl,o2,hx2⟩
   rw[List.length_map]at o2⊢
   have M2:=xQ (HM.out.call hx2 o2)
   have M3:=xQ (M2.out.rowsAdd rfl)
   have hR2:=xQ (aD5 (q:=q2) (c:=c2) HR.out)
   clear o2 hx2 M2 HM HR
   go_wp2_with (at_builtin;go_loud (refine fH aL8 rfl _ _ rfl (M3.out.adv ((Ext.refl _).alloc (.cells #[.slice q2 (aY aA n k).length c2] TSS))) 1 rfl rfl [.slice q2 (aY aA n k).length c2] rfl (iE _ _ _ 1 1 _ (by first|rfl|simp) (by first|rfl|simp) (by simp[maxLen])) (fun u hu=>by obtain rfl:=List.mem_singleton.1 hu;rfl) (by omega) ?_;intro q7 c7 w6 M6))
   have M7:=xQ (show Mem w w6 [nF w.heap.size TI 1 (rows++ [⟨q2,(aY aA n k).length,c2,ivs (cT (aY aA n k))⟩]),aP w.heap.size TSS 1 q7 (k+1) c7 ((rows++ [⟨q2,(aY aA n k).length,c2,ivs (cT (aY aA n k))⟩]:List RowD).map RowD.v),aK w.heap.size (w.heap.size) TH3 #[.int .i64 aA,.int .i64 aB,.slice p n cap]]from by rw[List.map_append];exact M6)
   clear M6 M3
   go_wp2
   go_roundw
   case rel=>exact⟨k+1,q7,c7,_,by omega,by go_num,rfl,hR2.out,M7.out⟩
   case measure=>simp[intOf];omega
  ·obtain rfl:n=k:=by omega
   go_wp2
   go_ret
   have hl:=HR.out.1
   have h1:=HM.out.own (i:=1) rfl
   refine⟨q,c,rows,rfl,HR.out,⟨?_,fun r hr=>HM.out.ok (nF w.heap.size TI 1 rows) (by simp) r hr⟩,HM.out.ext⟩
   rw[hl];exact h1
theorem aA8 (aA aB:Int)(p:Option Addr)(n cap:Nat)(xs:List Int)(w:World)(hS:Sl w p n cap 1 (ivs xs))(hok:aR aA aB xs=true):
  Calls Tryz.prog 235 #[aJ aA aB p n cap] w (aB0 aA n w):=by
 have hl:=hS.ilen
 obtain⟨g1,g2,g3,g4,g5,g6,g7⟩:=cG (cW hok)
 exact aG1 aA aB p n cap w (by omega) (fun k hk w' hx=>by
  have:=aDx aA aB k p n cap xs w' (hS.ext hx) hok (by omega) (by omega)
  rwa[sJ]at this)
end Go.Proofs.YteejdnmmpmcmeaaGreatDoor
