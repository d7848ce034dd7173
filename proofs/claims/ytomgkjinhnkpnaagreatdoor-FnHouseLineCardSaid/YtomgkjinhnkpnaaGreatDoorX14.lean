/-
  Texts of this proof, packed (@packed).
-/
import Derived.Test.YtomgkjinhnkpnaaGreatDoorX13
namespace Go.Proofs.YtomgkjinhnkpnaaGreatDoor
set_option linter.unusedSimpArgs false
set_option linter.unusedVariables false
set_option maxHeartbeats 8000000
set_option maxRecDepth 100000
section
open Go.RowKit
theorem aP5 (m:Nat→Bool)(f k:Nat):kV m f k=((List.range k).filter m).map (fun(t:Nat)=>((f:Int),(t:Int))):=by
 induction k with
 |zero=>rfl
 |succ k ih=>rw[aT2,aSd,aSt,show kV m f (k+1)=kV m f k++(if m k then [((f:Int),(k:Int))]else [])from rfl,ih];cases h:m k<;>simp[h]
theorem aMu (m:Nat→Nat→Bool)(n k:Nat):eA m n k=(List.range k).flatMap (fun f=>((List.range n).filter (m f)).map (fun(t:Nat)=>((f:Int),(t:Int)))):=by
 induction k with
 |zero=>rfl
 |succ k ih=>rw[aT2,aS8,show eA m n (k+1)=eA m n k++kV (m k) k n from rfl,ih,aP5];simp
theorem gK {xs:List Int}{k:Nat}(hk:k<xs.length):cW xs k=decide (xs.getD k 0=0):=by unfold cW;rw[aRl,aRh hk];simp;rfl
theorem aE8 {aA aB:Int}{xs:List Int}(h:aN aA aB xs=true){f t:Nat}(hf:f<xs.length)(ht:t<xs.length):
  bC aA aB xs (f:Int) (t:Int)=(!(aO xs).testBit f&&(decide (t∈aT aA xs.length f)&&(aO xs).testBit t)):=by
 have h1:dN aA aB xs (f:Int) (t:Int)=aW aA f t:=by unfold dN;rw[if_pos ⟨h,⟨by omega,by omega⟩,by omega,by omega⟩]
 have h2:=pV h f;unfold bC;rw[h1,eV,eV,gK hf,gK ht];simp only[aTd];have h3:decide (t∈aT aA xs.length f)=decide (aW aA f t=1):=by
  have:t∈aT aA xs.length f↔aW aA f t=1:=by rw[bV];exact⟨fun h=>h.2,fun h=>⟨ht,h⟩⟩
  simp[this]
 have h4:decide (0<xs.getD f 0)= !decide (xs.getD f 0=0):=by
  by_cases h0:xs.getD f 0=0
  ·rw[h0];rfl
  have:0<xs.getD f 0:=by omega
  simp only[h0,this];rfl
 rw[h3,h4];cases decide (aW aA f t=1)<;>cases decide (xs.getD f 0=0)<;>rfl
theorem aBx {aA aB:Int}{xs:List Int}(h:aN aA aB xs=true):iM aA aB xs=(eR aA xs.length (aO xs)).map (fun e=>((e.1:Int),(e.2:Int))):=by
 unfold iM eR;rw[aMu,List.map_flatMap];have b: ∀l:List Nat,(∀f∈l,f<xs.length)→l.flatMap (fun(f:Nat)=>((List.range xs.length).filter (fun(t:Nat)=>bC aA aB xs f t)).map (fun(t:Nat)=>((f:Int),(t:Int))))=l.flatMap (fun a=>(if(aO xs).testBit a then []else((aT aA xs.length a).filter (fun t=>(aO xs).testBit t)).map (fun t=>(a,t))).map (fun e=>((e.1:Int),(e.2:Int)))):=by
  intro l;induction l with
  |nil=>intro _;rfl
  |cons f l ih=>
   intro hl;have hf:=hl f (by simp);rw[aSm,aSm,ih (fun x hx=>hl x (by simp[hx]))];congr 1
   have e1:(List.range xs.length).filter (fun(t:Nat)=>bC aA aB xs f t)=(List.range xs.length).filter (fun(t:Nat)=>(!(aO xs).testBit f&&(decide (t∈aT aA xs.length f)&&(aO xs).testBit t))):=
    List.filter_congr (fun t ht=>aE8 h hf (aRz.1 ht))
   rw[e1];cases hb:(aO xs).testBit f with
   |true=>simp
   |false=>
    simp only[Bool.not_false,Bool.true_and,Bool.false_eq_true,if_false,List.map_map];have e2:(List.range xs.length).filter (fun(t:Nat)=>decide (t∈aT aA xs.length f)&&(aO xs).testBit t)=(aT aA xs.length f).filter (fun t=>(aO xs).testBit t):=by
     have:aT aA xs.length f=(List.range xs.length).filter (fun t=>decide (t∈aT aA xs.length f)):=by
      conv=>lhs;unfold aT
      refine List.filter_congr (fun t ht=> ?_);have:t∈aT aA xs.length f↔aW aA f t=1:=by rw[bV];exact⟨fun h=>h.2,fun h=>⟨aRz.1 ht,h⟩⟩
      simp[this]
     conv=>rhs;rw[this]
     rw[List.filter_filter];refine List.filter_congr (fun t _=> ?_);rw[Bool.and_comm]
    rw[e2];rfl
 exact b _ (fun f hf=>aRz.1 hf)
theorem uT {aA aB:Int}{xs:List Int}(h:aN aA aB xs=true){f t:Nat}(he:(f,t)∈eR aA xs.length (aO xs)):
  bC aA aB xs (f:Int) (t:Int)=true∧bH aA aB xs (f:Int) (t:Int)=(xs.set t (xs.getD f 0)).set f 0∧aO (bH aA aB xs (f:Int) (t:Int))=dB (aO xs) f t∧ ∀c id,xs[c]? =some id→id≠0→(bH aA aB xs (f:Int) (t:Int))[dS c f t]? =some id:=by
 obtain⟨h1,h2,h3,h4,h5⟩:=fT.1 he;dsimp only at h1 h2 h3 h4 h5;have hm:bC aA aB xs (f:Int) (t:Int)=true:=by rw[aE8 h h1 h2,h4,h5];simp[h3]
 have hd:bH aA aB xs (f:Int) (t:Int)=(xs.set t (xs.getD f 0)).set f 0:=by unfold bH;rw[if_pos hm];simp only[aTd]
 have j:f≠t:=fun e=>by subst e;rw[h5]at h4;cases h4
 have b:xs.getD f 0≠0:=by intro e;rw[eV,gK h1,e]at h4;simp at h4
 refine⟨hm,hd,?_,?_⟩
 ·refine aJ3 fun k=> ?_
  rw[eY h5 h4,eV,eV,hd];by_cases hk:k<xs.length
  ·rw[gK (by simpa using hk),gK hk];by_cases k1:k=f
   ·subst k1;rw[aRl,aRq (by simpa using hk)];simp
   by_cases k2:k=t
   ·subst k2;rw[aRl,aT7 (Ne.symm k1),aRq hk];have e:(some (xs.getD f 0)).getD 0=xs.getD f 0:=rfl;rw[e];have d: ¬xs[f]?.getD 0=0:=by rw[←aRl];exact b
    simp[d,k1]
   rw[aRl,aT7 (Ne.symm k1),aT7 (Ne.symm k2),←aRl];simp[k1,k2]
  have e1:cW ((xs.set t (xs.getD f 0)).set f 0) k=false:=by unfold cW;rw[aSv (by simp;omega)];rfl
  have e2:cW xs k=false:=by unfold cW;rw[aSv (by omega)];rfl
  rw[e1,e2];have:k≠f:=by omega
  simp[this]
 intro c id hc h0;rw[hd];obtain⟨i,g⟩:=aRk.1 hc;unfold dS;by_cases hcf:f=c
 ·rw[if_pos hcf,aT7 (by omega),aRq h2,hcf,aRl,hc];rfl
 rw[if_neg hcf];have a:t≠c:=by rintro rfl;rw[eV,gK h2,aRl,hc]at h5;simp at h5;exact h0 h5
 rw[aT7 hcf,aT7 a,hc]
def mO (aA:Int)(n:Nat)(dd:Nat→Nat→Int)(s:Nat×Nat):Option (Nat×Nat):=(eR aA n s.2).find? (fun e=>decide (dd (dS s.1 e.1 e.2) (dB s.2 e.1 e.2)=dd s.1 s.2-1))
def kG (s e:Nat×Nat):Nat×Nat:=(dS s.1 e.1 e.2,dB s.2 e.1 e.2)
def gP (aA:Int)(n:Nat)(dd:Nat→Nat→Int)(s:Nat×Nat):Nat→Nat×Nat
 |0=>s
 |j+1=>match mO aA n dd (gP aA n dd s j)with
  |none=>gP aA n dd s j
  |some e=>kG (gP aA n dd s j) e
def gZ (aA:Int)(n:Nat)(dd:Nat→Nat→Int)(s:Nat×Nat)(j:Nat):Nat×Nat:=(mO aA n dd (gP aA n dd s j)).getD (0,0)
def aV (D:List Int)(c S:Nat):Int:=D.getD (c*MM+S) 0
structure pG (n many:Nat) (s:Nat×Nat):Prop where
 car:s.1<n
 set:s.2<2 ^ n
 occ:s.2.testBit s.1=false
 many:iD s.2=many
section
variable {aA:Int} {n many:Nat} {D:List Int}
theorem oH (hn:n≤12){s:Nat×Nat}(h:pG n many s):aA9 n MM (s.1*MM+s.2)∧(s.1*MM+s.2)/MM=s.1∧(s.1*MM+s.2)%MM=s.2:=by have hl:s.2<MM:=aRf h.set (iW hn);have e1:(s.1*MM+s.2)/MM=s.1:=mI hl;have e2:(s.1*MM+s.2)%MM=s.2:=iI hl;exact⟨⟨by rw[e1];exact h.car,by rw[e2];exact h.set,by rw[e1,e2];exact h.occ⟩,e1,e2⟩
theorem aC1 (hn:n≤12){s e:Nat×Nat}(h:pG n many s)(he:e∈eR aA n s.2):sG aA n MM (s.1*MM+s.2) ((kG s e).1*MM+(kG s e).2)∧pG n many (kG s e):=by
 obtain⟨h1,h2,h3,h4,h5⟩:=fT.1 he;obtain⟨a,b,c⟩:=oH hn h;have hE:sG aA n MM (s.1*MM+s.2) ((kG s e).1*MM+(kG s e).2):=⟨e.1,e.2,h1,h2,h3,by rw[c];exact h4,by rw[c];exact h5,by rw[b,c];rfl⟩
 have hl:=sW h.set h1 h5 h4;have k:=tM (iW hn) a hE;have k2:=rB (iW hn) a.set hE;have d:(kG s e).2<MM:=aRf hl (iW hn);have e1:=k.car;have e2:=k.set;have e3:=k.occ;rw[mI d]at e1;rw[iI d]at e2;rw[mI d,iI d]at e3;rw[iI d,c,h.many]at k2;exact⟨hE,e1,e2,e3,k2⟩
theorem uH (g:4≤n)(hn:n≤12)(hD:fI aA n many D){s:Nat×Nat}(h:pG n many s)(h0:0<aV D s.1 s.2): ∃e,mO aA n (aV D) s=some e∧e∈eR aA n s.2∧aV D (kG s e).1 (kG s e).2=aV D s.1 s.2-1∧pG n many (kG s e):=by
 obtain⟨a,b,c⟩:=oH hn h;obtain⟨u,hu,hm,hd⟩:=hD.back _ (pN hn a) h0;have d:D.getD (s.1*MM+s.2) 0=aV D s.1 s.2:=rfl;obtain⟨k,hk⟩:=aS9 (show 0≤D.getD u 0 by rw[hd,d];omega);obtain⟨u1,u2⟩:=aJ0 g hn hD k u hu hk;obtain⟨f,t,h1,h2,h3,h4,h5,h6⟩:=aB6 (iW hn) u1 (nT.1 hm);rw[b,c]at h6;rw[c]at h4 h5;have he:(f,t)∈eR aA n s.2:=fT.2 ⟨h1,h2,h3,h4,h5⟩;have hp:(fun e:Nat×Nat=>decide (aV D (dS s.1 e.1 e.2) (dB s.2 e.1 e.2)=aV D s.1 s.2-1)) (f,t)=true:=by simp only[decide_eq_true_eq];show D.getD (gY MM s.1 s.2 f t) 0=_;rw[←h6,hd,d]
 cases hf:mO aA n (aV D) s with
 |none=>unfold mO at hf;have:=List.find?_eq_none.1 hf _ he;exact absurd hp this
 |some e=>unfold mO at hf;have h7:=List.find?_some hf;have h8:=aSx hf;simp only[decide_eq_true_eq]at h7;exact⟨e,rfl,h8,h7,(aC1 hn h h8).2⟩
theorem aIs {dd:Nat→Nat→Int}{s:Nat×Nat}{j:Nat}{e:Nat×Nat}(h:mO aA n dd (gP aA n dd s j)=some e):gP aA n dd s (j+1)=kG (gP aA n dd s j) e:=by rw[gP,h]
theorem jZ (c:4≤n)(hn:n≤12)(hD:fI aA n many D){s:Nat×Nat}(h:pG n many s){d:Nat}(hd:aV D s.1 s.2=d): ∀j,j≤d→pG n many (gP aA n (aV D) s j)∧aV D (gP aA n (aV D) s j).1 (gP aA n (aV D) s j).2=(d:Int)-j:=by
 intro j;induction j with
 |zero=>intro _;exact⟨h,by show aV D s.1 s.2=_;rw[hd];simp⟩
 |succ j ih=>intro hj;obtain⟨a,b⟩:=ih (by omega);obtain⟨e,h1,h2,h3,h4⟩:=uH c hn hD a (by rw[b];omega);rw[aIs h1];exact⟨h4,by rw[h3,b];omega⟩
theorem kZ (c:4≤n)(hn:n≤12)(hD:fI aA n many D){s:Nat×Nat}(h:pG n many s){d:Nat}(hd:aV D s.1 s.2=d){j:Nat}(hj:j<d):mO aA n (aV D) (gP aA n (aV D) s j)=some (gZ aA n (aV D) s j)∧gZ aA n (aV D) s j∈eR aA n (gP aA n (aV D) s j).2∧gP aA n (aV D) s (j+1)=kG (gP aA n (aV D) s j) (gZ aA n (aV D) s j):=by
 obtain⟨a,b⟩:=jZ c hn hD h hd j (by omega);obtain⟨e,h1,h2,h3,h4⟩:=uH c hn hD a (by rw[b];omega);have he:gZ aA n (aV D) s j=e:=by unfold gZ;rw[h1];rfl
 rw[he];exact⟨h1,h2,aIs h1⟩
theorem aO3 (c:4≤n)(hn:n≤12)(hD:fI aA n many D){s:Nat×Nat}(h:pG n many s){d:Nat}(hd:aV D s.1 s.2=d){j:Nat}(hj:j≤d):(gP aA n (aV D) s j).1=0↔j=d:=by
 obtain⟨a,b⟩:=jZ c hn hD h hd j hj;obtain⟨k1,k2,k3⟩:=oH hn a;have hz:=hD.zero _ (pN hn k1);have hb:D.getD ((gP aA n (aV D) s j).1*MM+(gP aA n (aV D) s j).2) 0=(d:Int)-j:=b;rw[hb,jV]at hz;constructor
 ·intro h0
  have:=hz.2 (by
   rw[h0,Nat.zero_mul,aSq]
   exact⟨a.set,by have:=a.occ;rw[h0]at this;exact this,a.many⟩)
  omega
 intro e;have h1:=(hz.1 (by omega)).1;have hp:=iW hn;have h2:=Nat.div_eq_of_lt (aRf h1 hp);rw[k2]at h2;exact h2
theorem aAn (g:4≤n)(hn:n≤12){E:List Int}(hD:fI aA n many D)(hE:fI aA n many E){s:Nat×Nat}(h:pG n many s)(h0:0<aV D s.1 s.2):mO aA n (aV D) s=mO aA n (aV E) s:=by
 unfold mO;have c: ∀s:Nat×Nat,pG n many s→(0≤aV D s.1 s.2↔0≤aV E s.1 s.2)∧(0≤aV D s.1 s.2→aV D s.1 s.2=aV E s.1 s.2):=fun s hs=>aB9 hD hE (pN hn (oH hn hs).1)
 have h1:=(c s h).2 (by omega);have d: ∀l:List (Nat×Nat),(∀e∈l,e∈eR aA n s.2)→l.find? (fun e=>decide (aV D (dS s.1 e.1 e.2) (dB s.2 e.1 e.2)=aV D s.1 s.2-1))=l.find? (fun e=>decide (aV E (dS s.1 e.1 e.2) (dB s.2 e.1 e.2)=aV E s.1 s.2-1)):=by
  intro l;induction l with
  |nil=>intro _;rfl
  |cons e l ih=>
   intro hl;have hp:=(aC1 hn h (hl e (by simp))).2;obtain⟨a,b⟩:=c _ hp;have hh:decide (aV D (dS s.1 e.1 e.2) (dB s.2 e.1 e.2)=aV D s.1 s.2-1)=decide (aV E (dS s.1 e.1 e.2) (dB s.2 e.1 e.2)=aV E s.1 s.2-1):=by
    have a':0≤aV D (dS s.1 e.1 e.2) (dB s.2 e.1 e.2)↔0≤aV E (dS s.1 e.1 e.2) (dB s.2 e.1 e.2):=a;have b':0≤aV D (dS s.1 e.1 e.2) (dB s.2 e.1 e.2)→aV D (dS s.1 e.1 e.2) (dB s.2 e.1 e.2)=aV E (dS s.1 e.1 e.2) (dB s.2 e.1 e.2):=b;rw[←h1];by_cases hc:0≤aV D (dS s.1 e.1 e.2) (dB s.2 e.1 e.2)
    ·rw[b' hc]
    have f: ¬0≤aV E (dS s.1 e.1 e.2) (dB s.2 e.1 e.2):=fun x=>hc (a'.2 x)
    have d1: ¬(aV D (dS s.1 e.1 e.2) (dB s.2 e.1 e.2)=aV D s.1 s.2-1):=by omega
    have d2: ¬(aV E (dS s.1 e.1 e.2) (dB s.2 e.1 e.2)=aV D s.1 s.2-1):=by omega
    simp only[d1,d2]
   rw[List.find?_cons,List.find?_cons,hh,ih (fun x hx=>hl x (by simp[hx]))]
 exact d _ (fun e he=>he)
theorem aPn (c:4≤n)(hn:n≤12){E:List Int}(hD:fI aA n many D)(hE:fI aA n many E){s:Nat×Nat}(h:pG n many s){d:Nat}(hd:aV D s.1 s.2=d): ∀j,j≤d→gP aA n (aV D) s j=gP aA n (aV E) s j:=by
 intro j;induction j with
 |zero=>intro _;rfl
 |succ j ih=>intro hj;have e:=ih (by omega);obtain⟨a,b⟩:=jZ c hn hD h hd j (by omega);have p:=aAn c hn hD hE a (by rw[b];omega);rw[gP,gP,←e,p]
theorem aI2 (c:4≤n)(hn:n≤12){E:List Int}(hD:fI aA n many D)(hE:fI aA n many E){s:Nat×Nat}(h:pG n many s){d:Nat}(hd:aV D s.1 s.2=d){j:Nat}(hj:j<d):gZ aA n (aV D) s j=gZ aA n (aV E) s j:=by obtain⟨a,b⟩:=jZ c hn hD h hd j (by omega);unfold gZ;rw[←aPn c hn hD hE h hd j (by omega),aAn c hn hD hE a (by rw[b];omega)]
end
end
structure oV (adj:Nat→List Nat) (D:Nat→Int) (g:Nat→Nat) (d start:Nat):Prop where
 zero:g 0=start
 dist: ∀j,j≤d→D (g j)=d-j
 next: ∀j,j<d→(adj (g j)).find? (fun v=>decide (D v=D (g j)-1))=some (g (j+1))
structure aFq (adj:Nat→List Nat) (D:Nat→Int) (N:Nat):Prop where
 edge: ∀u v,u<N→v∈adj u→0≤D u→0≤D v∧D u≤D v+1
 bd: ∀u v,u<N→v∈adj u→v<N
structure Fwd (adj:Nat→List Nat) (D:Nat→Int) (g:Nat→Nat) (d N start k:Nat) (B A:List Int) (Q:List Nat):Prop where
 inv:Inv adj [start] N k (A,Q)
 blen:B.length=N
 bmem: ∀v,v<N→(0≤B.getD v 0↔v∈Q)
 ngoal: ∀(i u:Nat),i<k→Q[i]? =some u→D u≠0
 tri: ∀v∈Q,0≤D v∧(d:Int)≤A.getD v 0+D v
 chain: ∀j:Nat,j<d→g (j+1)∈Q→A.getD (g (j+1)) 0=j+1→B.getD (g (j+1)) 0=g j
 tight: ∀(i v:Nat),Q[i]? =some v→A.getD v 0+D v=d→ ∃i',i'≤i∧Q[i']? =some (g (A.getD v 0).toNat)
structure FMid (adj:Nat→List Nat) (D:Nat→Int) (g:Nat→Nat) (d N start k u:Nat) (ws:List Nat) (A0:List Int) (Q0:List Nat) (B A:List Int) (Q:List Nat):Prop where
 mid:Mid adj [start] N k u ws (A0,Q0) (A,Q)
 blen:B.length=N
 bmem: ∀v,v<N→(0≤B.getD v 0↔v∈Q)
 tri: ∀v∈Q,0≤D v∧(d:Int)≤A.getD v 0+D v
 chain: ∀j:Nat,j<d→g (j+1)∈Q→A.getD (g (j+1)) 0=j+1→B.getD (g (j+1)) 0=g j
 tight: ∀(i v:Nat),Q[i]? =some v→A.getD v 0+D v=d→ ∃i',i'≤i∧Q[i']? =some (g (A.getD v 0).toNat)
theorem FMid.step {adj:Nat→List Nat}{D:Nat→Int}{g:Nat→Nat}{d N c k u w:Nat}{ws af:List Nat}{B0 A0:List Int}{Q0:List Nat}{B A:List Int}{Q:List Nat}
  (hG:oV adj D g d c)(hD:aFq adj D N)(h0:Fwd adj D g d N c k B0 A0 Q0)(hu:Q0[k]? =some u) (h:FMid adj D g d N c k u ws A0 Q0 B A Q) (p:adj u=ws++w::af):
  ∃B' A' Q',eU (u:Int) (B,Q) w=(B',Q')∧eU (A0.getD u 0+1) (A,Q) w=(A',Q')∧FMid adj D g d N c k u (ws++ [w]) A0 Q0 B' A' Q':=by
 have o:u∈Q0:=aRi hu;have s:u<N:=h0.inv.bd u o;have hw:w∈adj u:=by rw[p];simp
 have n:w<N:=hD.bd u w s hw;have q:A0.getD u 0=A.getD u 0:=(h.mid.same u o).symm;have m:=h.mid.step o hw n q;obtain⟨r,hr⟩:=h.mid.pre;dsimp only at hr;have ab:u∈Q:=by rw[hr];exact aSj _ o
 have y:Q[k]? =some u:=by have hk:k<Q0.length:=(aRk.1 hu).1;rw[hr,aS1 hk];exact hu
 have ap:0≤A.getD u 0:=(h.mid.mem u s).2 ab;by_cases hc:w∈Q
 ·have hB: ¬B.getD w 0<0:=by have:=(h.bmem w n).2 hc;omega
  have hA: ¬A.getD w 0<0:=by have:=(h.mid.mem w n).2 hc;dsimp only at this;omega
  refine⟨B,A,Q,by unfold eU;rw[if_neg hB],by unfold eU;rw[if_neg hA],?_⟩;have e:eU (A0.getD u 0+1) (A,Q) w=(A,Q):=by unfold eU;rw[if_neg hA]
  rw[e]at m;exact⟨m,h.blen,h.bmem,h.tri,h.chain,h.tight⟩
 have hB:B.getD w 0<0:=by
  by_cases hh:B.getD w 0<0
  ·exact hh
  exact absurd ((h.bmem w n).1 (by omega)) hc
 have hA:A.getD w 0<0:=by
  by_cases hh:A.getD w 0<0
  ·exact hh
  exact absurd ((h.mid.mem w n).1 (by dsimp only;omega)) hc
 have aa: ∀v∈Q,w≠v:=fun v hv e=>hc (by rw[e];exact hv)
 refine⟨B.set w u,A.set w (A0.getD u 0+1),Q++ [w],by unfold eU;rw[if_pos hB],by unfold eU;rw[if_pos hA],?_⟩;have e:eU (A0.getD u 0+1) (A,Q) w=(A.set w (A0.getD u 0+1),Q++ [w]):=by unfold eU;rw[if_pos hA]
 rw[e]at m;have al:w<B.length:=by rw[h.blen];exact n
 have ak:w<A.length:=by have:=h.mid.len;dsimp only at this;omega
 have sB:(B.set w (u:Int)).getD w 0=u:=cL al;have sA:(A.set w (A0.getD u 0+1)).getD w 0=A.getD u 0+1:=by rw[cL ak,q]
 obtain⟨am,aq⟩:=h.tri u ab;obtain⟨e1,e2⟩:=hD.edge u w s hw am
 -- if w is tight, then so is u; and the step that is first is there
 have ae:A.getD u 0+1+D w=d→ ∃i',i'≤k∧Q[i']? =some (g (A.getD u 0).toNat)∧(i'<k→g ((A.getD u 0).toNat+1)∈Q)∧(i'=k→u=g (A.getD u 0).toNat):=by
  intro ht;obtain⟨i',l,hq⟩:=h.tight k u y (by omega);refine⟨i',l,hq,fun hlt=> ?_,fun he=> ?_⟩
  ·have hk:k<Q0.length:=(aRk.1 hu).1;have ai:Q0[i']? =some (g (A.getD u 0).toNat):=by rw[hr,aS1 (by omega)]at hq;exact hq
   have f:(A.getD u 0).toNat<d:=by omega
   have z:g ((A.getD u 0).toNat+1)∈adj (g (A.getD u 0).toNat):=aSx (hG.next _ f);have:=(h0.inv.done i' _ hlt ai _ z).1;rw[hr];exact aSj _ this
  subst he;rw[y]at hq;injection hq
 have first:A.getD u 0+1+D w=d→g ((A.getD u 0).toNat+1)∈Q∨g ((A.getD u 0).toNat+1)=w:=by
  intro ht;obtain⟨i',l,hq,k1,k2⟩:=ae ht;by_cases he:i'=k
  ·have ad:=k2 he;have f:(A.getD u 0).toNat<d:=by omega
   have hn:=hG.next _ f;rw[←ad,p]at hn;have an:D u=d-(A.getD u 0).toNat:=by have:=hG.dist _ (Nat.le_of_lt f);rw[←ad]at this;exact this
   rw[List.find?_append]at hn;cases hf:ws.find? (fun v=>decide (D v=D u-1))with
   |some x=>rw[hf,Option.some_or]at hn;injection hn with hn;left;rw[←hn];exact h.mid.seen x (aSx hf)
   |none=>rw[hf]at hn;right;rw[Option.none_or,List.find?_cons_of_pos (by simp;omega)]at hn;injection hn with hn;exact hn.symm
  exact .inl (k1 (by omega))
 refine⟨m,by simp[h.blen],?_,?_,?_,?_⟩
 ·intro v hv;by_cases ev:w=v
  ·subst ev;rw[sB];exact⟨fun _=>by simp,fun _=>by omega⟩
  rw[bS ev,h.bmem v hv];simp;intro e2;exact absurd e2.symm ev
 ·intro v hv;rcases aS0.1 hv with hv|hv
  ·rw[bS (aa v hv)];exact h.tri v hv
  simp at hv;subst hv;rw[sA];exact⟨e1,by omega⟩
 ·intro j hj hm ha;by_cases ev:w=g (j+1)
  ·rw[←ev]at ha⊢;rw[sA]at ha;rw[sB];have ao:D w=d-(j+1:Nat):=by rw[ev];exact hG.dist (j+1) (by omega)
   have ht:A.getD u 0+1+D w=d:=by omega
   obtain⟨i',l,hq,k1,k2⟩:=ae ht;have t:(A.getD u 0).toNat=j:=by omega
   by_cases he:i'=k
   ·have:=k2 he;rw[t]at this;rw[this]
   have:=k1 (by omega);rw[t,←ev]at this;exact absurd this hc
  rcases aS0.1 hm with hm|hm
  ·rw[bS ev]at ha⊢;exact h.chain j hj hm ha
  simp at hm;exact absurd hm.symm ev
 intro i v hi ht;by_cases hiQ:i<Q.length
 ·rw[aS1 hiQ]at hi;have aj:v∈Q:=aRi hi;rw[bS (aa v aj)]at ht⊢;obtain⟨i',a,b⟩:=h.tight i v hi ht;exact⟨i',a,by rw[aS1 (by omega)];exact b⟩
 have ah:i<(Q++ [w]).length:=(aRk.1 hi).1;have ag:i=Q.length:=by simp at ah;omega
 subst ag;simp at hi;subst hi;rw[sA]at ht⊢;have e3:(A.getD u 0+1).toNat=(A.getD u 0).toNat+1:=by omega
 rw[e3];rcases first ht with hm|hm
 ·obtain⟨i',l,ei⟩:=aSo hm;exact⟨i',by omega,by rw[aS1 l,aRh l,ei]⟩
 exact⟨Q.length,aRg _,by rw[hm,aSb (aRg _)];simp⟩
theorem Fwd.mid {adj:Nat→List Nat}{D:Nat→Int}{g:Nat→Nat}{d N a k u:Nat}{B A:List Int}{Q:List Nat}(h:Fwd adj D g d N a k B A Q)(hu:Q[k]? =some u):FMid adj D g d N a k u [] A Q B A Q:=
 ⟨h.inv.mid hu,h.blen,h.bmem,h.tri,h.chain,h.tight⟩
theorem FMid.many {adj:Nat→List Nat}{D:Nat→Int}{g:Nat→Nat}{d N a k u:Nat}{B0 A0:List Int}{Q0:List Nat}
  (hG:oV adj D g d a)(hD:aFq adj D N)(h0:Fwd adj D g d N a k B0 A0 Q0)(hu:Q0[k]? =some u):
  ∀(vs ws:List Nat) (B A:List Int) (Q:List Nat),FMid adj D g d N a k u ws A0 Q0 B A Q→adj u=ws++vs→(bQ (A0.getD u 0+1) (A,Q) vs).2=(bQ (u:Int) (B,Q) vs).2∧FMid adj D g d N a k u (ws++vs) A0 Q0 (bQ (u:Int) (B,Q) vs).1 (bQ (A0.getD u 0+1) (A,Q) vs).1 (bQ (u:Int) (B,Q) vs).2:=by
 intro vs;induction vs with
 |nil=>intro ws B A Q h _;exact⟨rfl,by simpa[bQ]using h⟩
 |cons v vs ih=>
  intro ws B A Q h e;obtain⟨B',A',Q',e1,e2,h1⟩:=h.step hG hD h0 hu e;have e3:bQ (u:Int) (B,Q) (v::vs)=bQ (u:Int) (B',Q') vs:=by show vs.foldl _ (eU (u:Int) (B,Q) v)=_;rw[e1];rfl
  have e4:bQ (A0.getD u 0+1) (A,Q) (v::vs)=bQ (A0.getD u 0+1) (A',Q') vs:=by show vs.foldl _ (eU (A0.getD u 0+1) (A,Q) v)=_;rw[e2];rfl
  have:=ih (ws++ [v]) B' A' Q' h1 (by rw[e];simp);rw[e3,e4];simpa using this
theorem Fwd.step {adj:Nat→List Nat}{D:Nat→Int}{g:Nat→Nat}{d N a k u:Nat}{B A:List Int}{Q:List Nat}(hG:oV adj D g d a)(hD:aFq adj D N)(h:Fwd adj D g d N a k B A Q)(hu:Q[k]? =some u) (hg:D u≠0):
  ∃A',Fwd adj D g d N a (k+1) (bQ (u:Int) (B,Q) (adj u)).1 A' (bQ (u:Int) (B,Q) (adj u)).2:=by
 have b:=h.inv.bd u (aRi hu);obtain⟨e,m⟩:=FMid.many hG hD h hu (adj u) [] B A Q (h.mid hu) rfl;have hi:=h.inv.step hu (fun v hv=>hD.bd u v b hv);have e2:bQ (A.getD u 0+1) (A,Q) (adj u)=((bQ (A.getD u 0+1) (A,Q) (adj u)).1,(bQ (u:Int) (B,Q) (adj u)).2):=by rw[←e]
 dsimp only at hi;rw[e2]at hi;obtain⟨r,hr⟩:=m.mid.pre;dsimp only at hr;refine⟨_,hi,m.blen,m.bmem,?_,m.tri,m.chain,m.tight⟩;intro i v c hv;have hk:k<Q.length:=(aRk.1 hu).1;by_cases he:i=k
 ·subst he;rw[hr,aS1 hk,hu]at hv;injection hv with hv;rw[←hv];exact hg
 rw[hr,aS1 (by omega)]at hv;exact h.ngoal i v (by omega) hv
theorem Fwd.way {adj:Nat→List Nat}{D:Nat→Int}{g:Nat→Nat}{d N c k:Nat}{B A:List Int}{Q:List Nat}(hG:oV adj D g d c)(h:Fwd adj D g d N c k B A Q)
  (hp: ∀(i v:Nat),Q[i]? =some v→A.getD v 0<d→i<k): ∀j,j≤d→g j∈Q∧A.getD (g j) 0=j:=by
 intro j;induction j with
 |zero=>intro _;obtain⟨a,b⟩:=h.inv.src c (by simp);rw[hG.zero];exact⟨a,by simpa using b⟩
 |succ j ih=>
  intro hj;obtain⟨a,b⟩:=ih (by omega);obtain⟨i,hi,e⟩:=aSo a;have hq:Q[i]? =some (g j):=by rw[aRh hi,e]
  have f:=hp i (g j) hq (by omega);have hm:g (j+1)∈adj (g j):=aSx (hG.next j (by omega));obtain⟨c1,c2⟩:=h.inv.done i (g j) f hq _ hm;have t:=(h.tri (g (j+1)) c1).2;have dd:=hG.dist (j+1) hj;dsimp only at c2;exact⟨c1,by omega⟩
theorem Fwd.goal {adj:Nat→List Nat}{D:Nat→Int}{g:Nat→Nat}{d N f k u:Nat}{B A:List Int}{Q:List Nat}(hG:oV adj D g d f)(h:Fwd adj D g d N f k B A Q)(hu:Q[k]? =some u) (hz:D u=0):
  u=g d∧ ∀j,j<d→B.getD (g (j+1)) 0=g j:=by
 have o:u∈Q:=aRi hu;have hk:k<Q.length:=(aRk.1 hu).1;have n:Q[k]=u:=(aRk.1 hu).2;have t:=(h.tri u o).2;have m:=List.pairwise_iff_getElem.1 h.inv.mono;have hp: ∀(i v:Nat),Q[i]? =some v→A.getD v 0<A.getD u 0→i<k:=by
  intro i v hv hlt;obtain⟨hi,e⟩:=aRk.1 hv;by_cases hik:i<k
  ·exact hik
  exfalso;by_cases he:i=k
  ·subst he;rw[n]at e;subst e;omega
  have:=m k i hk hi (by omega);dsimp only at this;rw[n,e]at this;omega
 have hw:=h.way hG (fun i v hv hlt=>hp i v hv (by omega));obtain⟨w1,w2⟩:=hw d (aRg _);have q:=hG.dist d (aRg _);have l:D (g d)=0:=by omega
 obtain⟨i,hi,e⟩:=aSo w1;have hq:Q[i]? =some (g d):=by rw[aRh hi,e]
 have p:A.getD u 0=d:=by
  by_cases hh:A.getD u 0=d
  ·exact hh
  exfalso;have:=hp i (g d) hq (by omega);exact h.ngoal i _ this hq l
 obtain⟨i',r,c⟩:=h.tight k u hu (by omega);have e1:(A.getD u 0).toNat=d:=by omega
 rw[e1]at c;have hik:i'=k:=by
  by_cases hh:i'=k
  ·exact hh
  exact absurd l (h.ngoal i' _ (by omega) c)
 subst hik;rw[hu]at c;injection c with c;refine⟨c,fun j hj=> ?_⟩;obtain⟨a,b⟩:=hw (j+1) (by omega);exact h.chain j hj a (by omega)
theorem Fwd.more {adj:Nat→List Nat}{D:Nat→Int}{g:Nat→Nat}{d N c k:Nat}{B A:List Int}{Q:List Nat}(hG:oV adj D g d c)(h:Fwd adj D g d N c k B A Q):k<Q.length:=by
 by_cases hk:k<Q.length
 ·exact hk
 exfalso;have hp: ∀(i v:Nat),Q[i]? =some v→i<k:=fun i v hv=>by have:=(aRk.1 hv).1;omega
 obtain⟨a,b⟩:=h.way hG (fun i v hv _=>hp i v hv) d (aRg _);obtain⟨i,hi,e⟩:=aSo a;have hq:Q[i]? =some (g d):=by rw[aRh hi,e]
 have f:=hG.dist d (aRg _);exact h.ngoal i _ (hp i _ hq) hq (by omega)
theorem Fwd.start {adj:Nat→List Nat}{D:Nat→Int}{g:Nat→Nat}{d N a:Nat}(hG:oV adj D g d a)(hs:a<N):
  Fwd adj D g d N a 0 ((List.replicate N (-1)).set a (a:Int)) ((List.replicate N (-1)).set a 0) [a]:=by
 have hl:a<(List.replicate N (-1:Int)).length:=by simpa using hs
 have b: ∀(x:Int) v,v<N→a≠v→((List.replicate N (-1:Int)).set a x).getD v 0= -1:=by intro x v hv e;rw[bS e];simp[List.getD,hv]
 refine⟨⟨by simp,by simpa using hs,?_,by simp,by simp,?_,?_,?_,fun i u hi=>by omega⟩,by simp,?_,fun i u hi=>by omega,?_,?_,?_⟩
 ·intro v hv;dsimp only;by_cases e:a=v
  ·subst e;rw[cL hl];simp
  rw[b 0 v hv e];simp;exact fun h=>e h.symm
 ·intro u hu v hv;simp at hu hv;subst hu hv;omega
 ·intro v hv;simp at hv;subst hv;dsimp only;rw[cL hl];simp[pC]
 ·intro v hv;simp at hv;subst hv;exact⟨by simp,cL hl⟩
 ·intro v hv;by_cases e:a=v
  ·subst e;rw[cL hl];simp
  rw[b _ v hv e];simp;exact fun h=>e h.symm
 ·intro v hv;simp at hv;subst hv;have:=hG.dist 0 (aRo _);rw[hG.zero]at this;rw[cL hl];omega
 ·intro j hj hm ha;simp at hm;rw[hm,cL hl]at ha;omega
 intro i v hi ht;have c:i=0:=by have:=(aRk.1 hi).1;simp at this;omega
 subst c;simp at hi;subst hi;rw[cL hl];exact⟨0,aRg _,by simp[hG.zero]⟩
section
open Go.RowKit
def aD1 (adj:Nat→List Nat):Nat→Nat→List Int×List Nat→List Int×List Nat
 |0,_,s=>s
 |m+1,k,s=>match s.2[k]? with
  |none=>s
  |some u=>aD1 adj m (k+1) (bQ (s.1.getD u 0+1) s (adj u))
theorem aFl {adj:Nat→List Nat}{src:List Nat}{N:Nat}(ha: ∀u v,u<N→v∈adj u→v<N): ∀(m k:Nat) (s:List Int×List Nat),Inv adj src N k s→N≤k+m→tT adj src N (aD1 adj m k s).1:=by
 intro m;induction m with
 |zero=>intro k s hI hk;exact hI.dist (aRp hI.qlen (by omega))
 |succ m ih=>
  intro k s hI hk;rw[aD1];cases hu:s.2[k]? with
  |none=>exact hI.dist (by rw[List.getElem?_eq_none_iff]at hu;exact hu)
  |some u=>exact ih (k+1) _ (hI.step hu (fun v hv=>ha _ v (hI.bd _ (aRi hu)) hv)) (by omega)
def hU (aA:Int)(n many:Nat):List Int:=(aD1 (zD aA n MM) NN 0 (jH NN (xA n many),xA n many)).1
theorem mH {aA:Int}{n many:Nat}(hn:n≤12):fI aA n many (hU aA n many):=
 aFl (tS hn) _ _ _ (Inv.begin (aIf hn) wZ) (by omega)
abbrev jQ (e:Nat×Nat):Sl2:=((e.1:Int),(e.2:Int))
def pD (aA:Int)(n:Nat)(dd:Nat→Nat→Int)(s:Nat×Nat)(j:Nat):List Sl2:=(List.range j).map (fun i=>jQ (gZ aA n dd s i))
theorem pH (aA:Int)(n:Nat)(dd:Nat→Nat→Int)(s:Nat×Nat)(j:Nat):(pD aA n dd s j).length=j:=by simp[pD]
theorem aAa (aA:Int)(n:Nat)(dd:Nat→Nat→Int)(s:Nat×Nat)(j:Nat):pD aA n dd s (j+1)=pD aA n dd s j++ [jQ (gZ aA n dd s j)]:=by simp[pD,aT2]
def ddH (aA:Int)(xs:List Int):Nat→Nat→Int:=aV (hU aA xs.length (bP xs).length)
def dV (aA:Int)(xs:List Int)(c:Nat):Option (List Sl2):=
 if ddH aA xs c (aO xs)<0 then none else some (pD aA xs.length (ddH aA xs) (c,aO xs) (ddH aA xs c (aO xs)).toNat)
theorem lL {xs:List Int}{c:Nat}{id:Int}(hc:xs[c]? =some id) (h0:id≠0):pG xs.length (bP xs).length (c,aO xs):=by obtain⟨hl,he⟩:=aRk.1 hc;refine⟨hl,oQ xs,?_,aCu xs⟩;show(aO xs).testBit c=false;rw[eV,gK hl,aRl,hc];simpa using h0
section
variable {aA aB:Int} {xs:List Int} {c:Nat} {id:Int} {D:List Int}
theorem aLt (h:aN aA aB xs=true)(hc:xs[c]? =some id) (h0:id≠0) (hD:fI aA xs.length (bP xs).length D) {d:Nat} (hd:aV D c (aO xs)=d):
  ∀j,j≤d→ ∃ys,bA aA aB xs (pD aA xs.length (aV D) (c,aO xs) j)=(ys,j)∧aN aA aB ys=true∧ys.length=xs.length∧aO ys=(gP aA xs.length (aV D) (c,aO xs) j).2∧ys[(gP aA xs.length (aV D) (c,aO xs) j).1]? =some id:=by
 obtain⟨b1,b2,b3,b4,b5,b6,b7⟩:=cE (cS h);have hp:=lL hc h0;intro j;induction j with
 |zero=>intro _;exact⟨xs,rfl,h,rfl,rfl,hc⟩
 |succ j ih=>
  intro hj;obtain⟨ys,h1,h2,h3,h4,h5⟩:=ih (by omega);obtain⟨e1,e2,e3⟩:=kZ b5 b6 hD hp hd (show j<d by omega);have hw:=aAa aA xs.length (aV D) (c,aO xs) j;generalize gZ aA xs.length (aV D) (c,aO xs) j=e at*;obtain⟨f,t⟩:=e;rw[←h4,←h3]at e2;obtain⟨m1,m2,m3,m4⟩:=uT h2 e2;refine⟨bH aA aB ys (f:Int) (t:Int),?_,jA _ _ h2,by rw[dA,h3],?_,?_⟩
  ·rw[hw,rK _ _ _ (by rw[h1,pH]),h1,pH];dsimp only;rw[if_pos m1]
  ·rw[m3,e3,h4];rfl
  rw[e3];exact m4 _ _ h5 h0
theorem uW (h:aN aA aB xs=true)(hc:xs[c]? =some id) (h0:id≠0) (hD:fI aA xs.length (bP xs).length D):(bP xs≠ []→0≤aV D c (aO xs)∧aV D c (aO xs)≤60)∧(c=0→aV D c (aO xs)=0)∧(bP xs= []→c≠0→aV D c (aO xs)<0):=by
 obtain⟨b1,b2,b3,b4,b5,b6,b7⟩:=cE (cS h);have hp:=lL hc h0;obtain⟨k1,k2,k3⟩:=oH b6 hp;refine⟨fun hf=> ?_,fun hc0=> ?_,fun hf hc0=> ?_⟩
 ·obtain⟨u,hu⟩:=List.exists_mem_of_ne_nil _ hf;obtain⟨u1,u2⟩:=kQ hu;have hb:(aO xs).testBit u=true:=by rw[eV,gK u1,u2];rfl
  have hg:=kO h;obtain⟨a,b⟩:=aOj hg b5 b6 hD _ _ u (aRg _) k1 (by rw[k3];exact hp.many) (by rw[k3];exact hb);rw[k2]at b;exact⟨a,Int.le_trans b (by have:=(xS hg hp.car u1).1;exact_mod_cast this)⟩
 ·subst hc0;refine(hD.zero _ (pN b6 k1)).2 (jV.2 ?_);rw[Nat.zero_mul,aSq];exact⟨hp.set,hp.occ,hp.many⟩
 rcases Int.lt_or_le (aV D c (aO xs)) 0 with f|d
 ·exact f
 exfalso;rcases Int.lt_or_eq_of_le d with h1|h1
 ·obtain⟨e,e1,e2,_⟩:=uH b5 b6 hD hp h1;obtain⟨_,g2,_,_,g5⟩:=fT.1 e2;have hm:e.2∈bP xs:=by
   unfold bP;rw[aS4];exact⟨aRz.2 g2,by rw[←eV];exact g5⟩
  rw[hf]at hm;cases hm
 have hz:=(hD.zero _ (pN b6 k1)).1 h1.symm;have h2:=(jV.1 hz).1;have h3:=Nat.div_eq_of_lt (aRf h2 (iW b6));rw[k2]at h3;exact hc0 h3
theorem aLq (h:aN aA aB xs=true)(hc:xs[c]? =some id) (h0:id≠0) (hD:fI aA xs.length (bP xs).length D):
  (0≤aV D c (aO xs)↔0≤ddH aA xs c (aO xs))∧(0≤aV D c (aO xs)→aV D c (aO xs)=ddH aA xs c (aO xs)∧pD aA xs.length (aV D) (c,aO xs) (aV D c (aO xs)).toNat=pD aA xs.length (ddH aA xs) (c,aO xs) (ddH aA xs c (aO xs)).toNat):=by
 obtain⟨b1,b2,b3,b4,b5,b6,b7⟩:=cE (cS h);have hp:=lL hc h0;have hE:=mH (aA:=aA) (many:=(bP xs).length) b6;obtain⟨s1,s2⟩:=aB9 hD hE (pN b6 (oH b6 hp).1);refine⟨s1,fun h1=> ?_⟩;have e1:aV D c (aO xs)=ddH aA xs c (aO xs):=s2 h1;refine⟨e1,?_⟩;obtain⟨d,hd⟩:=aS9 h1;rw[←e1,hd];unfold pD;refine List.map_congr_left fun i hi=> ?_
 have:=aRz.1 hi;rw[aI2 b5 b6 hD hE hp hd (show i<d by simpa using this)];rfl
theorem zA (h:aN aA aB xs=true)(hc:xs[c]? =some id) (h0:id≠0) (hD:fI aA xs.length (bP xs).length D):dV aA xs c=if aV D c (aO xs)<0 then none else some (pD aA xs.length (aV D) (c,aO xs) (aV D c (aO xs)).toNat):=by
 obtain⟨a,b⟩:=aLq h hc h0 hD;unfold dV;by_cases h1:0≤aV D c (aO xs)
 ·rw[if_neg (by have:=a.1 h1;omega),if_neg (by omega),(b h1).2]
 rw[if_pos (by have:=fun x=>h1 (a.2 x);omega),if_pos (by omega)]
theorem qH (h:aN aA aB xs=true)(hc:xs[c]? =some id) (h0:id≠0):(dV aA xs c=none↔bP xs= []∧c≠0)∧ ∀l,dV aA xs c=some l→l.length≤60∧ ∃ys,bA aA aB xs l=(ys,l.length)∧aN aA aB ys=true∧ys.length=xs.length∧ys[0]? =some id:=by
 obtain⟨b1,b2,b3,b4,b5,b6,b7⟩:=cE (cS h);have hE:=mH (aA:=aA) (many:=(bP xs).length) b6;obtain⟨n1,n2,n3⟩:=uW h hc h0 hE;have e:ddH aA xs c (aO xs)=aV (hU aA xs.length (bP xs).length) c (aO xs):=rfl;constructor
 ·unfold dV;rw[e];constructor
  ·intro hn;by_cases hf:bP xs= []
   ·refine⟨hf,fun hc0=> ?_⟩;rw[n2 hc0]at hn;simp at hn
   rw[if_neg (by have:=(n1 hf).1;omega)]at hn;cases hn
  rintro⟨hf,hc0⟩;rw[if_pos (n3 hf hc0)]
 intro l hl;unfold dV at hl;rw[e]at hl;by_cases h1:aV (hU aA xs.length (bP xs).length) c (aO xs)<0
 ·rw[if_pos h1]at hl;cases hl
 rw[if_neg h1]at hl;injection hl with hl;obtain⟨d,hd⟩:=aS9 (show 0≤aV (hU aA xs.length (bP xs).length) c (aO xs) by omega);have a:l.length=d:=by rw[←hl,pH,hd];rfl
 have b:d≤60:=by
  by_cases hf:bP xs= []
  ·by_cases hc0:c=0
   ·have:=n2 hc0;omega
   exact absurd (n3 hf hc0) h1
  have:=(n1 hf).2;omega
 refine⟨by omega,?_⟩;obtain⟨ys,w1,w2,w3,w4,w5⟩:=aLt h hc h0 hE hd d (aRg _);have hz:=(aO3 b5 b6 hE (lL hc h0) hd (aRg d)).2 rfl;rw[hz]at w5;refine⟨ys,?_,w2,w3,w5⟩;rw[a,←w1,←hl,hd];rfl
end
def mW (aA aB:Int)(xs:List Int)(id:Int):Option (List Int×Nat):=
 if id<1∨id∉xs then none else(dV aA xs (rH xs id).toNat).map (fun l=>((bA aA aB xs l).1.set 0 0,l.length))
/-! the other search: its states, coded by 2^n -/
def fC (n:Nat)(s:Nat×Nat):Nat:=s.1*2 ^ n+s.2
def ddM (n:Nat)(dd:Nat→Nat→Int)(v:Nat):Int:=dd (v/2 ^ n) (v%2 ^ n)
theorem lB {n:Nat}{s:Nat×Nat}(h:s.2<2 ^ n):fC n s/2 ^ n=s.1∧fC n s%2 ^ n=s.2:=⟨mI h,iI h⟩
theorem yW {n:Nat}{dd:Nat→Nat→Int}{s:Nat×Nat}(h:s.2<2 ^ n):ddM n dd (fC n s)=dd s.1 s.2:=by obtain⟨a,b⟩:=lB h;unfold ddM;rw[a,b]
section
variable {aA:Int} {n many:Nat} {D:List Int}
theorem aLl {s:Nat×Nat}(h:s.2<2 ^ n):oT aA n (2 ^ n) (fC n s)=(eR aA n s.2).map (fun e=>fC n (kG s e)):=by obtain⟨a,b⟩:=lB h;unfold oT;rw[a,b];rfl
theorem tQ {s:Nat×Nat}(h1:s.1<n)(h2:s.2<2 ^ n):fC n s<n*2 ^ n:=by unfold fC;have:(s.1+1)*2 ^ n≤n*2 ^ n:=aT5 _ h1;rw[aTn]at this;omega
theorem yQ (c:4≤n)(hn:n≤12)(hD:fI aA n many D){s:Nat×Nat}(h:pG n many s){d:Nat}(hd:aV D s.1 s.2=d):
  oV (oT aA n (2 ^ n)) (ddM n (aV D)) (fun j=>fC n (gP aA n (aV D) s j)) d (fC n s):=by
 refine⟨rfl,fun j hj=> ?_,fun j hj=> ?_⟩
 ·obtain⟨a,b⟩:=jZ c hn hD h hd j hj;show ddM n (aV D) (fC n (gP aA n (aV D) s j))=_;rw[yW a.set,b]
 obtain⟨a,b⟩:=jZ c hn hD h hd j (by omega);obtain⟨e1,e2,e3⟩:=kZ c hn hD h hd hj;rw[aLl a.set,yW a.set,e3];rw[List.find?_map];have f:(eR aA n (gP aA n (aV D) s j).2).find? ((fun v=>decide (ddM n (aV D) v=aV D (gP aA n (aV D) s j).1 (gP aA n (aV D) s j).2-1))∘fun e=>fC n (kG (gP aA n (aV D) s j) e))=mO aA n (aV D) (gP aA n (aV D) s j):=by
  unfold mO;have k2: ∀l:List (Nat×Nat),(∀e∈l,e∈eR aA n (gP aA n (aV D) s j).2)→l.find? ((fun v=>decide (ddM n (aV D) v=aV D (gP aA n (aV D) s j).1 (gP aA n (aV D) s j).2-1))∘fun e=>fC n (kG (gP aA n (aV D) s j) e))=l.find? (fun e=>decide (aV D (dS (gP aA n (aV D) s j).1 e.1 e.2) (dB (gP aA n (aV D) s j).2 e.1 e.2)=aV D (gP aA n (aV D) s j).1 (gP aA n (aV D) s j).2-1)):=by
   intro l;induction l with
   |nil=>intro _;rw[List.find?_nil,List.find?_nil]
   |cons e l ih=>intro hl;rw[List.find?_cons,List.find?_cons,ih (fun x hx=>hl x (by simp[hx]))];have hp:=(aC1 hn a (hl e (by simp))).2;have:ddM n (aV D) (fC n (kG (gP aA n (aV D) s j) e))=aV D (dS (gP aA n (aV D) s j).1 e.1 e.2) (dB (gP aA n (aV D) s j).2 e.1 e.2):=yW hp.set;simp only[Function.comp_apply,this]
  exact k2 _ (fun e he=>he)
 rw[f,e1];rfl
theorem tK (e:4≤n)(hn:n≤12)(hD:fI aA n many D):aFq (oT aA n (2 ^ n)) (ddM n (aV D)) (n*2 ^ n):=by
 have c:0<2 ^ n:=aTq n;have bd: ∀u v,u<n*2 ^ n→v∈oT aA n (2 ^ n) u→v/2 ^ n<n∧v%2 ^ n<2 ^ n:=fun u v hu hv=>aIy (aRg _) ((Nat.div_lt_iff_lt_mul c).2 hu) (Nat.mod_lt _ c) (qI.1 hv)
 refine⟨fun u v hu hv h0=> ?_,fun u v hu hv=> ?_⟩
 ·obtain⟨f,t,h1,h2,h3,h4,h5,h6,h7,h8⟩:=lS (aRg _) (Nat.mod_lt u c) (qI.1 hv);have hc:=(Nat.div_lt_iff_lt_mul c).2 hu;have hS:=Nat.mod_lt u c;have g:u/2 ^ n*MM+u%2 ^ n<NN:=by
   have:=iW hn;show u/2 ^ n*4096+u%2 ^ n<49152;have h4:(MM:Nat)=4096:=rfl;omega
  obtain⟨k,hk⟩:=aS9 h0;obtain⟨u1,u2⟩:=aJ0 e hn hD k _ g hk;have d:u%2 ^ n<MM:=aRf hS (iW hn);have hE:sG aA n MM (u/2 ^ n*MM+u%2 ^ n) (v/2 ^ n*MM+v%2 ^ n):=⟨f,t,h1,h2,h3,by rw[iI d];exact h4,by rw[iI d];exact h5,by rw[mI d,iI d,h6,h7];rfl⟩
  obtain⟨a,b⟩:=aBb e hn hD u1 hE;exact⟨a.1 h0,(b h0).1⟩
 obtain⟨a,b⟩:=bd u v hu hv;have:=tQ (s:=(v/2 ^ n,v%2 ^ n)) a b;unfold fC at this;rw[Nat.mul_comm (v/2 ^ n),aTl]at this;exact this
theorem aOl (b:4≤n)(hn:n≤12)(hD:fI aA n many D){v:Nat}(hv:v<n*2 ^ n)(a:aA9 n (2 ^ n) v)(hm:iD (v%2 ^ n)=many):ddM n (aV D) v=0↔v/2 ^ n=0:=by
 have hp:pG n many (v/2 ^ n,v%2 ^ n):=⟨a.car,a.set,a.occ,hm⟩
 obtain⟨k1,k2,k3⟩:=oH hn hp;have hz:=hD.zero _ (pN hn k1);have e:ddM n (aV D) v=D.getD ((v/2 ^ n)*MM+v%2 ^ n) 0:=rfl;rw[e];constructor
 ·intro h;have h1:=(jV.1 (hz.1 h)).1;have h2:=Nat.div_eq_of_lt (aRf h1 (iW hn));rwa[k2]at h2
 intro h;refine hz.2 (jV.2 ?_);dsimp only;rw[h,Nat.zero_mul,aSq];have:=a.occ;rw[h]at this;exact⟨a.set,this,hm⟩
theorem walk_ok (hn:n≤12){s:Nat×Nat}(h:pG n many s): ∀(k v:Nat),pC (oT aA n (2 ^ n)) [fC n s] k v→aA9 n (2 ^ n) v∧iD (v%2 ^ n)=many:=by
 intro k;induction k with
 |zero=>
  intro v hv;have:v=fC n s:=by simpa[pC]using hv
  subst this;obtain⟨a,b⟩:=lB (n:=n) h.set;exact⟨⟨by rw[a];exact h.car,by rw[b];exact h.set,by rw[a,b];exact h.occ⟩,by rw[b];exact h.many⟩
 |succ k ih=>rintro v ⟨u,hu,hv⟩;obtain⟨a,b⟩:=ih u hu;exact⟨tM (aRg _) a (qI.1 hv),by rw[rB (aRg _) a.set (qI.1 hv)];exact b⟩
end
end
section
open Go.RowKit Go.Proofs.Tryz
theorem aHc (S:Nat)(w:World)(hS:S≤1099511627776):U 182 #[S] w fun e w'=>e= .returned (I (iD S))∧w=w':=by
 go_enter func182,ntmps182;go_wp2;go_loopw [0,3] (fun v i wr=> ∃(T c:Nat),v=I T∧i=I c∧c+iD T=iD S∧T≤S∧c+T≤2*S∧w=wr) (fun v _ _=>(intOf v).toNat)
 case atStart=>exact⟨S,0,rfl,rfl,by omega,aRg _,by omega,rfl⟩
 case round=>
  obtain⟨T,c,rfl,rfl,h1,h2,h3,rfl⟩:=hrel;by_cases h0:0<T
  ·have t1:(T:Int).tmod 2=((T%2:Nat):Int):=rfl;have t2:(T:Int).tdiv 2=((T/2:Nat):Int):=rfl;have hp:=sU T;have hw:IntKind.i64.wrap ((c:Int)+((T%2:Nat):Int))=(c:Int)+((T%2:Nat):Int):=aRj _ (by omega);have HP:=xQ hp;have H1:=xQ h1;clear hp h1;go_wp2;go_roundw
   case rel=>exact⟨T/2,c+T%2,by first|rfl|go_num,by first|rfl|go_num,by have:=HP.out;have:=H1.out;omega,by omega,by omega,by trivial⟩
   case measure=>simp[intOf];omega
  have hc:Hid (c=iD S):=by show _=_;rw[←h1,show T=0 by omega];simp[iD]
  clear h1;go_wp2;go_ret;exact⟨by rw[hc.out];rfl,rfl⟩
def aIt (fr:List Nat):Nat:=fr.foldl (fun a f=>a+2 ^ f) 0
theorem aPp: ∀(l:List Nat) (a:Nat),(∀f∈l,f<12)→l.foldl (fun a f=>a+2 ^ f) a≤a+l.length*4096:=by
 intro l;induction l with
 |nil=>intro a _;simp
 |cons f l ih=>intro a h;have h1:=ih (a+2 ^ f) (fun x hx=>h x (by simp[hx]));have h2:2 ^ f≤4096:=aRp (aRs (by omega) (show f≤11 by have:=h f (by simp);omega)) (by decide);rw[List.foldl_cons,aSr,aTn];omega
theorem aPq {fr:List Nat}(h: ∀f∈fr,f<12)(k:Nat):(fr.take k).foldl (fun a f=>a+2 ^ f) 0≤k*4096:=by
 have h1:=aPp (fr.take k) 0 (fun f hf=>h f (aSz hf));have h2:(fr.take k).length≤k:=by rw[aS7];omega
 omega
theorem aO8 (xs:List Int):aIt (bP xs)=aO xs:=by
 unfold aIt bP aO;generalize xs.length=k;induction k with
 |zero=>rfl
 |succ k ih=>rw[aT2,aSd,List.foldl_append,ih,show jR (cW xs) (k+1)=jR (cW xs) k+(if cW xs k then 2 ^ k else 0)from rfl];cases h:cW xs k<;>simp[h]
theorem aGg (aA aB:Int)(p:OA)(n b:Nat)(fr:List Nat)(F:Nat)(w:World)(hF:Hid (fr.length=F))(l:F≤12)(g:Hid (∀x∈fr,x<12))
  (HF:xC 147 #[aH aA aB p n b] w fun w' e w''=> ∃q c,e= .returned (.slice q F c)∧w''.ownsRow w' TI 1 (.slice q F c) F (ivs (bF fr))∧Ext w' w''):
  U 145 #[aH aA aB p n b] w (O (I (aIt fr)) w):=by
 go_enter func145,ntmps145;go_wp2_with fail;refine(HF _ ((Mem.start w).c0 TH3 #[aA,aB,.slice p n b]).ext).mono ?_;rintro e w1 ⟨q1,c1,rfl,h,j⟩;have M1:=(((Mem.start w).c0 TH3 #[aA,aB,.slice p n b]).call j h)
 clear j h;go_wp2;go_loopw [3,5] (fun v i wr=> ∃(k T:Nat),k≤F∧i=I k∧v=I T∧T=(fr.take k).foldl (fun a f=>a+2 ^ f) 0∧w1=wr) (fun _ i _=>F-(intOf i).toNat)
 case atStart=>exact⟨0,0,aRo _,rfl,rfl,rfl,rfl⟩
 case round=>
  obtain⟨k,T,hk,rfl,rfl,hT,rfl⟩:=hrel;have HT:=xQ hT
  have o:T≤12*4096:=by have:=aPq g.out k;rw[hT];have:k≤12:=by omega
                       omega
  clear hT;by_cases hlt:k<F
  ·obtain⟨f,hf⟩: ∃f,fr[k]? =some f:=⟨_,aRh (by rw[hF.out];exact hlt)⟩
   have t:f<12:=g.out f (aRi hf);obtain⟨gf,rfl,r,s⟩:=M1.so 0;have cu:w1.cell? ⟨gf,k,none⟩=some (I f):=by have:=(M1.ow 0).cellAt k (by omega);rw[this];simp[ivs,bF,hf]
   have hn:=xQ (show(fr.take (k+1)).foldl (fun a f=>a+2 ^ f) 0=T+2 ^ f by rw[aX hf,List.foldl_append,←HT.out];rfl);clear hf;have i1:(0:Int)≤(k:Int):=by omega
   have i2:(k:Int)<(F:Int):=by omega
   obtain⟨P,hP⟩: ∃P:Nat,P=2 ^ f:=⟨_,rfl⟩
   have m:P≤2048:=by rw[hP];exact aRp (aRs (by omega) (show f≤11 by omega)) (by decide)
   have u:(2:Int) ^ f=(P:Int):=by rw[hP];simp
   have y:IntKind.i64.wrap (P:Int)=(P:Int):=aRj _ (by omega);have z:IntKind.i64.wrap ((T:Int)+(P:Int))=(T:Int)+(P:Int):=aRj _ (by omega);rw[←hP]at hn;clear hP;go_wp2;go_roundw
   case rel=>exact⟨k+1,T+P,by omega,by go_num,by first|rfl|go_num,hn.out.symm,by trivial⟩
   case measure=>simp[intOf];omega
  obtain rfl:F=k:=by omega
  have d:Hid ((T:Int)=((aIt fr:Nat):Int)):=by show _=_;rw[HT.out,aRn (by rw[hF.out];omega)];rfl
  go_wp2;go_ret;exact⟨by rw[d.out];rfl,M1.ext⟩
theorem tI (aA aB:Int)(p:OA)(n a:Nat)(xs:List Int)(w:World)(hS:Sl w p n a 1 (ivs xs))(b:aN aA aB xs=true):
  U 147 #[aH aA aB p n a] w fun e w'=> ∃q c,e= .returned (.slice q (bP xs).length c)∧w'.ownsRow w TI 1 (.slice q (bP xs).length c) (bP xs).length (ivs (bF (bP xs)))∧Ext w w':=by
 have:=aGc aA aB p n a xs w hS;rw[b,if_pos rfl,yR]at this;refine this.mono fun e w'' h=> ?_
 obtain⟨q,c,h1,h2,h3⟩:=h;rw[aSc]at h1 h2;exact⟨q,c,h1,h2,h3⟩
theorem aO7 {aA aB:Int}{xs:List Int}(a:aN aA aB xs=true):(bP xs).length≤12:=by obtain⟨g1,g2,g3,g4,g5,g6,g7⟩:=cE (cS a);unfold bP;exact aRp (aSl _ _) (by simp;omega)
theorem xZ (aA aB:Int)(p:OA)(n a:Nat)(xs:List Int)(w:World)(hS:Sl w p n a 1 (ivs xs))(b:aN aA aB xs=true):
  U 145 #[aH aA aB p n a] w (O (I (aO xs)) w):=by
 have hl:=hS.ilen;obtain⟨g1,g2,g3,g4,g5,g6,g7⟩:=cE (cS b);rw[←aO8];exact aGg aA aB p n a (bP xs) _ w rfl (aO7 b) (fun x hx=>by have:=(kQ hx).1;omega) (fun w' hy=>tI aA aB p n a xs w' (hS.ext hy) b)
end
end Go.Proofs.YtomgkjinhnkpnaaGreatDoor
