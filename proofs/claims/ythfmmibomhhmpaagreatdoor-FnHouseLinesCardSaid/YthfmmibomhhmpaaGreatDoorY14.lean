/-
  Texts of this proof, packed (@packed).
-/
import Derived.Test.YthfmmibomhhmpaaGreatDoorY13
namespace Go.Proofs.YthfmmibomhhmpaaGreatDoor
set_option linter.unusedSimpArgs false
set_option linter.unusedVariables false
set_option maxHeartbeats 8000000
set_option maxRecDepth 100000
section
open Go.RowKit
theorem aQm (m:Nat→Bool)(f k:Nat):lK m f k=((List.range k).filter m).map (fun(t:Nat)=>((f:Int),(t:Int))):=by
 induction k with
 |zero=>rfl
 |succ k ih=>rw[aUt,aU2,aUj,show lK m f (k+1)=lK m f k++(if m k then [((f:Int),(k:Int))]else [])from rfl,ih];cases h:m k<;>simp[h]
theorem aO1 (m:Nat→Nat→Bool)(n k:Nat):eF m n k=(List.range k).flatMap (fun f=>((List.range n).filter (m f)).map (fun(t:Nat)=>((f:Int),(t:Int)))):=by
 induction k with
 |zero=>rfl
 |succ k ih=>rw[aUt,aTz,show eF m n (k+1)=eF m n k++lK (m k) k n from rfl,ih,aQm];simp
theorem gS {xs:List Int}{k:Nat}(hk:k<xs.length):dC xs k=decide (xs.getD k 0=0):=by unfold dC;rw[aTb,aT6 hk];simp;rfl
theorem aF7 {aA aB:Int}{xs:List Int}(h:aN aA aB xs=true){f t:Nat}(hf:f<xs.length)(ht:t<xs.length):
  bH aA aB xs (f:Int) (t:Int)=(!(aO xs).testBit f&&(decide (t∈aU aA xs.length f)&&(aO xs).testBit t)):=by
 have h1:dS aA aB xs (f:Int) (t:Int)=aZ aA f t:=by unfold dS;rw[if_pos ⟨h,⟨by omega,by omega⟩,by omega,by omega⟩]
 have h2:=qP h f;unfold bH;rw[h1,fC,fC,gS hf,gS ht];simp only[aUz];have h3:decide (t∈aU aA xs.length f)=decide (aZ aA f t=1):=by
  have:t∈aU aA xs.length f↔aZ aA f t=1:=by rw[bZ];exact⟨fun h=>h.2,fun h=>⟨ht,h⟩⟩
  simp[this]
 have h4:decide (0<xs.getD f 0)= !decide (xs.getD f 0=0):=by
  by_cases h0:xs.getD f 0=0
  ·rw[h0];rfl
  have:0<xs.getD f 0:=by omega
  simp only[h0,this];rfl
 rw[h3,h4];cases decide (aZ aA f t=1)<;>cases decide (xs.getD f 0=0)<;>rfl
theorem aCq {aA aB:Int}{xs:List Int}(h:aN aA aB xs=true):iV aA aB xs=(eV aA xs.length (aO xs)).map (fun e=>((e.1:Int),(e.2:Int))):=by
 unfold iV eV;rw[aO1,List.map_flatMap];have b: ∀l:List Nat,(∀f∈l,f<xs.length)→l.flatMap (fun(f:Nat)=>((List.range xs.length).filter (fun(t:Nat)=>bH aA aB xs f t)).map (fun(t:Nat)=>((f:Int),(t:Int))))=l.flatMap (fun a=>(if(aO xs).testBit a then []else((aU aA xs.length a).filter (fun t=>(aO xs).testBit t)).map (fun t=>(a,t))).map (fun e=>((e.1:Int),(e.2:Int)))):=by
  intro l;induction l with
  |nil=>intro _;rfl
  |cons f l ih=>
   intro hl;have hf:=hl f (by simp);rw[aUc,aUc,ih (fun x hx=>hl x (by simp[hx]))];congr 1
   have e1:(List.range xs.length).filter (fun(t:Nat)=>bH aA aB xs f t)=(List.range xs.length).filter (fun(t:Nat)=>(!(aO xs).testBit f&&(decide (t∈aU aA xs.length f)&&(aO xs).testBit t))):=
    List.filter_congr (fun t ht=>aF7 h hf (aTq.1 ht))
   rw[e1];cases hb:(aO xs).testBit f with
   |true=>simp
   |false=>
    simp only[Bool.not_false,Bool.true_and,Bool.false_eq_true,if_false,List.map_map];have e2:(List.range xs.length).filter (fun(t:Nat)=>decide (t∈aU aA xs.length f)&&(aO xs).testBit t)=(aU aA xs.length f).filter (fun t=>(aO xs).testBit t):=by
     have:aU aA xs.length f=(List.range xs.length).filter (fun t=>decide (t∈aU aA xs.length f)):=by
      conv=>lhs;unfold aU
      refine List.filter_congr (fun t ht=> ?_);have:t∈aU aA xs.length f↔aZ aA f t=1:=by rw[bZ];exact⟨fun h=>h.2,fun h=>⟨aTq.1 ht,h⟩⟩
      simp[this]
     conv=>rhs;rw[this]
     rw[List.filter_filter];refine List.filter_congr (fun t _=> ?_);rw[Bool.and_comm]
    rw[e2];rfl
 exact b _ (fun f hf=>aTq.1 hf)
theorem vV {aA aB:Int}{xs:List Int}(h:aN aA aB xs=true){f t:Nat}(he:(f,t)∈eV aA xs.length (aO xs)):
  bH aA aB xs (f:Int) (t:Int)=true∧bL aA aB xs (f:Int) (t:Int)=(xs.set t (xs.getD f 0)).set f 0∧aO (bL aA aB xs (f:Int) (t:Int))=dH (aO xs) f t∧ ∀c id,xs[c]? =some id→id≠0→(bL aA aB xs (f:Int) (t:Int))[eB c f t]? =some id:=by
 obtain⟨h1,h2,h3,h4,h5⟩:=fX.1 he;dsimp only at h1 h2 h3 h4 h5;have hm:bH aA aB xs (f:Int) (t:Int)=true:=by rw[aF7 h h1 h2,h4,h5];simp[h3]
 have hd:bL aA aB xs (f:Int) (t:Int)=(xs.set t (xs.getD f 0)).set f 0:=by unfold bL;rw[if_pos hm];simp only[aUz]
 have j:f≠t:=fun e=>by subst e;rw[h5]at h4;cases h4
 have b:xs.getD f 0≠0:=by intro e;rw[fC,gS h1,e]at h4;simp at h4
 refine⟨hm,hd,?_,?_⟩
 ·refine aK4 fun k=> ?_
  rw[fG h5 h4,fC,fC,hd];by_cases hk:k<xs.length
  ·rw[gS (by simpa using hk),gS hk];by_cases k1:k=f
   ·subst k1;rw[aTb,aTh (by simpa using hk)];simp
   by_cases k2:k=t
   ·subst k2;rw[aTb,aV2 (Ne.symm k1),aTh hk];have e:(some (xs.getD f 0)).getD 0=xs.getD f 0:=rfl;rw[e];have d: ¬xs[f]?.getD 0=0:=by rw[←aTb];exact b
    simp[d,k1]
   rw[aTb,aV2 (Ne.symm k1),aV2 (Ne.symm k2),←aTb];simp[k1,k2]
  have e1:dC ((xs.set t (xs.getD f 0)).set f 0) k=false:=by unfold dC;rw[aUn (by simp;omega)];rfl
  have e2:dC xs k=false:=by unfold dC;rw[aUn (by omega)];rfl
  rw[e1,e2];have:k≠f:=by omega
  simp[this]
 intro c id hc h0;rw[hd];obtain⟨i,g⟩:=aT9.1 hc;unfold eB;by_cases hcf:f=c
 ·rw[if_pos hcf,aV2 (by omega),aTh h2,hcf,aTb,hc];rfl
 rw[if_neg hcf];have a:t≠c:=by rintro rfl;rw[fC,gS h2,aTb,hc]at h5;simp at h5;exact h0 h5
 rw[aV2 hcf,aV2 a,hc]
def nD (aA:Int)(n:Nat)(dd:Nat→Nat→Int)(s:Nat×Nat):Option (Nat×Nat):=(eV aA n s.2).find? (fun e=>decide (dd (eB s.1 e.1 e.2) (dH s.2 e.1 e.2)=dd s.1 s.2-1))
def kQ (s e:Nat×Nat):Nat×Nat:=(eB s.1 e.1 e.2,dH s.2 e.1 e.2)
def gP (aA:Int)(n:Nat)(dd:Nat→Nat→Int)(s:Nat×Nat):Nat→Nat×Nat
 |0=>s
 |j+1=>match nD aA n dd (gP aA n dd s j)with
  |none=>gP aA n dd s j
  |some e=>kQ (gP aA n dd s j) e
def iH (aA:Int)(n:Nat)(dd:Nat→Nat→Int)(s:Nat×Nat)(j:Nat):Nat×Nat:=(nD aA n dd (gP aA n dd s j)).getD (0,0)
def aY (D:List Int)(c S:Nat):Int:=D.getD (c*MM+S) 0
structure pW (n many:Nat) (s:Nat×Nat):Prop where
 car:s.1<n
 set:s.2<2 ^ n
 occ:s.2.testBit s.1=false
 many:iN s.2=many
section
variable {aA:Int} {n many:Nat} {D:List Int}
theorem oX (hn:n≤12){s:Nat×Nat}(h:pW n many s):aAw n MM (s.1*MM+s.2)∧(s.1*MM+s.2)/MM=s.1∧(s.1*MM+s.2)%MM=s.2:=by have hl:s.2<MM:=aT4 h.set (jF hn);have e1:(s.1*MM+s.2)/MM=s.1:=mW hl;have e2:(s.1*MM+s.2)%MM=s.2:=iR hl;exact⟨⟨by rw[e1];exact h.car,by rw[e2];exact h.set,by rw[e1,e2];exact h.occ⟩,e1,e2⟩
theorem aCv (hn:n≤12){s e:Nat×Nat}(h:pW n many s)(he:e∈eV aA n s.2):tB aA n MM (s.1*MM+s.2) ((kQ s e).1*MM+(kQ s e).2)∧pW n many (kQ s e):=by
 obtain⟨h1,h2,h3,h4,h5⟩:=fX.1 he;obtain⟨a,b,c⟩:=oX hn h;have hE:tB aA n MM (s.1*MM+s.2) ((kQ s e).1*MM+(kQ s e).2):=⟨e.1,e.2,h1,h2,h3,by rw[c];exact h4,by rw[c];exact h5,by rw[b,c];rfl⟩
 have hl:=tR h.set h1 h5 h4;have k:=uI (jF hn) a hE;have k2:=rT (jF hn) a.set hE;have d:(kQ s e).2<MM:=aT4 hl (jF hn);have e1:=k.car;have e2:=k.set;have e3:=k.occ;rw[mW d]at e1;rw[iR d]at e2;rw[mW d,iR d]at e3;rw[iR d,c,h.many]at k2;exact⟨hE,e1,e2,e3,k2⟩
theorem vF (g:4≤n)(hn:n≤12)(hD:fO aA n many D){s:Nat×Nat}(h:pW n many s)(h0:0<aY D s.1 s.2): ∃e,nD aA n (aY D) s=some e∧e∈eV aA n s.2∧aY D (kQ s e).1 (kQ s e).2=aY D s.1 s.2-1∧pW n many (kQ s e):=by
 obtain⟨a,b,c⟩:=oX hn h;obtain⟨u,hu,hm,hd⟩:=hD.back _ (qI hn a) h0;have d:D.getD (s.1*MM+s.2) 0=aY D s.1 s.2:=rfl;obtain⟨k,hk⟩:=aTw (show 0≤D.getD u 0 by rw[hd,d];omega);obtain⟨u1,u2⟩:=aK1 g hn hD k u hu hk;obtain⟨f,t,h1,h2,h3,h4,h5,h6⟩:=aBt (jF hn) u1 (oL.1 hm);rw[b,c]at h6;rw[c]at h4 h5;have he:(f,t)∈eV aA n s.2:=fX.2 ⟨h1,h2,h3,h4,h5⟩;have hp:(fun e:Nat×Nat=>decide (aY D (eB s.1 e.1 e.2) (dH s.2 e.1 e.2)=aY D s.1 s.2-1)) (f,t)=true:=by simp only[decide_eq_true_eq];show D.getD (iE MM s.1 s.2 f t) 0=_;rw[←h6,hd,d]
 cases hf:nD aA n (aY D) s with
 |none=>unfold nD at hf;have:=List.find?_eq_none.1 hf _ he;exact absurd hp this
 |some e=>unfold nD at hf;have h7:=List.find?_some hf;have h8:=aUa hf;simp only[decide_eq_true_eq]at h7;exact⟨e,rfl,h8,h7,(aCv hn h h8).2⟩
theorem aJt {dd:Nat→Nat→Int}{s:Nat×Nat}{j:Nat}{e:Nat×Nat}(h:nD aA n dd (gP aA n dd s j)=some e):gP aA n dd s (j+1)=kQ (gP aA n dd s j) e:=by rw[gP,h]
theorem kL (c:4≤n)(hn:n≤12)(hD:fO aA n many D){s:Nat×Nat}(h:pW n many s){d:Nat}(hd:aY D s.1 s.2=d): ∀j,j≤d→pW n many (gP aA n (aY D) s j)∧aY D (gP aA n (aY D) s j).1 (gP aA n (aY D) s j).2=(d:Int)-j:=by
 intro j;induction j with
 |zero=>intro _;exact⟨h,by show aY D s.1 s.2=_;rw[hd];simp⟩
 |succ j ih=>intro hj;obtain⟨a,b⟩:=ih (by omega);obtain⟨e,h1,h2,h3,h4⟩:=vF c hn hD a (by rw[b];omega);rw[aJt h1];exact⟨h4,by rw[h3,b];omega⟩
theorem lQ (c:4≤n)(hn:n≤12)(hD:fO aA n many D){s:Nat×Nat}(h:pW n many s){d:Nat}(hd:aY D s.1 s.2=d){j:Nat}(hj:j<d):nD aA n (aY D) (gP aA n (aY D) s j)=some (iH aA n (aY D) s j)∧iH aA n (aY D) s j∈eV aA n (gP aA n (aY D) s j).2∧gP aA n (aY D) s (j+1)=kQ (gP aA n (aY D) s j) (iH aA n (aY D) s j):=by
 obtain⟨a,b⟩:=kL c hn hD h hd j (by omega);obtain⟨e,h1,h2,h3,h4⟩:=vF c hn hD a (by rw[b];omega);have he:iH aA n (aY D) s j=e:=by unfold iH;rw[h1];rfl
 rw[he];exact⟨h1,h2,aJt h1⟩
theorem aPd (c:4≤n)(hn:n≤12)(hD:fO aA n many D){s:Nat×Nat}(h:pW n many s){d:Nat}(hd:aY D s.1 s.2=d){j:Nat}(hj:j≤d):(gP aA n (aY D) s j).1=0↔j=d:=by
 obtain⟨a,b⟩:=kL c hn hD h hd j hj;obtain⟨k1,k2,k3⟩:=oX hn a;have hz:=hD.zero _ (qI hn k1);have hb:D.getD ((gP aA n (aY D) s j).1*MM+(gP aA n (aY D) s j).2) 0=(d:Int)-j:=b;rw[hb,kG]at hz;constructor
 ·intro h0
  have:=hz.2 (by
   rw[h0,Nat.zero_mul,aUf]
   exact⟨a.set,by have:=a.occ;rw[h0]at this;exact this,a.many⟩)
  omega
 intro e;have h1:=(hz.1 (by omega)).1;have hp:=jF hn;have h2:=Nat.div_eq_of_lt (aT4 h1 hp);rw[k2]at h2;exact h2
theorem aBb (g:4≤n)(hn:n≤12){E:List Int}(hD:fO aA n many D)(hE:fO aA n many E){s:Nat×Nat}(h:pW n many s)(h0:0<aY D s.1 s.2):nD aA n (aY D) s=nD aA n (aY E) s:=by
 unfold nD;have c: ∀s:Nat×Nat,pW n many s→(0≤aY D s.1 s.2↔0≤aY E s.1 s.2)∧(0≤aY D s.1 s.2→aY D s.1 s.2=aY E s.1 s.2):=fun s hs=>aBy hD hE (qI hn (oX hn hs).1)
 have h1:=(c s h).2 (by omega);have d: ∀l:List (Nat×Nat),(∀e∈l,e∈eV aA n s.2)→l.find? (fun e=>decide (aY D (eB s.1 e.1 e.2) (dH s.2 e.1 e.2)=aY D s.1 s.2-1))=l.find? (fun e=>decide (aY E (eB s.1 e.1 e.2) (dH s.2 e.1 e.2)=aY E s.1 s.2-1)):=by
  intro l;induction l with
  |nil=>intro _;rfl
  |cons e l ih=>
   intro hl;have hp:=(aCv hn h (hl e (by simp))).2;obtain⟨a,b⟩:=c _ hp;have hh:decide (aY D (eB s.1 e.1 e.2) (dH s.2 e.1 e.2)=aY D s.1 s.2-1)=decide (aY E (eB s.1 e.1 e.2) (dH s.2 e.1 e.2)=aY E s.1 s.2-1):=by
    have a':0≤aY D (eB s.1 e.1 e.2) (dH s.2 e.1 e.2)↔0≤aY E (eB s.1 e.1 e.2) (dH s.2 e.1 e.2):=a;have b':0≤aY D (eB s.1 e.1 e.2) (dH s.2 e.1 e.2)→aY D (eB s.1 e.1 e.2) (dH s.2 e.1 e.2)=aY E (eB s.1 e.1 e.2) (dH s.2 e.1 e.2):=b;rw[←h1];by_cases hc:0≤aY D (eB s.1 e.1 e.2) (dH s.2 e.1 e.2)
    ·rw[b' hc]
    have f: ¬0≤aY E (eB s.1 e.1 e.2) (dH s.2 e.1 e.2):=fun x=>hc (a'.2 x)
    have d1: ¬(aY D (eB s.1 e.1 e.2) (dH s.2 e.1 e.2)=aY D s.1 s.2-1):=by omega
    have d2: ¬(aY E (eB s.1 e.1 e.2) (dH s.2 e.1 e.2)=aY D s.1 s.2-1):=by omega
    simp only[d1,d2]
   rw[List.find?_cons,List.find?_cons,hh,ih (fun x hx=>hl x (by simp[hx]))]
 exact d _ (fun e he=>he)
theorem aRa (c:4≤n)(hn:n≤12){E:List Int}(hD:fO aA n many D)(hE:fO aA n many E){s:Nat×Nat}(h:pW n many s){d:Nat}(hd:aY D s.1 s.2=d): ∀j,j≤d→gP aA n (aY D) s j=gP aA n (aY E) s j:=by
 intro j;induction j with
 |zero=>intro _;rfl
 |succ j ih=>intro hj;have e:=ih (by omega);obtain⟨a,b⟩:=kL c hn hD h hd j (by omega);have p:=aBb c hn hD hE a (by rw[b];omega);rw[gP,gP,←e,p]
theorem aJ6 (c:4≤n)(hn:n≤12){E:List Int}(hD:fO aA n many D)(hE:fO aA n many E){s:Nat×Nat}(h:pW n many s){d:Nat}(hd:aY D s.1 s.2=d){j:Nat}(hj:j<d):iH aA n (aY D) s j=iH aA n (aY E) s j:=by obtain⟨a,b⟩:=kL c hn hD h hd j (by omega);unfold iH;rw[←aRa c hn hD hE h hd j (by omega),aBb c hn hD hE a (by rw[b];omega)]
end
end
structure pM (adj:Nat→List Nat) (D:Nat→Int) (g:Nat→Nat) (d start:Nat):Prop where
 zero:g 0=start
 dist: ∀j,j≤d→D (g j)=d-j
 next: ∀j,j<d→(adj (g j)).find? (fun v=>decide (D v=D (g j)-1))=some (g (j+1))
structure aGr (adj:Nat→List Nat) (D:Nat→Int) (N:Nat):Prop where
 edge: ∀u v,u<N→v∈adj u→0≤D u→0≤D v∧D u≤D v+1
 bd: ∀u v,u<N→v∈adj u→v<N
structure Fwd (adj:Nat→List Nat) (D:Nat→Int) (g:Nat→Nat) (d N start k:Nat) (B A:List Int) (Q:List Nat):Prop where
 inv:Inv adj [start] N k (A,Q)
 blen:B.length=N
 bmem: ∀v,v<N→(0≤B.getD v 0↔v∈Q)
 ngoal: ∀(i u:Nat),i<k→Q[i]? =some u→D u≠0
 tri: ∀v∈Q,0≤D v∧(d:Int)≤A.getD v 0+D v
 chain: ∀j:Nat,j<d→g (j+1)∈Q→A.getD (g (j+1)) 0=j+1→B.getD (g (j+1)) 0=g j
 tight: ∀(i v:Nat),Q[i]? =some v→A.getD v 0+D v=d→ ∃i',i'≤i∧Q[i']? =some (g (A.getD v 0).toNat)
structure FMid (adj:Nat→List Nat) (D:Nat→Int) (g:Nat→Nat) (d N start k u:Nat) (ws:List Nat) (A0:List Int) (Q0:List Nat) (B A:List Int) (Q:List Nat):Prop where
 mid:Mid adj [start] N k u ws (A0,Q0) (A,Q)
 blen:B.length=N
 bmem: ∀v,v<N→(0≤B.getD v 0↔v∈Q)
 tri: ∀v∈Q,0≤D v∧(d:Int)≤A.getD v 0+D v
 chain: ∀j:Nat,j<d→g (j+1)∈Q→A.getD (g (j+1)) 0=j+1→B.getD (g (j+1)) 0=g j
 tight: ∀(i v:Nat),Q[i]? =some v→A.getD v 0+D v=d→ ∃i',i'≤i∧Q[i']? =some (g (A.getD v 0).toNat)
theorem FMid.step {adj:Nat→List Nat}{D:Nat→Int}{g:Nat→Nat}{d N c k u w:Nat}{ws af:List Nat}{B0 A0:List Int}{Q0:List Nat}{B A:List Int}{Q:List Nat}
  (hG:pM adj D g d c)(hD:aGr adj D N)(h0:Fwd adj D g d N c k B0 A0 Q0)(hu:Q0[k]? =some u) (h:FMid adj D g d N c k u ws A0 Q0 B A Q) (p:adj u=ws++w::af):
  ∃B' A' Q',eZ (u:Int) (B,Q) w=(B',Q')∧eZ (A0.getD u 0+1) (A,Q) w=(A',Q')∧FMid adj D g d N c k u (ws++ [w]) A0 Q0 B' A' Q':=by
 have o:u∈Q0:=aT7 hu;have s:u<N:=h0.inv.bd u o;have hw:w∈adj u:=by rw[p];simp
 have n:w<N:=hD.bd u w s hw;have q:A0.getD u 0=A.getD u 0:=(h.mid.same u o).symm;have m:=h.mid.step o hw n q;obtain⟨r,hr⟩:=h.mid.pre;dsimp only at hr;have ab:u∈Q:=by rw[hr];exact aU8 _ o
 have y:Q[k]? =some u:=by have hk:k<Q0.length:=(aT9.1 hu).1;rw[hr,aTr hk];exact hu
 have ap:0≤A.getD u 0:=(h.mid.mem u s).2 ab;by_cases hc:w∈Q
 ·have hB: ¬B.getD w 0<0:=by have:=(h.bmem w n).2 hc;omega
  have hA: ¬A.getD w 0<0:=by have:=(h.mid.mem w n).2 hc;dsimp only at this;omega
  refine⟨B,A,Q,by unfold eZ;rw[if_neg hB],by unfold eZ;rw[if_neg hA],?_⟩;have e:eZ (A0.getD u 0+1) (A,Q) w=(A,Q):=by unfold eZ;rw[if_neg hA]
  rw[e]at m;exact⟨m,h.blen,h.bmem,h.tri,h.chain,h.tight⟩
 have hB:B.getD w 0<0:=by
  by_cases hh:B.getD w 0<0
  ·exact hh
  exact absurd ((h.bmem w n).1 (by omega)) hc
 have hA:A.getD w 0<0:=by
  by_cases hh:A.getD w 0<0
  ·exact hh
  exact absurd ((h.mid.mem w n).1 (by dsimp only;omega)) hc
 have aa: ∀v∈Q,w≠v:=fun v hv e=>hc (by rw[e];exact hv)
 refine⟨B.set w u,A.set w (A0.getD u 0+1),Q++ [w],by unfold eZ;rw[if_pos hB],by unfold eZ;rw[if_pos hA],?_⟩;have e:eZ (A0.getD u 0+1) (A,Q) w=(A.set w (A0.getD u 0+1),Q++ [w]):=by unfold eZ;rw[if_pos hA]
 rw[e]at m;have al:w<B.length:=by rw[h.blen];exact n
 have ak:w<A.length:=by have:=h.mid.len;dsimp only at this;omega
 have sB:(B.set w (u:Int)).getD w 0=u:=cP al;have sA:(A.set w (A0.getD u 0+1)).getD w 0=A.getD u 0+1:=by rw[cP ak,q]
 obtain⟨am,aq⟩:=h.tri u ab;obtain⟨e1,e2⟩:=hD.edge u w s hw am
 -- if w is tight, then so is u; and the step that is first is there
 have ae:A.getD u 0+1+D w=d→ ∃i',i'≤k∧Q[i']? =some (g (A.getD u 0).toNat)∧(i'<k→g ((A.getD u 0).toNat+1)∈Q)∧(i'=k→u=g (A.getD u 0).toNat):=by
  intro ht;obtain⟨i',l,hq⟩:=h.tight k u y (by omega);refine⟨i',l,hq,fun hlt=> ?_,fun he=> ?_⟩
  ·have hk:k<Q0.length:=(aT9.1 hu).1;have ai:Q0[i']? =some (g (A.getD u 0).toNat):=by rw[hr,aTr (by omega)]at hq;exact hq
   have f:(A.getD u 0).toNat<d:=by omega
   have z:g ((A.getD u 0).toNat+1)∈adj (g (A.getD u 0).toNat):=aUa (hG.next _ f);have:=(h0.inv.done i' _ hlt ai _ z).1;rw[hr];exact aU8 _ this
  subst he;rw[y]at hq;injection hq
 have first:A.getD u 0+1+D w=d→g ((A.getD u 0).toNat+1)∈Q∨g ((A.getD u 0).toNat+1)=w:=by
  intro ht;obtain⟨i',l,hq,k1,k2⟩:=ae ht;by_cases he:i'=k
  ·have ad:=k2 he;have f:(A.getD u 0).toNat<d:=by omega
   have hn:=hG.next _ f;rw[←ad,p]at hn;have an:D u=d-(A.getD u 0).toNat:=by have:=hG.dist _ (Nat.le_of_lt f);rw[←ad]at this;exact this
   rw[List.find?_append]at hn;cases hf:ws.find? (fun v=>decide (D v=D u-1))with
   |some x=>rw[hf,Option.some_or]at hn;injection hn with hn;left;rw[←hn];exact h.mid.seen x (aUa hf)
   |none=>rw[hf]at hn;right;rw[Option.none_or,List.find?_cons_of_pos (by simp;omega)]at hn;injection hn with hn;exact hn.symm
  exact .inl (k1 (by omega))
 refine⟨m,by simp[h.blen],?_,?_,?_,?_⟩
 ·intro v hv;by_cases ev:w=v
  ·subst ev;rw[sB];exact⟨fun _=>by simp,fun _=>by omega⟩
  rw[bU ev,h.bmem v hv];simp;intro e2;exact absurd e2.symm ev
 ·intro v hv;rcases aTn.1 hv with hv|hv
  ·rw[bU (aa v hv)];exact h.tri v hv
  simp at hv;subst hv;rw[sA];exact⟨e1,by omega⟩
 ·intro j hj hm ha;by_cases ev:w=g (j+1)
  ·rw[←ev]at ha⊢;rw[sA]at ha;rw[sB];have ao:D w=d-(j+1:Nat):=by rw[ev];exact hG.dist (j+1) (by omega)
   have ht:A.getD u 0+1+D w=d:=by omega
   obtain⟨i',l,hq,k1,k2⟩:=ae ht;have t:(A.getD u 0).toNat=j:=by omega
   by_cases he:i'=k
   ·have:=k2 he;rw[t]at this;rw[this]
   have:=k1 (by omega);rw[t,←ev]at this;exact absurd this hc
  rcases aTn.1 hm with hm|hm
  ·rw[bU ev]at ha⊢;exact h.chain j hj hm ha
  simp at hm;exact absurd hm.symm ev
 intro i v hi ht;by_cases hiQ:i<Q.length
 ·rw[aTr hiQ]at hi;have aj:v∈Q:=aT7 hi;rw[bU (aa v aj)]at ht⊢;obtain⟨i',a,b⟩:=h.tight i v hi ht;exact⟨i',a,by rw[aTr (by omega)];exact b⟩
 have ah:i<(Q++ [w]).length:=(aT9.1 hi).1;have ag:i=Q.length:=by simp at ah;omega
 subst ag;simp at hi;subst hi;rw[sA]at ht⊢;have e3:(A.getD u 0+1).toNat=(A.getD u 0).toNat+1:=by omega
 rw[e3];rcases first ht with hm|hm
 ·obtain⟨i',l,ei⟩:=aUe hm;exact⟨i',by omega,by rw[aTr l,aT6 l,ei]⟩
 exact⟨Q.length,aT5 _,by rw[hm,aTy (aT5 _)];simp⟩
theorem Fwd.mid {adj:Nat→List Nat}{D:Nat→Int}{g:Nat→Nat}{d N a k u:Nat}{B A:List Int}{Q:List Nat}(h:Fwd adj D g d N a k B A Q)(hu:Q[k]? =some u):FMid adj D g d N a k u [] A Q B A Q:=
 ⟨h.inv.mid hu,h.blen,h.bmem,h.tri,h.chain,h.tight⟩
theorem FMid.many {adj:Nat→List Nat}{D:Nat→Int}{g:Nat→Nat}{d N a k u:Nat}{B0 A0:List Int}{Q0:List Nat}
  (hG:pM adj D g d a)(hD:aGr adj D N)(h0:Fwd adj D g d N a k B0 A0 Q0)(hu:Q0[k]? =some u):
  ∀(vs ws:List Nat) (B A:List Int) (Q:List Nat),FMid adj D g d N a k u ws A0 Q0 B A Q→adj u=ws++vs→(bS (A0.getD u 0+1) (A,Q) vs).2=(bS (u:Int) (B,Q) vs).2∧FMid adj D g d N a k u (ws++vs) A0 Q0 (bS (u:Int) (B,Q) vs).1 (bS (A0.getD u 0+1) (A,Q) vs).1 (bS (u:Int) (B,Q) vs).2:=by
 intro vs;induction vs with
 |nil=>intro ws B A Q h _;exact⟨rfl,by simpa[bS]using h⟩
 |cons v vs ih=>
  intro ws B A Q h e;obtain⟨B',A',Q',e1,e2,h1⟩:=h.step hG hD h0 hu e;have e3:bS (u:Int) (B,Q) (v::vs)=bS (u:Int) (B',Q') vs:=by show vs.foldl _ (eZ (u:Int) (B,Q) v)=_;rw[e1];rfl
  have e4:bS (A0.getD u 0+1) (A,Q) (v::vs)=bS (A0.getD u 0+1) (A',Q') vs:=by show vs.foldl _ (eZ (A0.getD u 0+1) (A,Q) v)=_;rw[e2];rfl
  have:=ih (ws++ [v]) B' A' Q' h1 (by rw[e];simp);rw[e3,e4];simpa using this
theorem Fwd.step {adj:Nat→List Nat}{D:Nat→Int}{g:Nat→Nat}{d N a k u:Nat}{B A:List Int}{Q:List Nat}(hG:pM adj D g d a)(hD:aGr adj D N)(h:Fwd adj D g d N a k B A Q)(hu:Q[k]? =some u) (hg:D u≠0):
  ∃A',Fwd adj D g d N a (k+1) (bS (u:Int) (B,Q) (adj u)).1 A' (bS (u:Int) (B,Q) (adj u)).2:=by
 have b:=h.inv.bd u (aT7 hu);obtain⟨e,m⟩:=FMid.many hG hD h hu (adj u) [] B A Q (h.mid hu) rfl;have hi:=h.inv.step hu (fun v hv=>hD.bd u v b hv);have e2:bS (A.getD u 0+1) (A,Q) (adj u)=((bS (A.getD u 0+1) (A,Q) (adj u)).1,(bS (u:Int) (B,Q) (adj u)).2):=by rw[←e]
 dsimp only at hi;rw[e2]at hi;obtain⟨r,hr⟩:=m.mid.pre;dsimp only at hr;refine⟨_,hi,m.blen,m.bmem,?_,m.tri,m.chain,m.tight⟩;intro i v c hv;have hk:k<Q.length:=(aT9.1 hu).1;by_cases he:i=k
 ·subst he;rw[hr,aTr hk,hu]at hv;injection hv with hv;rw[←hv];exact hg
 rw[hr,aTr (by omega)]at hv;exact h.ngoal i v (by omega) hv
theorem Fwd.way {adj:Nat→List Nat}{D:Nat→Int}{g:Nat→Nat}{d N c k:Nat}{B A:List Int}{Q:List Nat}(hG:pM adj D g d c)(h:Fwd adj D g d N c k B A Q)
  (hp: ∀(i v:Nat),Q[i]? =some v→A.getD v 0<d→i<k): ∀j,j≤d→g j∈Q∧A.getD (g j) 0=j:=by
 intro j;induction j with
 |zero=>intro _;obtain⟨a,b⟩:=h.inv.src c (by simp);rw[hG.zero];exact⟨a,by simpa using b⟩
 |succ j ih=>
  intro hj;obtain⟨a,b⟩:=ih (by omega);obtain⟨i,hi,e⟩:=aUe a;have hq:Q[i]? =some (g j):=by rw[aT6 hi,e]
  have f:=hp i (g j) hq (by omega);have hm:g (j+1)∈adj (g j):=aUa (hG.next j (by omega));obtain⟨c1,c2⟩:=h.inv.done i (g j) f hq _ hm;have t:=(h.tri (g (j+1)) c1).2;have dd:=hG.dist (j+1) hj;dsimp only at c2;exact⟨c1,by omega⟩
theorem Fwd.goal {adj:Nat→List Nat}{D:Nat→Int}{g:Nat→Nat}{d N f k u:Nat}{B A:List Int}{Q:List Nat}(hG:pM adj D g d f)(h:Fwd adj D g d N f k B A Q)(hu:Q[k]? =some u) (hz:D u=0):
  u=g d∧ ∀j,j<d→B.getD (g (j+1)) 0=g j:=by
 have o:u∈Q:=aT7 hu;have hk:k<Q.length:=(aT9.1 hu).1;have n:Q[k]=u:=(aT9.1 hu).2;have t:=(h.tri u o).2;have m:=List.pairwise_iff_getElem.1 h.inv.mono;have hp: ∀(i v:Nat),Q[i]? =some v→A.getD v 0<A.getD u 0→i<k:=by
  intro i v hv hlt;obtain⟨hi,e⟩:=aT9.1 hv;by_cases hik:i<k
  ·exact hik
  exfalso;by_cases he:i=k
  ·subst he;rw[n]at e;subst e;omega
  have:=m k i hk hi (by omega);dsimp only at this;rw[n,e]at this;omega
 have hw:=h.way hG (fun i v hv hlt=>hp i v hv (by omega));obtain⟨w1,w2⟩:=hw d (aT5 _);have q:=hG.dist d (aT5 _);have l:D (g d)=0:=by omega
 obtain⟨i,hi,e⟩:=aUe w1;have hq:Q[i]? =some (g d):=by rw[aT6 hi,e]
 have p:A.getD u 0=d:=by
  by_cases hh:A.getD u 0=d
  ·exact hh
  exfalso;have:=hp i (g d) hq (by omega);exact h.ngoal i _ this hq l
 obtain⟨i',r,c⟩:=h.tight k u hu (by omega);have e1:(A.getD u 0).toNat=d:=by omega
 rw[e1]at c;have hik:i'=k:=by
  by_cases hh:i'=k
  ·exact hh
  exact absurd l (h.ngoal i' _ (by omega) c)
 subst hik;rw[hu]at c;injection c with c;refine⟨c,fun j hj=> ?_⟩;obtain⟨a,b⟩:=hw (j+1) (by omega);exact h.chain j hj a (by omega)
theorem Fwd.more {adj:Nat→List Nat}{D:Nat→Int}{g:Nat→Nat}{d N c k:Nat}{B A:List Int}{Q:List Nat}(hG:pM adj D g d c)(h:Fwd adj D g d N c k B A Q):k<Q.length:=by
 by_cases hk:k<Q.length
 ·exact hk
 exfalso;have hp: ∀(i v:Nat),Q[i]? =some v→i<k:=fun i v hv=>by have:=(aT9.1 hv).1;omega
 obtain⟨a,b⟩:=h.way hG (fun i v hv _=>hp i v hv) d (aT5 _);obtain⟨i,hi,e⟩:=aUe a;have hq:Q[i]? =some (g d):=by rw[aT6 hi,e]
 have f:=hG.dist d (aT5 _);exact h.ngoal i _ (hp i _ hq) hq (by omega)
theorem Fwd.start {adj:Nat→List Nat}{D:Nat→Int}{g:Nat→Nat}{d N a:Nat}(hG:pM adj D g d a)(hs:a<N):
  Fwd adj D g d N a 0 ((List.replicate N (-1)).set a (a:Int)) ((List.replicate N (-1)).set a 0) [a]:=by
 have hl:a<(List.replicate N (-1:Int)).length:=by simpa using hs
 have b: ∀(x:Int) v,v<N→a≠v→((List.replicate N (-1:Int)).set a x).getD v 0= -1:=by intro x v hv e;rw[bU e];simp[List.getD,hv]
 refine⟨⟨by simp,by simpa using hs,?_,by simp,by simp,?_,?_,?_,fun i u hi=>by omega⟩,by simp,?_,fun i u hi=>by omega,?_,?_,?_⟩
 ·intro v hv;dsimp only;by_cases e:a=v
  ·subst e;rw[cP hl];simp
  rw[b 0 v hv e];simp;exact fun h=>e h.symm
 ·intro u hu v hv;simp at hu hv;subst hu hv;omega
 ·intro v hv;simp at hv;subst hv;dsimp only;rw[cP hl];simp[pS]
 ·intro v hv;simp at hv;subst hv;exact⟨by simp,cP hl⟩
 ·intro v hv;by_cases e:a=v
  ·subst e;rw[cP hl];simp
  rw[b _ v hv e];simp;exact fun h=>e h.symm
 ·intro v hv;simp at hv;subst hv;have:=hG.dist 0 (aTd _);rw[hG.zero]at this;rw[cP hl];omega
 ·intro j hj hm ha;simp at hm;rw[hm,cP hl]at ha;omega
 intro i v hi ht;have c:i=0:=by have:=(aT9.1 hi).1;simp at this;omega
 subst c;simp at hi;subst hi;rw[cP hl];exact⟨0,aT5 _,by simp[hG.zero]⟩
section
open Go.RowKit
def aE2 (adj:Nat→List Nat):Nat→Nat→List Int×List Nat→List Int×List Nat
 |0,_,s=>s
 |m+1,k,s=>match s.2[k]? with
  |none=>s
  |some u=>aE2 adj m (k+1) (bS (s.1.getD u 0+1) s (adj u))
theorem aGn {adj:Nat→List Nat}{src:List Nat}{N:Nat}(ha: ∀u v,u<N→v∈adj u→v<N): ∀(m k:Nat) (s:List Int×List Nat),Inv adj src N k s→N≤k+m→uP adj src N (aE2 adj m k s).1:=by
 intro m;induction m with
 |zero=>intro k s hI hk;exact hI.dist (aTg hI.qlen (by omega))
 |succ m ih=>
  intro k s hI hk;rw[aE2];cases hu:s.2[k]? with
  |none=>exact hI.dist (by rw[List.getElem?_eq_none_iff]at hu;exact hu)
  |some u=>exact ih (k+1) _ (hI.step hu (fun v hv=>ha _ v (hI.bd _ (aT7 hu)) hv)) (by omega)
def iI (aA:Int)(n many:Nat):List Int:=(aE2 (aA3 aA n MM) NN 0 (jP NN (yD n many),yD n many)).1
theorem mV {aA:Int}{n many:Nat}(hn:n≤12):fO aA n many (iI aA n many):=
 aGn (uO hn) _ _ _ (Inv.begin (aJi hn) yC) (by omega)
abbrev jZ (e:Nat×Nat):Sl2:=((e.1:Int),(e.2:Int))
def pU (aA:Int)(n:Nat)(dd:Nat→Nat→Int)(s:Nat×Nat)(j:Nat):List Sl2:=(List.range j).map (fun i=>jZ (iH aA n dd s i))
theorem pY (aA:Int)(n:Nat)(dd:Nat→Nat→Int)(s:Nat×Nat)(j:Nat):(pU aA n dd s j).length=j:=by simp[pU]
theorem aAx (aA:Int)(n:Nat)(dd:Nat→Nat→Int)(s:Nat×Nat)(j:Nat):pU aA n dd s (j+1)=pU aA n dd s j++ [jZ (iH aA n dd s j)]:=by simp[pU,aUt]
def ddH (aA:Int)(xs:List Int):Nat→Nat→Int:=aY (iI aA xs.length (bP xs).length)
def dX (aA:Int)(xs:List Int)(c:Nat):Option (List Sl2):=
 if ddH aA xs c (aO xs)<0 then none else some (pU aA xs.length (ddH aA xs) (c,aO xs) (ddH aA xs c (aO xs)).toNat)
theorem mD {xs:List Int}{c:Nat}{id:Int}(hc:xs[c]? =some id) (h0:id≠0):pW xs.length (bP xs).length (c,aO xs):=by obtain⟨hl,he⟩:=aT9.1 hc;refine⟨hl,pH xs,?_,aDs xs⟩;show(aO xs).testBit c=false;rw[fC,gS hl,aTb,hc];simpa using h0
section
variable {aA aB:Int} {xs:List Int} {c:Nat} {id:Int} {D:List Int}
theorem aN0 (h:aN aA aB xs=true)(hc:xs[c]? =some id) (h0:id≠0) (hD:fO aA xs.length (bP xs).length D) {d:Nat} (hd:aY D c (aO xs)=d):
  ∀j,j≤d→ ∃ys,bD aA aB xs (pU aA xs.length (aY D) (c,aO xs) j)=(ys,j)∧aN aA aB ys=true∧ys.length=xs.length∧aO ys=(gP aA xs.length (aY D) (c,aO xs) j).2∧ys[(gP aA xs.length (aY D) (c,aO xs) j).1]? =some id:=by
 obtain⟨b1,b2,b3,b4,b5,b6,b7⟩:=cG (cY h);have hp:=mD hc h0;intro j;induction j with
 |zero=>intro _;exact⟨xs,rfl,h,rfl,rfl,hc⟩
 |succ j ih=>
  intro hj;obtain⟨ys,h1,h2,h3,h4,h5⟩:=ih (by omega);obtain⟨e1,e2,e3⟩:=lQ b5 b6 hD hp hd (show j<d by omega);have hw:=aAx aA xs.length (aY D) (c,aO xs) j;generalize iH aA xs.length (aY D) (c,aO xs) j=e at*;obtain⟨f,t⟩:=e;rw[←h4,←h3]at e2;obtain⟨m1,m2,m3,m4⟩:=vV h2 e2;refine⟨bL aA aB ys (f:Int) (t:Int),?_,jK _ _ h2,by rw[dG,h3],?_,?_⟩
  ·rw[hw,sF _ _ _ (by rw[h1,pY]),h1,pY];dsimp only;rw[if_pos m1]
  ·rw[m3,e3,h4];rfl
  rw[e3];exact m4 _ _ h5 h0
theorem vX (h:aN aA aB xs=true)(hc:xs[c]? =some id) (h0:id≠0) (hD:fO aA xs.length (bP xs).length D):(bP xs≠ []→0≤aY D c (aO xs)∧aY D c (aO xs)≤60)∧(c=0→aY D c (aO xs)=0)∧(bP xs= []→c≠0→aY D c (aO xs)<0):=by
 obtain⟨b1,b2,b3,b4,b5,b6,b7⟩:=cG (cY h);have hp:=mD hc h0;obtain⟨k1,k2,k3⟩:=oX b6 hp;refine⟨fun hf=> ?_,fun hc0=> ?_,fun hf hc0=> ?_⟩
 ·obtain⟨u,hu⟩:=List.exists_mem_of_ne_nil _ hf;obtain⟨u1,u2⟩:=lC hu;have hb:(aO xs).testBit u=true:=by rw[fC,gS u1,u2];rfl
  have hg:=lA h;obtain⟨a,b⟩:=aPw hg b5 b6 hD _ _ u (aT5 _) k1 (by rw[k3];exact hp.many) (by rw[k3];exact hb);rw[k2]at b;exact⟨a,Int.le_trans b (by have:=(yR hg hp.car u1).1;exact_mod_cast this)⟩
 ·subst hc0;refine(hD.zero _ (qI b6 k1)).2 (kG.2 ?_);rw[Nat.zero_mul,aUf];exact⟨hp.set,hp.occ,hp.many⟩
 rcases Int.lt_or_le (aY D c (aO xs)) 0 with f|d
 ·exact f
 exfalso;rcases Int.lt_or_eq_of_le d with h1|h1
 ·obtain⟨e,e1,e2,_⟩:=vF b5 b6 hD hp h1;obtain⟨_,g2,_,_,g5⟩:=fX.1 e2;have hm:e.2∈bP xs:=by
   unfold bP;rw[aTs];exact⟨aTq.2 g2,by rw[←fC];exact g5⟩
  rw[hf]at hm;cases hm
 have hz:=(hD.zero _ (qI b6 k1)).1 h1.symm;have h2:=(kG.1 hz).1;have h3:=Nat.div_eq_of_lt (aT4 h2 (jF b6));rw[k2]at h3;exact hc0 h3
theorem aMx (h:aN aA aB xs=true)(hc:xs[c]? =some id) (h0:id≠0) (hD:fO aA xs.length (bP xs).length D):
  (0≤aY D c (aO xs)↔0≤ddH aA xs c (aO xs))∧(0≤aY D c (aO xs)→aY D c (aO xs)=ddH aA xs c (aO xs)∧pU aA xs.length (aY D) (c,aO xs) (aY D c (aO xs)).toNat=pU aA xs.length (ddH aA xs) (c,aO xs) (ddH aA xs c (aO xs)).toNat):=by
 obtain⟨b1,b2,b3,b4,b5,b6,b7⟩:=cG (cY h);have hp:=mD hc h0;have hE:=mV (aA:=aA) (many:=(bP xs).length) b6;obtain⟨s1,s2⟩:=aBy hD hE (qI b6 (oX b6 hp).1);refine⟨s1,fun h1=> ?_⟩;have e1:aY D c (aO xs)=ddH aA xs c (aO xs):=s2 h1;refine⟨e1,?_⟩;obtain⟨d,hd⟩:=aTw h1;rw[←e1,hd];unfold pU;refine List.map_congr_left fun i hi=> ?_
 have:=aTq.1 hi;rw[aJ6 b5 b6 hD hE hp hd (show i<d by simpa using this)];rfl
theorem zZ (h:aN aA aB xs=true)(hc:xs[c]? =some id) (h0:id≠0) (hD:fO aA xs.length (bP xs).length D):dX aA xs c=if aY D c (aO xs)<0 then none else some (pU aA xs.length (aY D) (c,aO xs) (aY D c (aO xs)).toNat):=by
 obtain⟨a,b⟩:=aMx h hc h0 hD;unfold dX;by_cases h1:0≤aY D c (aO xs)
 ·rw[if_neg (by have:=a.1 h1;omega),if_neg (by omega),(b h1).2]
 rw[if_pos (by have:=fun x=>h1 (a.2 x);omega),if_pos (by omega)]
theorem nN (h:aN aA aB xs=true)(hc:xs[c]? =some id) (h0:id≠0):(dX aA xs c=none↔bP xs= []∧c≠0)∧ ∀l,dX aA xs c=some l→l.length≤60∧ ∃ys,bD aA aB xs l=(ys,l.length)∧aN aA aB ys=true∧ys.length=xs.length∧ys[0]? =some id:=by
 obtain⟨b1,b2,b3,b4,b5,b6,b7⟩:=cG (cY h);have hE:=mV (aA:=aA) (many:=(bP xs).length) b6;obtain⟨n1,n2,n3⟩:=vX h hc h0 hE;have e:ddH aA xs c (aO xs)=aY (iI aA xs.length (bP xs).length) c (aO xs):=rfl;constructor
 ·unfold dX;rw[e];constructor
  ·intro hn;by_cases hf:bP xs= []
   ·refine⟨hf,fun hc0=> ?_⟩;rw[n2 hc0]at hn;simp at hn
   rw[if_neg (by have:=(n1 hf).1;omega)]at hn;cases hn
  rintro⟨hf,hc0⟩;rw[if_pos (n3 hf hc0)]
 intro l hl;unfold dX at hl;rw[e]at hl;by_cases h1:aY (iI aA xs.length (bP xs).length) c (aO xs)<0
 ·rw[if_pos h1]at hl;cases hl
 rw[if_neg h1]at hl;injection hl with hl;obtain⟨d,hd⟩:=aTw (show 0≤aY (iI aA xs.length (bP xs).length) c (aO xs) by omega);have a:l.length=d:=by rw[←hl,pY,hd];rfl
 have b:d≤60:=by
  by_cases hf:bP xs= []
  ·by_cases hc0:c=0
   ·have:=n2 hc0;omega
   exact absurd (n3 hf hc0) h1
  have:=(n1 hf).2;omega
 refine⟨by omega,?_⟩;obtain⟨ys,w1,w2,w3,w4,w5⟩:=aN0 h hc h0 hE hd d (aT5 _);have hz:=(aPd b5 b6 hE (mD hc h0) hd (aT5 d)).2 rfl;rw[hz]at w5;refine⟨ys,?_,w2,w3,w5⟩;rw[a,←w1,←hl,hd];rfl
end
def mE (aA aB:Int)(xs:List Int)(id:Int):Option (List Int×Nat):=
 if id<1∨id∉xs then none else(dX aA xs (pV xs id).toNat).map (fun l=>((bD aA aB xs l).1.set 0 0,l.length))
/-! the other search: its states, coded by 2^n -/
def fL (n:Nat)(s:Nat×Nat):Nat:=s.1*2 ^ n+s.2
def ddM (n:Nat)(dd:Nat→Nat→Int)(v:Nat):Int:=dd (v/2 ^ n) (v%2 ^ n)
theorem lS {n:Nat}{s:Nat×Nat}(h:s.2<2 ^ n):fL n s/2 ^ n=s.1∧fL n s%2 ^ n=s.2:=⟨mW h,iR h⟩
theorem zV {n:Nat}{dd:Nat→Nat→Int}{s:Nat×Nat}(h:s.2<2 ^ n):ddM n dd (fL n s)=dd s.1 s.2:=by obtain⟨a,b⟩:=lS h;unfold ddM;rw[a,b]
section
variable {aA:Int} {n many:Nat} {D:List Int}
theorem aMs {s:Nat×Nat}(h:s.2<2 ^ n):pK aA n (2 ^ n) (fL n s)=(eV aA n s.2).map (fun e=>fL n (kQ s e)):=by obtain⟨a,b⟩:=lS h;unfold pK;rw[a,b];rfl
theorem uM {s:Nat×Nat}(h1:s.1<n)(h2:s.2<2 ^ n):fL n s<n*2 ^ n:=by unfold fL;have:(s.1+1)*2 ^ n≤n*2 ^ n:=aUw _ h1;rw[aVc]at this;omega
theorem zN (c:4≤n)(hn:n≤12)(hD:fO aA n many D){s:Nat×Nat}(h:pW n many s){d:Nat}(hd:aY D s.1 s.2=d):
  pM (pK aA n (2 ^ n)) (ddM n (aY D)) (fun j=>fL n (gP aA n (aY D) s j)) d (fL n s):=by
 refine⟨rfl,fun j hj=> ?_,fun j hj=> ?_⟩
 ·obtain⟨a,b⟩:=kL c hn hD h hd j hj;show ddM n (aY D) (fL n (gP aA n (aY D) s j))=_;rw[zV a.set,b]
 obtain⟨a,b⟩:=kL c hn hD h hd j (by omega);obtain⟨e1,e2,e3⟩:=lQ c hn hD h hd hj;rw[aMs a.set,zV a.set,e3];rw[List.find?_map];have f:(eV aA n (gP aA n (aY D) s j).2).find? ((fun v=>decide (ddM n (aY D) v=aY D (gP aA n (aY D) s j).1 (gP aA n (aY D) s j).2-1))∘fun e=>fL n (kQ (gP aA n (aY D) s j) e))=nD aA n (aY D) (gP aA n (aY D) s j):=by
  unfold nD;have k2: ∀l:List (Nat×Nat),(∀e∈l,e∈eV aA n (gP aA n (aY D) s j).2)→l.find? ((fun v=>decide (ddM n (aY D) v=aY D (gP aA n (aY D) s j).1 (gP aA n (aY D) s j).2-1))∘fun e=>fL n (kQ (gP aA n (aY D) s j) e))=l.find? (fun e=>decide (aY D (eB (gP aA n (aY D) s j).1 e.1 e.2) (dH (gP aA n (aY D) s j).2 e.1 e.2)=aY D (gP aA n (aY D) s j).1 (gP aA n (aY D) s j).2-1)):=by
   intro l;induction l with
   |nil=>intro _;rw[List.find?_nil,List.find?_nil]
   |cons e l ih=>intro hl;rw[List.find?_cons,List.find?_cons,ih (fun x hx=>hl x (by simp[hx]))];have hp:=(aCv hn a (hl e (by simp))).2;have:ddM n (aY D) (fL n (kQ (gP aA n (aY D) s j) e))=aY D (eB (gP aA n (aY D) s j).1 e.1 e.2) (dH (gP aA n (aY D) s j).2 e.1 e.2):=zV hp.set;simp only[Function.comp_apply,this]
  exact k2 _ (fun e he=>he)
 rw[f,e1];rfl
theorem uF (e:4≤n)(hn:n≤12)(hD:fO aA n many D):aGr (pK aA n (2 ^ n)) (ddM n (aY D)) (n*2 ^ n):=by
 have c:0<2 ^ n:=aVf n;have bd: ∀u v,u<n*2 ^ n→v∈pK aA n (2 ^ n) u→v/2 ^ n<n∧v%2 ^ n<2 ^ n:=fun u v hu hv=>aJz (aT5 _) ((Nat.div_lt_iff_lt_mul c).2 hu) (Nat.mod_lt _ c) (qZ.1 hv)
 refine⟨fun u v hu hv h0=> ?_,fun u v hu hv=> ?_⟩
 ·obtain⟨f,t,h1,h2,h3,h4,h5,h6,h7,h8⟩:=mK (aT5 _) (Nat.mod_lt u c) (qZ.1 hv);have hc:=(Nat.div_lt_iff_lt_mul c).2 hu;have hS:=Nat.mod_lt u c;have g:u/2 ^ n*MM+u%2 ^ n<NN:=by
   have:=jF hn;show u/2 ^ n*4096+u%2 ^ n<49152;have h4:(MM:Nat)=4096:=rfl;omega
  obtain⟨k,hk⟩:=aTw h0;obtain⟨u1,u2⟩:=aK1 e hn hD k _ g hk;have d:u%2 ^ n<MM:=aT4 hS (jF hn);have hE:tB aA n MM (u/2 ^ n*MM+u%2 ^ n) (v/2 ^ n*MM+v%2 ^ n):=⟨f,t,h1,h2,h3,by rw[iR d];exact h4,by rw[iR d];exact h5,by rw[mW d,iR d,h6,h7];rfl⟩
  obtain⟨a,b⟩:=aC0 e hn hD u1 hE;exact⟨a.1 h0,(b h0).1⟩
 obtain⟨a,b⟩:=bd u v hu hv;have:=uM (s:=(v/2 ^ n,v%2 ^ n)) a b;unfold fL at this;rw[Nat.mul_comm (v/2 ^ n),aVb]at this;exact this
theorem aPy (b:4≤n)(hn:n≤12)(hD:fO aA n many D){v:Nat}(hv:v<n*2 ^ n)(a:aAw n (2 ^ n) v)(hm:iN (v%2 ^ n)=many):ddM n (aY D) v=0↔v/2 ^ n=0:=by
 have hp:pW n many (v/2 ^ n,v%2 ^ n):=⟨a.car,a.set,a.occ,hm⟩
 obtain⟨k1,k2,k3⟩:=oX hn hp;have hz:=hD.zero _ (qI hn k1);have e:ddM n (aY D) v=D.getD ((v/2 ^ n)*MM+v%2 ^ n) 0:=rfl;rw[e];constructor
 ·intro h;have h1:=(kG.1 (hz.1 h)).1;have h2:=Nat.div_eq_of_lt (aT4 h1 (jF hn));rwa[k2]at h2
 intro h;refine hz.2 (kG.2 ?_);dsimp only;rw[h,Nat.zero_mul,aUf];have:=a.occ;rw[h]at this;exact⟨a.set,this,hm⟩
theorem walk_ok (hn:n≤12){s:Nat×Nat}(h:pW n many s): ∀(k v:Nat),pS (pK aA n (2 ^ n)) [fL n s] k v→aAw n (2 ^ n) v∧iN (v%2 ^ n)=many:=by
 intro k;induction k with
 |zero=>
  intro v hv;have:v=fL n s:=by simpa[pS]using hv
  subst this;obtain⟨a,b⟩:=lS (n:=n) h.set;exact⟨⟨by rw[a];exact h.car,by rw[b];exact h.set,by rw[a,b];exact h.occ⟩,by rw[b];exact h.many⟩
 |succ k ih=>rintro v ⟨u,hu,hv⟩;obtain⟨a,b⟩:=ih u hu;exact⟨uI (aT5 _) a (qZ.1 hv),by rw[rT (aT5 _) a.set (qZ.1 hv)];exact b⟩
end
end
section
open Go.RowKit Go.Proofs.Tryz
theorem aIe (S:Nat)(w:World)(hS:S≤1099511627776):U 185 #[S] w fun e w'=>e= .returned (I (iN S))∧w=w':=by
 go_enter func185,ntmps185;go_wp2;go_loopw [0,3] (fun v i wr=> ∃(T c:Nat),v=I T∧i=I c∧c+iN T=iN S∧T≤S∧c+T≤2*S∧w=wr) (fun v _ _=>(intOf v).toNat)
 case atStart=>exact⟨S,0,rfl,rfl,by omega,aT5 _,by omega,rfl⟩
 case round=>
  obtain⟨T,c,rfl,rfl,h1,h2,h3,rfl⟩:=hrel;by_cases h0:0<T
  ·have t1:(T:Int).tmod 2=((T%2:Nat):Int):=rfl;have t2:(T:Int).tdiv 2=((T/2:Nat):Int):=rfl;have hp:=tO T;have hw:=aVw ((c:Int)+((T%2:Nat):Int));have HP:=xQ hp;have H1:=xQ h1;clear hp h1;go_wp2;go_roundw
   case rel=>exact⟨T/2,c+T%2,by first|rfl|go_num,by first|rfl|go_num,by have:=HP.out;have:=H1.out;omega,by omega,by omega,by trivial⟩
   case measure=>simp[intOf];omega
  have hc:Hid (c=iN S):=by show _=_;rw[←h1,show T=0 by omega];simp[iN]
  clear h1;go_wp2;go_ret;exact⟨by rw[hc.out];rfl,rfl⟩
def aJu (fr:List Nat):Nat:=fr.foldl (fun a f=>a+2 ^ f) 0
theorem aRb: ∀(l:List Nat) (a:Nat),(∀f∈l,f<12)→l.foldl (fun a f=>a+2 ^ f) a≤a+l.length*4096:=by
 intro l;induction l with
 |nil=>intro a _;simp
 |cons f l ih=>intro a h;have h1:=ih (a+2 ^ f) (fun x hx=>h x (by simp[hx]));have h2:2 ^ f≤4096:=aTg (aTl (by omega) (show f≤11 by have:=h f (by simp);omega)) (by decide);rw[List.foldl_cons,aUh,aVc];omega
theorem aRc {fr:List Nat}(h: ∀f∈fr,f<12)(k:Nat):(fr.take k).foldl (fun a f=>a+2 ^ f) 0≤k*4096:=by
 have h1:=aRb (fr.take k) 0 (fun f hf=>h f (aUl hf));have h2:(fr.take k).length≤k:=by rw[aTt];omega
 omega
theorem aPi (xs:List Int):aJu (bP xs)=aO xs:=by
 unfold aJu bP aO;generalize xs.length=k;induction k with
 |zero=>rfl
 |succ k ih=>rw[aUt,aU2,List.foldl_append,ih,show kA (dC xs) (k+1)=kA (dC xs) k+(if dC xs k then 2 ^ k else 0)from rfl];cases h:dC xs k<;>simp[h]
theorem aHh (aA aB:Int)(p:OA)(n b:Nat)(fr:List Nat)(F:Nat)(w:World)(hF:Hid (fr.length=F))(l:F≤12)(g:Hid (∀x∈fr,x<12))
  (HF:xC 163 #[aH aA aB p n b] w fun w' e w''=> ∃q c,e= .returned (.slice q F c)∧w''.ownsRow w' TI 1 (.slice q F c) F (ivs (bK fr))∧Ext w' w''):
  U 150 #[aH aA aB p n b] w (O (I (aJu fr)) w):=by
 go_enter func150,ntmps150;go_wp2_with fail;refine(HF _ ((Mem.start w).c0 TH3 #[aA,aB,.slice p n b]).ext).mono ?_;rintro e w1 ⟨q1,c1,rfl,h,j⟩;have M1:=(((Mem.start w).c0 TH3 #[aA,aB,.slice p n b]).call j h)
 clear j h;go_wp2;go_loopw [3,5] (fun v i wr=> ∃(k T:Nat),k≤F∧i=I k∧v=I T∧T=(fr.take k).foldl (fun a f=>a+2 ^ f) 0∧w1=wr) (fun _ i _=>F-(intOf i).toNat)
 case atStart=>exact⟨0,0,aTd _,rfl,rfl,rfl,rfl⟩
 case round=>
  obtain⟨k,T,hk,rfl,rfl,hT,rfl⟩:=hrel;have HT:=xQ hT
  have o:T≤12*4096:=by have:=aRc g.out k;rw[hT];have:k≤12:=by omega
                       omega
  clear hT;by_cases hlt:k<F
  ·obtain⟨f,hf⟩: ∃f,fr[k]? =some f:=⟨_,aT6 (by rw[hF.out];exact hlt)⟩
   have t:f<12:=g.out f (aT7 hf);obtain⟨gf,rfl,r,s⟩:=M1.so 0;have cu:w1.cell? ⟨gf,k,none⟩=some (I f):=by have:=(M1.ow 0).cellAt k (by omega);rw[this];simp[ivs,bK,hf]
   have hn:=xQ (show(fr.take (k+1)).foldl (fun a f=>a+2 ^ f) 0=T+2 ^ f by rw[bA hf,List.foldl_append,←HT.out];rfl);clear hf;have i1:=aVt k;have i2:=aVu k F;obtain⟨P,hP⟩: ∃P:Nat,P=2 ^ f:=⟨_,rfl⟩
   have m:P≤2048:=by rw[hP];exact aTg (aTl (by omega) (show f≤11 by omega)) (by decide)
   have u:(2:Int) ^ f=(P:Int):=by rw[hP];simp
   have y:IntKind.i64.wrap (P:Int)=(P:Int):=aT8 _ (by omega);have z:=aVw ((T:Int)+(P:Int));rw[←hP]at hn;clear hP;go_wp2;go_roundw
   case rel=>exact⟨k+1,T+P,by omega,by go_num,by first|rfl|go_num,hn.out.symm,by trivial⟩
   case measure=>simp[intOf];omega
  obtain rfl:F=k:=by omega
  have d:Hid ((T:Int)=((aJu fr:Nat):Int)):=by show _=_;rw[HT.out,aTa (by rw[hF.out];omega)];rfl
  go_wp2;go_ret;exact⟨by rw[d.out];rfl,M1.ext⟩
theorem uE (aA aB:Int)(p:OA)(n a:Nat)(xs:List Int)(w:World)(hS:Sl w p n a 1 (ivs xs))(b:aN aA aB xs=true):
  U 163 #[aH aA aB p n a] w fun e w'=> ∃q c,e= .returned (.slice q (bP xs).length c)∧w'.ownsRow w TI 1 (.slice q (bP xs).length c) (bP xs).length (ivs (bK (bP xs)))∧Ext w w':=by
 have:=aHd aA aB p n a xs w hS;rw[b,if_pos rfl,uG]at this;refine this.mono fun e w'' h=> ?_
 obtain⟨q,c,h1,h2,h3⟩:=h;rw[aU1]at h1 h2;exact⟨q,c,h1,h2,h3⟩
theorem aPh {aA aB:Int}{xs:List Int}(a:aN aA aB xs=true):(bP xs).length≤12:=by obtain⟨g1,g2,g3,g4,g5,g6,g7⟩:=cG (cY a);unfold bP;exact aTg (aUb _ _) (by simp;omega)
theorem yW (aA aB:Int)(p:OA)(n a:Nat)(xs:List Int)(w:World)(hS:Sl w p n a 1 (ivs xs))(b:aN aA aB xs=true):
  U 150 #[aH aA aB p n a] w (O (I (aO xs)) w):=by
 have hl:=hS.ilen;obtain⟨g1,g2,g3,g4,g5,g6,g7⟩:=cG (cY b);rw[←aPi];exact aHh aA aB p n a (bP xs) _ w rfl (aPh b) (fun x hx=>by have:=(lC hx).1;omega) (fun w' hy=>uE aA aB p n a xs w' (hS.ext hy) b)
abbrev TSS:TypeId:=23
theorem aT2:ElT prog 188 TSS 1:=
 ⟨underlying188,by
  obtain⟨i,hi,h0,h1,h2⟩:=info_parts (show(prog.info? TSS).map (fun i=>(i.zero,i.size,i.bytes))=some (some (.slice none 0 0),1,24) by kernel_rfl)
  exact⟨i,_,hi,h0,h1,by omega,rfl⟩,by omega⟩
def rY (aA:Int)(n k:Nat)(rows:List RowD):Prop:=rows.length=k∧ ∀(j:Nat) (r:RowD),rows[j]? =some r→r.n=(aU aA n j).length∧r.xs=ivs (bK (aU aA n j))
def aE4 (aA:Int)(n:Nat)(w:World)(e:Ending)(w':World):Prop:=
 ∃q c rows,e= .returned (.slice q n c)∧rY aA n n rows∧wB w.heap.size TSS TI 1 q c rows w'∧Ext w w'
theorem wY {aA:Int}{n k:Nat}{rows:List RowD}{q:OA}{c:Nat}(h:rY aA n k rows):rY aA n (k+1) (rows++ [⟨q,(aU aA n k).length,c,ivs (bK (aU aA n k))⟩]):=by
 refine⟨by rw[aTc,h.1];rfl,fun j r hj=> ?_⟩;by_cases hk:j<k
 ·rw[aTr (by rw[h.1];exact hk)]at hj;exact h.2 j r hj
 have hl:=(aT9.1 hj).1;rw[aTc,h.1]at hl;simp at hl;obtain rfl:j=k:=by omega
 rw[aTy (by rw[h.1];exact aT5 _),h.1,aV0]at hj;simp at hj;subst hj;exact⟨rfl,by simp[ivs,bK]⟩
theorem aL6 (aA aB:Int)(p:OA)(n a:Nat)(w:World)(hn:n≤12)
  (HC:Hid (∀(k:Nat),k<n→ ∀w',Ext w w'→U 208 #[aH aA aB p n a,k] w' (bC (bK (aU aA n k)) w'))):
  U 186 #[aH aA aB p n a] w (aE4 aA n w):=by
 go_enter func186,ntmps186;have ME:=(((Mem.start w).c0 TH3 #[aA,aB,.slice p n a]).made0 TSS 1 (w.heap.size+1) (by simp))
 go_wp2;go_loopw [3,4] (fun v i wr=> ∃(k:Nat) (q:OA) (c:Nat) (rows:List RowD),k≤n∧i=I k∧v= .slice q k c∧rY aA n k rows∧Mem w wr [gK w TI 1 rows,aJ w TSS 1 (q) (k) (c) (rows.map RowD.v),aI w w TH3 #[aA,aB,.slice p n a]]) (fun _ i _=>n-(intOf i).toNat)
 case atStart=>exact⟨0,some ⟨w.heap.size+1,0,none⟩,0,[],aTd _,rfl,rfl,⟨rfl,fun j r h=>by simp at h⟩,ME.rows0 rfl⟩
 case round=>
  clear ME;obtain⟨k,q,c,rows,hk,rfl,rfl,b,hM⟩:=hrel;have HM:=hM;have HR:=xQ b;clear hM b;obtain⟨c0,c1,c2⟩:=(HM.bk 2).tri;by_cases hlt:k<n
  ·go_wp2_with fail;clear c0 c1 c2;refine(HC k hlt _ HM.ext).mono ?_;rintro e w2 ⟨q2,c2,rfl,o2,d⟩;rw[aU1]at o2⊢;have M2:=(HM.call d o2)
   have M3:=(M2.rowsAdd rfl)
   have f:=xQ (wY (q:=q2) (c:=c2) HR.out);clear o2 d M2 HM HR;go_wp2_with (at_builtin;go_loud (refine cJ aT2 rfl _ _ rfl (M3.adv ((Ext.refl _).alloc (.cells #[.slice q2 (aU aA n k).length c2] TSS))) 1 rfl rfl [.slice q2 (aU aA n k).length c2] rfl (eD _ _ _ 1 1 _ (by first|rfl|simp) (by first|rfl|simp) (by simp[maxLen])) (fun u hu=>by obtain rfl:=aTp.1 hu;rfl) (by omega) ?_;intro q7 c7 w6 M6));have M7:=(show Mem w w6 [gK w TI 1 (rows++ [⟨q2,(aU aA n k).length,c2,ivs (bK (aU aA n k))⟩]),aJ w TSS 1 q7 (k+1) c7 ((rows++ [⟨q2,(aU aA n k).length,c2,ivs (bK (aU aA n k))⟩]:List RowD).map RowD.v),aI w w TH3 #[aA,aB,.slice p n a]]from by rw[aUj];exact M6)
   clear M6 M3;go_wp2;go_roundw
   case rel=>exact⟨k+1,q7,c7,_,by omega,by go_num,rfl,f.out,M7⟩
   case measure=>simp[intOf];omega
  obtain rfl:n=k:=by omega
  go_wp2;go_ret;have hl:=HR.out.1;have h1:=HM.ow 1;refine⟨q,c,rows,rfl,HR.out,⟨?_,fun r hr=>HM.ok (gK w TI 1 rows) (by simp) r hr⟩,HM.ext⟩;rw[hl];exact h1
theorem aD1 (aA aB:Int)(p:OA)(n a:Nat)(xs:List Int)(w:World)(hS:Sl w p n a 1 (ivs xs))(b:aN aA aB xs=true):
  U 186 #[aH aA aB p n a] w (aE4 aA n w):=by
 have hl:=hS.ilen;obtain⟨g1,g2,g3,g4,g5,g6,g7⟩:=cG (cY b)
 exact aL6 aA aB p n a w (by omega) (fun k hk w' hx=>by
  have:=aHl aA aB k p n a xs w' (hS.ext hx) b (by omega) (by omega)
  rwa[mM]at this)
end
end Go.Proofs.YthfmmibomhhmpaaGreatDoor
