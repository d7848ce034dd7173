/-
  Texts of this proof, packed (@packed).
-/
import Derived.Lib.LaidTab
import Derived.Lib.SlicesMore
import Derived.Lib.TrailingZeros
import Derived.Test.YthfmmibomhhmpaaGreatDoorY14
namespace Go.Proofs.YthfmmibomhhmpaaGreatDoor
open Go.RowKit
set_option linter.unusedSimpArgs false
set_option linter.unusedVariables false
set_option maxHeartbeats 8000000
set_option maxRecDepth 100000
section
def fF (aA:Int)(n M s f:Nat):List Nat:=if(s%M).testBit f then []else((aU aA n f).filter (fun t=>(s%M).testBit t)).map (fun t=>iE M (s/M) (s%M) f t)
def jB (aA:Int)(n M s f:Nat):List Nat:=(List.range f).flatMap (fF aA n M s)
def jQ (aA:Int)(n M s f j:Nat):List Nat:=(((aU aA n f).take j).filter (fun t=>(s%M).testBit t)).map (fun t=>iE M (s/M) (s%M) f t)
theorem aBd (aA:Int)(n M s:Nat):jB aA n M s n=pK aA n M s:=by
 unfold jB pK eV;rw[List.map_flatMap];congr 1;funext f;unfold fF;split
 ·rfl
 rw[List.map_map];rfl
theorem sO (aA:Int)(n M s f:Nat):jB aA n M s (f+1)=jB aA n M s f++fF aA n M s f:=by unfold jB;rw[aUt,aTz];simp
theorem aSw {aA:Int}{n M s f:Nat}(hb:(s%M).testBit f=true):fF aA n M s f= []:=by unfold fF;rw[if_pos hb]
theorem aPl {aA:Int}{n M s f:Nat}(hb:(s%M).testBit f=false):fF aA n M s f=jQ aA n M s f (aU aA n f).length:=by unfold fF jQ;rw[if_neg (by rw[hb];decide),aUv]
theorem aI0 (aA:Int)(n M s f:Nat):jQ aA n M s f 0= []:=rfl
theorem aO7 {aA:Int}{n M s f j t:Nat}(hj:(aU aA n f)[j]? =some t) (hb:(s%M).testBit t=false):jQ aA n M s f (j+1)=jQ aA n M s f j:=by unfold jQ;rw[bA hj,aU2,aUj];simp[hb]
theorem aLh {aA:Int}{n M s f j t:Nat}(hj:(aU aA n f)[j]? =some t) (hb:(s%M).testBit t=true):jQ aA n M s f (j+1)=jQ aA n M s f j++ [iE M (s/M) (s%M) f t]:=by unfold jQ;rw[bA hj,aU2,aUj];simp[hb]
structure SOk (N:Nat) (B:List Int) (Q:List Nat):Prop where
 len:B.length=N
 bd: ∀v∈Q,v<N
 mem: ∀v,v<N→(0≤B.getD v 0↔v∈Q)
 nodup:Q.Nodup
theorem SOk.qlen {N:Nat}{B:List Int}{Q:List Nat}(h:SOk N B Q):Q.length≤N:=qJ h.nodup h.bd
theorem SOk.relax {N:Nat}{B:List Int}{Q:List Nat}(h:SOk N B Q){u:Int}(hu:0≤u){v:Nat}(hv:v<N):SOk N (eZ u (B,Q) v).1 (eZ u (B,Q) v).2:=by
 unfold Go.Proofs.YthfmmibomhhmpaaGreatDoor.eZ;by_cases hc:B.getD v 0<0
 ·rw[if_pos hc];have c:v∉Q:=fun hm=>by have:=(h.mem v hv).2 hm;omega
  refine⟨by simp[h.len],?_,?_,?_⟩
  ·intro x hx;rcases aTn.1 hx with hx|hx
   ·exact h.bd x hx
   obtain rfl:=aTp.1 hx;exact hv
  ·intro x hx;dsimp only;rw[aTn,aTp];by_cases e:v=x
   ·subst e;rw[cP (by rw[h.len];exact hv)];exact⟨fun _=> .inr rfl,fun _=>hu⟩
   rw[bU e,h.mem x hx];exact⟨.inl,fun h=>h.resolve_right (fun e2=>e e2.symm)⟩
  show(Q++ [v]).Nodup;rw[List.nodup_append];exact⟨h.nodup,by simp,fun a ha b hb e=>by obtain rfl:=aTp.1 hb;exact c (e▸ha)⟩
 rw[if_neg hc];exact h
theorem SOk.expand {N:Nat}{u:Int}(hu:0≤u): ∀(vs:List Nat) {B:List Int} {Q:List Nat},SOk N B Q→(∀v∈vs,v<N)→SOk N (bS u (B,Q) vs).1 (bS u (B,Q) vs).2
 | [],B,Q,h,_=>h
 |v::vs,B,Q,h,hv=>by have h1:=h.relax hu (hv v (by simp));have:Go.Proofs.YthfmmibomhhmpaaGreatDoor.bS u (B,Q) (v::vs)=Go.Proofs.YthfmmibomhhmpaaGreatDoor.bS u ((Go.Proofs.YthfmmibomhhmpaaGreatDoor.eZ u (B,Q) v).1,(Go.Proofs.YthfmmibomhhmpaaGreatDoor.eZ u (B,Q) v).2) vs:=rfl;rw[this];exact SOk.expand hu vs h1 (fun x hx=>hv x (by simp[hx]))
theorem qT (u:Int): ∀(vs:List Nat) (B:List Int) (Q:List Nat),∃r,(bS u (B,Q) vs).2=Q++r∧ ∀x∈r,x∈vs
 | [],B,Q=>⟨[],by simp[bS],by simp⟩
 |v::vs,B,Q=>by
  have e:bS u (B,Q) (v::vs)=bS u ((eZ u (B,Q) v).1,(eZ u (B,Q) v).2) vs:=rfl;obtain⟨r,h1,h2⟩:=qT u vs (eZ u (B,Q) v).1 (eZ u (B,Q) v).2;rw[e,h1];unfold eZ;split
  ·exact⟨v::r,by simp,fun x hx=>by
    rcases aTi.1 hx with rfl|hx
    ·simp
    ·simp[h2 x hx]⟩
  exact⟨r,rfl,fun x hx=>by simp[h2 x hx]⟩
inductive SRun (adj:Nat→List Nat) (goal:Nat→Prop) (N start:Nat):Nat→List Int→List Nat→Prop
 |init:SRun adj goal N start 0 ((List.replicate N (-1)).set start (start:Int)) [start]
 |step {k u:Nat} {B:List Int} {Q:List Nat}:SRun adj goal N start k B Q→Q[k]? =some u→ ¬goal u→SRun adj goal N start (k+1) (bS (u:Int) (B,Q) (adj u)).1 (bS (u:Int) (B,Q) (adj u)).2
theorem SRun.ok {adj:Nat→List Nat}{b:Nat→Prop}{N a k:Nat}{B:List Int}{Q:List Nat}(hs:a<N)(d: ∀u v,u<N→v∈adj u→v<N)(h:SRun adj b N a k B Q):SOk N B Q∧ ∀v∈Q,∃m,pS adj [a] m v:=by
 induction h with
 |init=>
  refine⟨⟨by simp,by simpa using hs,fun v hv=> ?_,by simp⟩,fun v hv=>⟨0,by simpa[pS]using hv⟩⟩;by_cases e:a=v
  ·subst e;rw[cP (by simpa using hs)];simp
  rw[bU e];simp[List.getD,hv];exact fun h=>e h.symm
 |step h1 hu hg ih=>
  obtain⟨i1,i2⟩:=ih;have c:=aT7 hu;refine⟨SOk.expand (by omega) _ i1 (fun v hv=>d _ v (i1.bd _ c) hv),fun v hv=> ?_⟩;obtain⟨r,e,hr⟩:=qT (_:Nat) (adj _) _ _;rw[e]at hv;rcases aTn.1 hv with hv|hv
  ·exact i2 v hv
  obtain⟨m,hm⟩:=i2 _ c;exact⟨m+1,_,hm,hr v hv⟩
theorem SRun.fwd {adj:Nat→List Nat}{b:Nat→Prop}{D:Nat→Int}{g:Nat→Nat}{d N a k:Nat}{B:List Int}{Q:List Nat}(hs:a<N)(hG:pM adj D g d a)(hD:aGr adj D N)(c: ∀m v,pS adj [a] m v→(b v↔D v=0))
  (h:SRun adj b N a k B Q): ∃A,Fwd adj D g d N a k B A Q:=by
 induction h with
 |init=>exact⟨_,Fwd.start hG hs⟩
 |step h1 hu hg ih=>obtain⟨A,hA⟩:=ih;obtain⟨m,hm⟩:=(h1.ok hs hD.bd).2 _ (aT7 hu);exact hA.step hG hD hu (fun e=>hg ((c m _ hm).2 e))
theorem SRun.stuck {adj:Nat→List Nat}{b:Nat→Prop}{N a k:Nat}{B:List Int}{Q:List Nat}(ha:adj a= [])(h:SRun adj b N a k B Q):Q= [a]:=by
 induction h with
 |init=>rfl
 | @step k u B Q h1 hu hg ih=>
   rw[ih]at hu⊢;have:u=a:=by
    match k,hu with
    |0,hu=>simpa using hu.symm
    |k+1,hu=>simp at hu
   subst this;rw[ha];rfl
section
variable {aA aB:Int} {xs:List Int} {c:Nat} {id:Int}
theorem aF3 (hf:bP xs= []):aO xs=0:=by
 apply aVg;intro k;rw[fC,Nat.zero_testBit];cases h:dC xs k with
 |false=>rfl
 |true=>
  have:k∈bP xs:=by
   unfold bP;rw[aTs];refine⟨?_,h⟩;rw[aTq];unfold dC at h;by_cases hk:k<xs.length
   ·exact hk
   simp[aUn (Nat.le_of_not_lt hk)]at h
  rw[hf]at this;simp at this
theorem aMr {aA:Int}{n:Nat}{u:Nat}(h:u%2 ^ n=0):pK aA n (2 ^ n) u= []:=by rw[List.eq_nil_iff_forall_not_mem];intro v hv;obtain⟨f,t,h1,h2,h3,h4,h5,h6⟩:=qZ.1 hv;rw[h]at h5;simp at h5
abbrev st0 (xs:List Int)(c:Nat):Nat×Nat:=(c,aO xs)
theorem uU (h:aN aA aB xs=true)(hc:xs[c]? =some id) (h0:id≠0):fL xs.length (st0 xs c)<xs.length*2 ^ xs.length∧fL xs.length (st0 xs c)/2 ^ xs.length=c∧fL xs.length (st0 xs c)%2 ^ xs.length=aO xs:=by have hl:=(aT9.1 hc).1;exact⟨uM hl (pH xs),lS (pH xs)⟩
theorem yB (e:4≤xs.length)(hn:xs.length≤12)(hc:xs[c]? =some id) (h0:id≠0): ∀m v,pS (pK aA xs.length (2 ^ xs.length)) [fL xs.length (st0 xs c)] m v→(v/2 ^ xs.length=0↔ddM xs.length (aY (iI aA xs.length (bP xs).length)) v=0):=by
 intro m v hv;have hp:=mD hc h0;obtain⟨a,b⟩:=walk_ok hn hp m v hv;have d:v<xs.length*2 ^ xs.length:=by have:=uM (s:=(v/2 ^ xs.length,v%2 ^ xs.length)) a.car a.set;unfold fL at this;rw[Nat.mul_comm (v/2 ^ xs.length),aVb]at this;exact this
 exact(aPy e hn (mV hn) d a b).symm
theorem aB2 (h:aN aA aB xs=true)(a:4≤xs.length)(hn:xs.length≤12)(hc:xs[c]? =some id) (h0:id≠0):
  (∃d:Nat,d≤60∧aY (iI aA xs.length (bP xs).length) c (aO xs)=d∧dX aA xs c=some (pU aA xs.length (aY (iI aA xs.length (bP xs).length)) (st0 xs c) d))∨(dX aA xs c=none∧c≠0∧aO xs=0):=by
 have hD:=mV (aA:=aA) (many:=(bP xs).length) hn;obtain⟨n1,n2,n3⟩:=vX h hc h0 hD;have he:=zZ h hc h0 hD;by_cases hneg:aY (iI aA xs.length (bP xs).length) c (aO xs)<0
 ·rw[if_pos hneg]at he;have hf:bP xs= []:=by
   by_cases hh:bP xs= []
   ·exact hh
   have:=n1 hh;omega
  exact .inr ⟨he,fun e=>by have:=n2 e;omega,aF3 hf⟩
 rw[if_neg hneg]at he;left;refine⟨_,?_,(Int.toNat_of_nonneg (by omega)).symm,he⟩;by_cases hh:bP xs= []
 ·by_cases hc0:c=0
  ·have:=n2 hc0;omega
  have:=n3 hh hc0;omega
 have:=n1 hh;omega
structure SGoal (aA:Int) (xs:List Int) (c d:Nat) (u:Nat) (B:List Int):Prop where
 d60:d≤60
 way:dX aA xs c=some (pU aA xs.length (aY (iI aA xs.length (bP xs).length)) (st0 xs c) d)
 last:u=fL xs.length (gP aA xs.length (aY (iI aA xs.length (bP xs).length)) (st0 xs c) d)
 back: ∀j,j<d→B.getD (fL xs.length (gP aA xs.length (aY (iI aA xs.length (bP xs).length)) (st0 xs c) (j+1))) 0=fL xs.length (gP aA xs.length (aY (iI aA xs.length (bP xs).length)) (st0 xs c) j)
 far: ∀j,j≤d→fL xs.length (gP aA xs.length (aY (iI aA xs.length (bP xs).length)) (st0 xs c) j)=fL xs.length (st0 xs c)→j=0
 pt: ∀j,j≤d→pW xs.length (bP xs).length (gP aA xs.length (aY (iI aA xs.length (bP xs).length)) (st0 xs c) j)
 edge: ∀j,j<d→iH aA xs.length (aY (iI aA xs.length (bP xs).length)) (st0 xs c) j∈eV aA xs.length (gP aA xs.length (aY (iI aA xs.length (bP xs).length)) (st0 xs c) j).2∧gP aA xs.length (aY (iI aA xs.length (bP xs).length)) (st0 xs c) (j+1)=kQ (gP aA xs.length (aY (iI aA xs.length (bP xs).length)) (st0 xs c) j) (iH aA xs.length (aY (iI aA xs.length (bP xs).length)) (st0 xs c) j)
abbrev aQ5 (aA:Int)(xs:List Int)(c k:Nat)(B:List Int)(Q:List Nat):Prop:=SRun (pK aA xs.length (2 ^ xs.length)) (fun v=>v/2 ^ xs.length=0) (xs.length*2 ^ xs.length) (fL xs.length (st0 xs c)) k B Q
theorem aEv (h:aN aA aB xs=true)(a:4≤xs.length)(hn:xs.length≤12)(hc:xs[c]? =some id) (h0:id≠0) {k u:Nat} {B:List Int} {Q:List Nat} (hr:aQ5 aA xs c k B Q) (hu:Q[k]? =some u) (hz:u/2 ^ xs.length=0): ∃d,SGoal aA xs c d u B:=by
 obtain⟨p1,p2,p3⟩:=uU h hc h0;have hp:=mD hc h0;have hD:=mV (aA:=aA) (many:=(bP xs).length) hn;rcases aB2 h a hn hc h0 with⟨d,d60,hd,hb⟩|⟨hb,hc0,hf⟩
 ·have hG:=zN a hn hD hp hd;obtain⟨A,hA⟩:=hr.fwd p1 hG (uF a hn hD) (yB a hn hc h0);obtain⟨m,hm⟩:=(hr.ok p1 (uF a hn hD).bd).2 u (aT7 hu);obtain⟨g1,g2⟩:=hA.goal hG hu ((yB a hn hc h0 m u hm).1 hz);refine⟨d,d60,hb,g1,g2,fun j hj e=> ?_,fun j hj=>(kL a hn hD hp hd j hj).1,fun j hj=>(lQ a hn hD hp hd hj).2⟩;have e1:=hG.dist j hj;have e2:=hG.dist 0 (aTd _);rw[hG.zero]at e2;try dsimp only at e1
  rw[e,e2]at e1;omega
 have:=hr.stuck (aMr (by rw[p3,hf]));subst this;have:u=fL xs.length (st0 xs c):=by
  match k,hu with
  |0,hu=>simpa using hu.symm
  |k+1,hu=>simp at hu
 rw[this,p2]at hz;exact absurd hz hc0
theorem aHr (h:aN aA aB xs=true)(a:4≤xs.length)(hn:xs.length≤12)(hc:xs[c]? =some id) (h0:id≠0) {k:Nat} {B:List Int} {Q:List Nat} (hr:aQ5 aA xs c k B Q) (hk:Q.length≤k):dX aA xs c=none:=by
 obtain⟨p1,p2,p3⟩:=uU h hc h0;have hp:=mD hc h0;have hD:=mV (aA:=aA) (many:=(bP xs).length) hn;rcases aB2 h a hn hc h0 with⟨d,d60,hd,hb⟩|⟨hb,hc0,hf⟩
 ·have hG:=zN a hn hD hp hd;obtain⟨A,hA⟩:=hr.fwd p1 hG (uF a hn hD) (yB a hn hc h0);have:=hA.more hG;omega
 exact hb
end
end
section
open Go
theorem oM (x:Nat)(h:x<9223372036854775808):IntKind.i64.wrap (x:Int)=(x:Int):=IntWalk.i64_in _ (by omega)
theorem qM (a b:Nat)(ha:a<9223372036854775808)(hb:b<9223372036854775808):bits .and .i64 (a:Int) (b:Int)=((a&&& b:Nat):Int):=by have hx:a&&& b<2 ^ 63:=Nat.and_lt_two_pow _ (by omega);show IntKind.i64.wrap ((BitVec.ofInt 64 (a:Int)&&& BitVec.ofInt 64 (b:Int)).toNat:Int)=_;rw[BitVec.toNat_and,ofInt_u64 a (by omega),ofInt_u64 b (by omega)];exact oM _ (by omega)
theorem wP (a b:Nat)(ha:a<9223372036854775808)(hb:b<9223372036854775808):bits .xor .i64 (a:Int) (b:Int)=((a ^^^ b:Nat):Int):=by have hx:a ^^^ b<2 ^ 63:=Nat.xor_lt_two_pow (by omega) (by omega);show IntKind.i64.wrap ((BitVec.ofInt 64 (a:Int) ^^^ BitVec.ofInt 64 (b:Int)).toNat:Int)=_;rw[BitVec.toNat_xor,ofInt_u64 a (by omega),ofInt_u64 b (by omega)];exact oM _ (by omega)
theorem aJ1 (a b:Nat)(ha:a<9223372036854775808)(hb:b<9223372036854775808):bits .or .i64 (a:Int) (b:Int)=((a |||b:Nat):Int):=by have hx:a |||b<2 ^ 63:=Nat.or_lt_two_pow (by omega) (by omega);show IntKind.i64.wrap ((BitVec.ofInt 64 (a:Int) |||BitVec.ofInt 64 (b:Int)).toNat:Int)=_;rw[BitVec.toNat_or,ofInt_u64 a (by omega),ofInt_u64 b (by omega)];exact oM _ (by omega)
theorem aK8 (s k:Nat):s&&& 2 ^ k=if s.testBit k then 2 ^ k else 0:=by
 apply Nat.eq_of_testBit_eq;intro j;rw[Nat.testBit_and,Nat.testBit_two_pow];by_cases h:k=j
 ·subst h;cases hb:s.testBit k<;>simp[Nat.testBit_two_pow]
 cases hb:s.testBit k<;>simp[Nat.testBit_two_pow,h]
theorem aS1 (x k:Nat)(h:x.testBit k=false):x |||2 ^ k=x+2 ^ k:=by
 apply aVg;intro j;rw[Nat.testBit_or,aVh,xU k x h];by_cases e:k=j
 ·subst e;simp
 have e2: ¬j=k:=fun h=>e h.symm
 simp[e,e2]
theorem aMw {s f t:Nat}(hf:s.testBit f=false)(ht:s.testBit t=true):(s ^^^ 2 ^ f) ^^^ 2 ^ t=dH s f t:=by
 apply aVg;intro j;have b:f≠t:=fun e=>by subst e;rw[ht]at hf;cases hf
 rw[Nat.testBit_xor,Nat.testBit_xor,aVh,aVh,fG ht hf];by_cases e1:j=f
 ·subst e1;have e2: ¬t=j:=fun h=>b h.symm
  simp[hf,b,e2]
 have a: ¬f=j:=fun h=>e1 h.symm
 by_cases e2:j=t
 ·subst e2;simp[ht,e1,a]
 have c: ¬t=j:=fun h=>e2 h.symm
 simp[e1,a,e2,c]
theorem rK {n k:Nat}(s:Nat)(hk:k<n):(s%2 ^ n).testBit k=s.testBit k:=by rw[Nat.testBit_mod_two_pow];simp[hk]
theorem aF4 {n s f t:Nat}(b:f<n)(a:t<n)(hf:s.testBit f=false)(ht:s.testBit t=true):dH s f t=s/2 ^ n*2 ^ n+dH (s%2 ^ n) f t:=by have h1:=(xT (show(s%2 ^ n).testBit t=true by rw[rK s a];exact ht)).1;unfold dH;have h2:=aVb s (2 ^ n);rw[Nat.mul_comm]at h2;omega
theorem aQu {n s f t:Nat}(a:f<n)(b:t<n)(hf:s.testBit f=false)(ht:s.testBit t=true)(hc:f≠s/2 ^ n):iE (2 ^ n) (s/2 ^ n) (s%2 ^ n) f t=dH s f t:=by unfold iE eB;rw[if_neg hc,aF4 a b hf ht]
theorem aOb {n s f t:Nat}(a:f<n)(b:t<n)(hf:s.testBit f=false)(ht:s.testBit t=true)(hc:f=s/2 ^ n):((iE (2 ^ n) (s/2 ^ n) (s%2 ^ n) f t:Nat):Int)=(dH s f t:Nat)+((t:Int)-f)*2 ^ n:=by
 unfold iE eB;rw[if_pos hc,aF4 a b hf ht,←hc]
 push_cast
 have h1:((t:Int)-f)*2 ^ n=(t:Int)*2 ^ n-f*2 ^ n:=Int.sub_mul _ _ _;rw[h1];omega
theorem aNs {n c k:Nat}{p:Nat→Bool}(hk:k<n)(h:p k=true):(c*2 ^ n+kA p k) |||2 ^ k=c*2 ^ n+kA p (k+1):=by
 have hb:(c*2 ^ n+kA p k).testBit k=false:=by have h1:kA p k<2 ^ n:=aT4 (rF p k) (aTl (by omega) (by omega));rw[←rK _ hk,iR h1,vY (rF p k) (aT5 k)]
 rw[aS1 _ _ hb];have:kA p (k+1)=kA p k+2 ^ k:=by show kA p k+(if p k then 2 ^ k else 0)=_;rw[h];rfl
 omega
theorem aNt {k:Nat}{p:Nat→Bool}(h:p k=false):kA p (k+1)=kA p k:=by show kA p k+(if p k then 2 ^ k else 0)=_;rw[h];simp
theorem qL (a b r:Nat)(ha:a<9223372036854775808)(hb:b<9223372036854775808)(hr:r<9223372036854775808)(h: ∀j,r.testBit j=(a.testBit j&& !b.testBit j)):bits .andNot .i64 (a:Int) (b:Int)=(r:Int):=by
 have e:(BitVec.ofInt 64 (a:Int)&&& ~~~ BitVec.ofInt 64 (b:Int)).toNat=r:=by
  apply aVg;intro j;rw[BitVec.testBit_toNat,BitVec.getLsbD_and,BitVec.getLsbD_not,←BitVec.testBit_toNat,←BitVec.testBit_toNat,ofInt_u64 a (by omega),ofInt_u64 b (by omega),h];by_cases hj:j<64
  ·simp[hj]
  have:a.testBit j=false:=Nat.testBit_lt_two_pow (aT4 (show a<2 ^ 63 by omega) (aTl (by omega) (by omega)));simp[this]
 show IntKind.i64.wrap ((BitVec.ofInt 64 (a:Int)&&& ~~~ BitVec.ofInt 64 (b:Int)).toNat:Int)=_;rw[e];exact oM _ (by omega)
theorem aPg {S f t:Nat}(hf:S.testBit f=false)(ht:S.testBit t=true)(h1:S<4096)(h2:dH S f t<4096)(h3:2 ^ f<4096):bits .andNot .i64 ((dH S f t:Nat):Int) (S:Int)=((2 ^ f:Nat):Int):=by
 refine qL _ _ _ (by omega) (by omega) (by omega) (fun j=> ?_);rw[fG ht hf,aVh];by_cases e:j=f
 ·subst e;simp[hf]
 have e': ¬f=j:=fun h=>e h.symm
 simp only[e,e',decide_false,Bool.false_or];cases S.testBit j<;>simp
theorem aPf {S f t:Nat}(hf:S.testBit f=false)(ht:S.testBit t=true)(h1:S<4096)(h2:dH S f t<4096)(h3:2 ^ t<4096):bits .andNot .i64 (S:Int) ((dH S f t:Nat):Int)=((2 ^ t:Nat):Int):=by
 refine qL _ _ _ (by omega) (by omega) (by omega) (fun j=> ?_);have a:f≠t:=fun e=>by subst e;rw[ht]at hf;cases hf
 rw[fG ht hf,aVh];by_cases e:j=t
 ·subst e;have e2: ¬j=f:=fun h=>a h.symm
  simp[ht,e2]
 have e': ¬t=j:=fun h=>e h.symm
 simp only[e,e',decide_false,Bool.not_false,Bool.and_true];by_cases e3:j=f
 ·subst e3;simp[hf]
 simp only[e3,decide_false,Bool.false_or];cases S.testBit j<;>simp
theorem aK9 (s n:Nat)(hs:s<9223372036854775808)(hn:n≤12):bits .and .i64 (s:Int) ((2 ^ n-1:Nat):Int)=((s%2 ^ n:Nat):Int):=by have hp:2 ^ n≤2 ^ 12:=aTl (n:=2) (by omega) hn;rw[qM s _ hs (by omega),Nat.and_two_pow_sub_one_eq_mod]
end
section
open Go.Proofs.Tryz
theorem aSf:prog.globalNamed "math/bits.deBruijn64tab" =some 5:=by kernel_rfl
def BitTab (w:World):Prop:=Lib.TabIs prog w "math/bits.deBruijn64tab" .u8 (Lib.deBruijn64tab.map (fun(n:Nat)=>(n:Int)))
theorem BitTab.ext {w w':World}(h:BitTab w)(hx:Ext w w'):BitTab w':=Joins.var_stays aSf h hx (aT5 _)
theorem aQa: ∀k:Fin 12,∃idx:Fin 64,IntKind.u64.wrap (bits BinOp.and IntKind.u64 ((2 ^ k.val:Nat):Int) (IntKind.u64.wrap (-((2 ^ k.val:Nat):Int)))*285870213051353865)/288230376151711744=(idx.val:Int)∧(Lib.deBruijn64tab.map (fun(n:Nat)=>(n:Int)))[idx.val]? =some (k.val:Int):=by decide+kernel
theorem aKh (x a:Nat)(k:Int)(w:World)(d:((x:Int)==0)=false)(f:IntKind.u64.wrap (x:Int)=(x:Int))
  (c:IntKind.u64.wrap (bits BinOp.and IntKind.u64 (x:Int) (IntKind.u64.wrap (-(x:Int)))*285870213051353865)/288230376151711744=(a:Int))
  (hi:a<64)(b:w.cell? ⟨5,a,none⟩=some (.int .u8 k))(hk:IntKind.i64.wrap k=k):
  U 203 #[.int .u64 (x:Int)] w fun e w'=>e= .returned (I k)∧w=w':=by
 go_enter func203,ntmps203;go_wp2_with (simp only[c]);go_ret;exact⟨rfl,rfl⟩
theorem aQb (x:Nat)(k:Int)(w:World)(a:IntKind.u64.wrap (x:Int)=(x:Int))
  (H:Hid (U 203 #[.int .u64 (x:Int)] w fun e w'=>e= .returned (I k)∧w=w')):
  U 177 #[.int .u64 (x:Int)] w fun e w'=>e= .returned (I k)∧w=w':=by
 go_enter func177,ntmps177;go_wp2_with fail;refine H.out.mono ?_;rintro e w' ⟨rfl,rfl⟩;go_wp2;go_ret;exact⟨rfl,rfl⟩
theorem aAy (k:Nat)(w:World)(hk:k<12)(hE:BitTab w):U 177 #[.int .u64 ((2 ^ k:Nat):Int)] w fun e w'=>e= .returned (I k)∧w=w':=by
 obtain⟨⟨b,hi⟩,c,ht⟩:=aQa ⟨k,hk⟩;dsimp only at c ht;have hp:2 ^ k≤2 ^ 11:=aTl (n:=2) (by omega) (by omega);have h0:0<2 ^ k:=aVf k;have a:IntKind.u64.wrap ((2 ^ k:Nat):Int)=((2 ^ k:Nat):Int):=by rw[IntKind.wrap_u64];omega
 have hc:=hE.cell aSf b (by simpa[Lib.deBruijn64tab]using hi);refine aQb (2 ^ k) k w a (aKh (2 ^ k) b k w (beq_eq_false_iff_ne.2 (by omega)) a c hi (by rw[hc,aTb,ht];rfl) (aT8 _ (by omega)))
theorem vA: ∀(l:List Sl2) (i:Nat) (s:Sl2),(l.set i s).flatMap aM=((l.flatMap aM).set (i*2) (I s.1)).set (i*2+1) (I s.2)
 | [],i,s=>by simp
 |x::l,0,s=>by simp[aM]
 |x::l,i+1,s=>by rw[aTj,aUc,aUc,vA l i s,show(i+1)*2=i*2+1+1 by omega];simp[aM]
theorem aN1 (d:Array Sl2)(i j:Nat):(Sort.swp d i j).toList=(d.toList.set i d[j]!).set j d[i]! :=by simp[Sort.swp]
theorem aJv (l:List Sl2)(i:Nat)(s:Sl2)(h:l[i]? =some s):(l.flatMap aM)[i*2]? =some (I s.1)∧(l.flatMap aM)[i*2+1]? =some (I s.2):=by have h0:=eP aM 2 (fun _=>rfl) l i s h 0 (by omega);have h1:=eP aM 2 (fun _=>rfl) l i s h 1 (by omega);exact⟨h0,h1⟩
theorem aSp (g n c:Nat)(d:Array Sl2)(w0 w:World)(hn:n≤1000)(hd:Hid (d.size=n))(h0:Hid (Mem w0 w [aJ w0 TSL 2 (some ⟨g,0,none⟩) n c (d.toList.flatMap aM)])):
  U 211 #[.slice (some ⟨g,0,none⟩) n c] w fun e w'=>e= .returned (.tuple #[])∧Mem w0 w' [aJ w0 TSL 2 (some ⟨g,0,none⟩) n c (d.reverse.toList.flatMap aM)]:=by
 have ae:=aVw ((n:Int)-1);go_enter func211,ntmps211;go_wp2;go_loopw [2,3] (fun s2 s3 wr=> ∃(i jn:Nat) (jz:Int) (dk:Array Sl2),s2=I i∧s3=I jz∧i≤n∧ -1≤jz∧jz≤n∧((i:Int)<jz→jz=(jn:Int)∧jn<n)∧(¬(i:Int)<jz→ ¬i<jn)∧dk.size=n∧Sort.reverseLoop i jn dk=Sort.reverseLoop 0 (d.size-1) d∧Mem w0 wr [aJ w0 TSL 2 (some ⟨g,0,none⟩) n c (dk.toList.flatMap aM)]) (fun a b _=>(Lib.intOf b-Lib.intOf a).toNat)
 case atStart=>exact⟨0,d.size-1,(n:Int)-1,d,rfl,rfl,aTd _,by omega,by omega,fun h=>⟨by rw[hd.out];omega,by rw[hd.out];omega⟩,fun h=>by rw[hd.out];omega,hd.out,rfl,h0.out⟩
 case round=>
  clear h0 ae;obtain⟨i,jn,jz,dk,rfl,rfl,af,ag,ah,h1,h2,r,t,hM⟩:=hrel;have HM:=hM;have j:=xQ t;have f:=xQ r;clear hM t r;by_cases hlt:(i:Int)<jz
  ·obtain⟨rfl,ad⟩:=h1 hlt;have ab:i<jn:=by omega
   obtain⟨⟨a0,a1⟩,ha⟩: ∃s,dk[i]! =s:=⟨_,rfl⟩
   obtain⟨⟨b0,b1⟩,hb⟩: ∃s,dk[jn]! =s:=⟨_,rfl⟩
   have p:dk.toList[i]? =some (a0,a1):=by rw[←ha];simp[f.out,show i<n by omega]
   have q:dk.toList[jn]? =some (b0,b1):=by rw[←hb];simp[f.out,ad]
   obtain⟨k,l⟩:=aJv _ _ _ p;obtain⟨m,o⟩:=aJv _ _ _ q;have x:wr.cell? ⟨g,i*2,none⟩=some (I a0):=((HM.ow 0).cellAt (i*2) (by omega)).trans k;have y:wr.cell? ⟨g,i*2+1,none⟩=some (I a1):=((HM.ow 0).cellAt (i*2+1) (by omega)).trans l;have z:wr.cell? ⟨g,jn*2,none⟩=some (I b0):=((HM.ow 0).cellAt (jn*2) (by omega)).trans m;have aa:wr.cell? ⟨g,jn*2+1,none⟩=some (I b1):=((HM.ow 0).cellAt (jn*2+1) (by omega)).trans o;have f0:wr.frozen? ⟨g,i*2,none⟩=false:=(HM.ow 0).frozenAt _;have f1:wr.frozen? ⟨g,i*2+1,none⟩=false:=(HM.ow 0).frozenAt _;have f2:wr.frozen? ⟨g,jn*2,none⟩=false:=(HM.ow 0).frozenAt _;have f3:wr.frozen? ⟨g,jn*2+1,none⟩=false:=(HM.ow 0).frozenAt _;have v:Hid ((Sort.swp dk i jn).toList.flatMap aM=((((dk.toList.flatMap aM).set (i*2) (I b0)).set (i*2+1) (I b1)).set (jn*2) (I a0)).set (jn*2+1) (I a1)):=by show _=_;rw[aN1,ha,hb,vA,vA]
   clear k l m o p q ha hb h1 h2
   have M2:=(show Mem w0 ((((wr.drew.setCell ⟨g,i*2,none⟩ (I b0)).setCell ⟨g,i*2+1,none⟩ (I b1)).setCell ⟨g,jn*2,none⟩ (I a0)).setCell ⟨g,jn*2+1,none⟩ (I a1)) [aJ w0 TSL 2 (some ⟨g,0,none⟩) n c ((Sort.swp dk i jn).toList.flatMap aM)]from by
    rw[v.out]
    exact((((HM.adv (Ext.drew (Ext.refl _))).ostore (i:=0) rfl (i*2) (I b0)).ostore (i:=0) rfl (i*2+1) (I b1)).ostore (i:=0) rfl (jn*2) (I a0)).ostore (i:=0) rfl (jn*2+1) (I a1))
   clear HM v;have i1:=aVt i;have i2:=aVu i n;have i3:=aVt jn;have i4:=aVu jn n;have i5:=aVw ((jn:Int)-1);go_wp2_with fail;go_region;clear x y z aa f0 f1 f2 f3;go_wp2;go_roundw
   case rel=>have h9:=j.out;rw[Sort.reverseLoop,if_pos ab]at h9;exact⟨i+1,jn-1,(jn:Int)-1,Sort.swp dk i jn,by go_num,rfl,by omega,by omega,by omega,fun h=>⟨by omega,by omega⟩,fun h=>by omega,by rw[Sort.size_swp];exact f.out,h9,M2⟩
   case measure=>simp[Lib.intOf];omega
  have u:=h2 hlt;have h9:=j.out;rw[Sort.reverseLoop,if_neg u,Lib.reverseLoop_reverse]at h9;rw[h9]at HM;clear j h1 h2 h9;go_wp2;go_end0;exact⟨rfl,by simpa using HM⟩
theorem aO3 (g n c:Nat)(l:List Sl2)(w0 w:World)(hn:n≤1000)(hl:l.length=n)(h0:Mem w0 w [aJ w0 TSL 2 (some ⟨g,0,none⟩) n c (l.flatMap aM)]):
  U 211 #[.slice (some ⟨g,0,none⟩) n c] w fun e w'=>e= .returned (.tuple #[])∧Mem w0 w' [aJ w0 TSL 2 (some ⟨g,0,none⟩) n c (l.reverse.flatMap aM)]:=by
 have:=aSp g n c l.toArray w0 w hn (xQ (by simpa using hl)) (xQ (by simpa using h0));simpa using this
theorem aLc (a:OA)(c:Nat)(w:World):U 211 #[.slice a 0 c] w fun e w'=>e= .returned (.tuple #[])∧w=w':=by
 go_enter func211,ntmps211;go_wp2;go_loopw [2,3] (fun s2 s3 wr=>s2=I 0∧s3=I (-1)∧w=wr) (fun _ _ _=>0)
 case atStart=>exact⟨rfl,rfl,rfl⟩
 case round=>obtain⟨rfl,rfl,rfl⟩:=hrel;go_wp2;go_end0;exact⟨rfl,rfl⟩
def pG (xs:List Int):List Value:=xs.map (fun x=> .int .i32 x)
def aSr:Value→Nat
 | .slice _ n _=>n
 |_=>0
structure Trail (n N d:Nat) (B:List Int) (code:Nat→Nat) (e:Nat→Nat×Nat):Prop where
 len:B.length=N
 lt: ∀j,j≤d→code j<N
 far: ∀j,j≤d→code j=code 0→j=0
 back: ∀j,j<d→B.getD (code (j+1)) 0=code j
 f: ∀j,j<d→(e j).1<n
 t: ∀j,j<d→(e j).2<n
 hf: ∀j,j<d→(code j%2 ^ n).testBit (e j).1=false
 ht: ∀j,j<d→(code j%2 ^ n).testBit (e j).2=true
 mv: ∀j,j<d→code (j+1)%2 ^ n=dH (code j%2 ^ n) (e j).1 (e j).2
def pR (e:Nat→Nat×Nat)(d k:Nat):List Sl2:=(List.range k).map (fun i=>jZ (e (d-1-i)))
theorem aJc (e:Nat→Nat×Nat)(d k:Nat):pR e d (k+1)=pR e d k++ [jZ (e (d-1-k))]:=by unfold pR;rw[aUt,aUj];rfl
theorem aMp (e:Nat→Nat×Nat)(d k:Nat):(pR e d k).length=k:=by simp[pR]
theorem aMo (e:Nat→Nat×Nat)(d:Nat):(pR e d d).reverse=(List.range d).map (fun i=>jZ (e i)):=by
 apply List.ext_getElem (by simp[pR]);intro i h1 h2;have hi:i<d:=by simpa using h2
 simp only[pR,List.getElem_reverse,List.getElem_map,List.getElem_range,aU1,List.length_range];congr 2;omega
structure aSk (n j:Nat) (B:List Int) (code:Nat→Nat) (e:Nat→Nat×Nat) (A C1 C0 S1 S0 F T:Nat):Prop where
 a1:bits .and .i64 (C1:Int) (A:Int)=(S1:Int)
 a0:bits .and .i64 (C0:Int) (A:Int)=(S0:Int)
 n1:bits .andNot .i64 (S1:Int) (S0:Int)=((2 ^ F:Nat):Int)
 n0:bits .andNot .i64 (S0:Int) (S1:Int)=((2 ^ T:Nat):Int)
 f:F<12
 t:T<12
 w0:IntKind.i64.wrap (C0:Int)=(C0:Int)
 at1:B[C1]? =some (C0:Int)
theorem Trail.step {n N d:Nat}{B:List Int}{a:Nat→Nat}{e:Nat→Nat×Nat}(h:Trail n N d B a e)(hn:n≤12)(hN:N≤49152){j:Nat}(hj:j<d):
  aSk n j B a e (2 ^ n-1) (a (j+1)) (a j) (a (j+1)%2 ^ n) (a j%2 ^ n) (e j).1 (e j).2:=by
 have l1:=h.lt (j+1) (by omega);have l0:=h.lt j (by omega);have hf:=h.f j hj;have ht:=h.t j hj;have p0:2 ^ n≤2 ^ 12:=aTl (n:=2) (by omega) hn;have p1:2 ^ (e j).1≤2 ^ 11:=aTl (n:=2) (by omega) (by omega);have p2:2 ^ (e j).2≤2 ^ 11:=aTl (n:=2) (by omega) (by omega);have hp:=aVf n;have m1:=Nat.mod_lt (a (j+1)) hp;have m0:=Nat.mod_lt (a j) hp;refine⟨aK9 _ n (by omega) hn,aK9 _ n (by omega) hn,?_,?_,by omega,by omega,aT8 _ (by omega),?_⟩
 ·have hm:=h.mv j hj;rw[hm]at m1⊢;exact aPg (h.hf j hj) (h.ht j hj) (by omega) (by omega) (by omega)
 ·have hm:=h.mv j hj;rw[hm]at m1⊢;exact aPf (h.hf j hj) (h.ht j hj) (by omega) (by omega) (by omega)
 have:=h.back j hj;rw[aTb,aT6 (by rw[h.len];exact l1)]at this;rw[aT6 (by rw[h.len];exact l1)];exact congrArg some this
theorem aOo (n N d cB gB:Nat)(B:List Int)(a:Nat→Nat)(e:Nat→Nat×Nat)(w:World)(hn:n≤12)(hN:N≤49152)(hd:d≤60)(hT:Hid (Trail n N d B a e))(hS:Hid (Sl w (some ⟨gB,0,none⟩) N cB 1 (pG B)))(hE:Hid (BitTab w))(hb:gB<w.heap.size):
  U 201 #[.slice (some ⟨gB,0,none⟩) N cB,I ((a 0:Nat)),I ((a d:Nat)),n] w (gH ((List.range d).map (fun i=>jZ (e i))) w):=by
 have hp:=aVf n;have s:2 ^ n≤2 ^ 12:=aTl (n:=2) (by omega) hn;obtain⟨A,hA⟩: ∃A,A=2 ^ n-1:=⟨_,rfl⟩
 have b:=xQ (show∀j,j<d→_ from fun j hj=>hT.out.step hn hN hj);rw[←hA]at b;obtain⟨Q,hQ⟩: ∃Q:Nat,Q=2 ^ n:=⟨_,rfl⟩
 have ad:(2:Int) ^ n=(Q:Int):=by rw[hQ];simp
 have af:IntKind.i64.wrap (Q:Int)=(Q:Int):=aT8 _ (by omega);have ae:IntKind.i64.wrap ((Q:Int)-1)=(A:Int):=by rw[aT8 _ (by omega)];omega
 clear hA hQ hp s;obtain⟨s0,c⟩: ∃s0,s0=a 0:=⟨_,rfl⟩
 have f:=xQ c;rw[←c];clear c;go_enter func201,ntmps201;have M0:=(show Mem w w [aJ w TSL 2 (none) (0) (0) ((pR e d 0).flatMap aM)]from(Mem.start w).ownNew (Ext.refl _) (aTe _ _ TSL 2) (aT5 _))
 go_wp2;go_loopw [2,10] (fun st v wr=> ∃(k:Nat) (q:OA) (lc:Nat),k≤d∧st=I ((a (d-k):Nat))∧v= .slice q k lc∧Mem w wr [aJ w TSL 2 (q) (k) (lc) ((pR e d k).flatMap aM)]) (fun _ v _=>d-aSr v)
 case atStart=>exact⟨0,none,0,aTd _,rfl,rfl,M0⟩
 case round=>
  clear M0;obtain⟨k,q,lc,hk,rfl,rfl,hM⟩:=hrel;have HM:=hM;clear hM;by_cases hlt:k<d
  ·obtain⟨j,hj⟩: ∃j,j=d-1-k:=⟨_,rfl⟩
   have hB:=b j (by omega);have h:=hT.out.lt (j+1) (by omega);have x:a (j+1)≠s0:=by rw[f.out];intro e2;have:=hT.out.far (j+1) (by omega) e2;omega
   have m:=xQ (aJc e d k);rw[←hj]at m;have o:d-k=j+1:=by omega
   have p:=xQ (show d-(k+1)=j by omega);rw[o];generalize a (j+1)=C1 at*;have t:=xQ (show a (d-(k+1))=a j by rw[p.out]);generalize a j=C0 at*;generalize C1%2 ^ n=S1 at*;generalize C0%2 ^ n=S0 at*;have u:Hid (jZ (e j)=(((e j).1:Int),((e j).2:Int))):=rfl;generalize (e j).1=F at*;generalize (e j).2=T at*;obtain⟨b1,b2,b3,b4,b5,b6,b7,b8⟩:=hB;have HF:=xQ (fun(w':World) (hx:Ext w w')=>aAy F w' b5 (hE.out.ext hx));have HT:=xQ (fun(w':World) (hx:Ext w w')=>aAy T w' b6 (hE.out.ext hx));have pF:2 ^ F≤2 ^ 11:=aTl (n:=2) (by omega) (by omega);have pT:2 ^ T≤2 ^ 11:=aTl (n:=2) (by omega) (by omega);generalize 2 ^ F=PF at*;generalize 2 ^ T=PT at*;have u1:IntKind.u64.wrap (PF:Int)=(PF:Int):=by rw[IntKind.wrap_u64];omega
   have u2:IntKind.u64.wrap (PT:Int)=(PT:Int):=by rw[IntKind.wrap_u64];omega
   have t0:((C1:Int)!=(s0:Int))=true:=by simp;omega
   have i1:=aVt C1;have i2:=aVu C1 N;have cb:wr.cell? ⟨gB,C1,none⟩=some (.int .i32 (C0:Int)):=by refine(HM.ext.cells.1 _ _ hb).trans ?_;obtain⟨b',o',e1,_,hc⟩:=hS.out.rd (by omega);injection e1 with e1;injection e1 with e1 e2;subst e1 e2;have:=hc C1 (by omega);rw[aUf]at this;rw[this];simp[pG,b8]
   clear x h pF pT b5 b6 b8 b hT o
   go_wp2_with (first
    |(go_at_call 177;first
      |((with_reducible refine(HF _ HM.ext).mono ?_);rintro e9 w9 ⟨rfl,rfl⟩)
      |((with_reducible refine(HT _ HM.ext).mono ?_);rintro e9 w9 ⟨rfl,rfl⟩))
    |(at_builtin;go_loud (refine cJ rS rfl _ _ rfl (HM.adv ((Ext.refl _).alloc (.cells #[F,T] TSL))) 0 rfl rfl (aM ((F:Int),(T:Int))) rfl (eD _ _ _ 1 2 _ (by first|rfl|simp) (by first|rfl|simp) (by simp[maxLen])) (oS _ _) (by omega) ?_;intro q7 c7 w6 M7)))
   have M8:=(show Mem w w6 [aJ w TSL 2 (q7) (k+1) (c7) ((pR e d (k+1)).flatMap aM)]from by rw[m.out,aTz,aUc,List.flatMap_nil,aTv,u.out];exact M7)
   clear M7 HM;go_wp2;go_roundw
   case rel=>exact⟨k+1,q7,c7,by omega,by rw[t.out],rfl,M8⟩
   case measure=>simp[aSr];omega
  obtain rfl:d=k:=by omega
  have t0:((s0:Int)!=(s0:Int))=false:=by simp
  rw[show a (d-d)=s0 by rw[aV0,f.out]];have ab:=xQ (aMo e d);have y:=xQ (aMp e d d);by_cases h0:d=0
  ·subst h0;go_wp2_with fail;refine(aLc q lc _).mono ?_;rintro e9 w9 ⟨rfl,rfl⟩;go_wp2;go_ret;exact⟨q,lc,rfl,HM.ow 0,HM.ext⟩
  obtain⟨g,rfl,z,aa⟩:=HM.so 0;clear z aa;have HR:=xQ (aO3 g d lc (pR e d d) w wr (by omega) y.out HM);go_wp2_with fail;refine HR.out.mono ?_;rintro e9 w9 ⟨rfl,l⟩;have M9:=(show Mem w w9 [aJ w TSL 2 (some ⟨g,0,none⟩) (d) (lc) (((List.range d).map (fun i=>jZ (e i))).flatMap aM)]from by rw[←ab.out];exact l)
  clear l HM HR;go_wp2;go_ret;have r:((List.range d).map (fun i=>jZ (e i))).length=d:=by simp
  exact⟨some ⟨g,0,none⟩,lc,by rw[r];rfl,by rw[r];exact M9.ow 0,M9.ext⟩
end
theorem jG (v:Value)(n:Nat):(madeCells #[v] n).toList=List.replicate n v∧(madeCells #[v] n).size=n:=by
 constructor
 ·apply List.ext_getElem<;>simp[madeCells,Nat.mod_one]
 simp[madeCells]
def jC (n:Nat)(rows:List RowD):List Value:=rows.map RowD.v++List.replicate (n-rows.length) (.slice none 0 0)
theorem aPb {n:Nat}{rows:List RowD}(h:rows.length<n):(jC n rows)[rows.length]? =some (.slice none 0 0):=by unfold jC;rw[aTy (by simp)];simp[aV1];omega
theorem aMe {n:Nat}{rows:List RowD}(h:rows.length<n)(r:RowD):(jC n rows).set rows.length r.v=jC n (rows++ [r]):=by
 unfold jC;have e:n-rows.length=(n-(rows++ [r]).length)+1:=by simp;omega
 rw[e,aV9,aVj _ _ (by simp),aUj,aTx];simp
theorem aMf {n k:Nat}{rows:List RowD}{r:RowD}(h:rows[k]? =some r):(jC n rows)[k]? =some r.v:=by unfold jC;rw[aTr (by simpa using(aT9.1 h).1),aTo,h];rfl
theorem uC (xs:List Int)(k:Nat)(x:Int):(pG xs).set k (.int .i32 x)=pG (xs.set k x):=by simp[pG,List.map_set]
theorem aDl {xs:List Int}{k:Nat}{x:Int}(h:xs[k]? =some x):(pG xs)[k]? =some (.int .i32 x):=by simp[pG,h]
theorem vH {aA:Int}{n M s f:Nat}(hf:f≤n): ∀v∈jB aA n M s f,v∈pK aA n M s:=by intro v hv;rw[←aBd];unfold jB at hv⊢;obtain⟨x,hx,hv⟩:=List.mem_flatMap.1 hv;exact List.mem_flatMap.2 ⟨x,aTq.2 (aT4 (aTq.1 hx) hf),hv⟩
theorem aBc {aA:Int}{n M s f j:Nat}(hf:f<n)(hb:(s%M).testBit f=false): ∀v∈jQ aA n M s f j,v∈pK aA n M s:=by intro v hv;refine vH (f:=f+1) hf v ?_;rw[sO,aPl hb];refine List.mem_append_right _ ?_;unfold jQ at hv⊢;rw[aUv];obtain⟨t,ht,e⟩:=List.mem_map.1 hv;obtain⟨h1,h2⟩:=aTs.1 ht;exact List.mem_map.2 ⟨t,aTs.2 ⟨aUl h1,h2⟩,e⟩
structure aSj (n u f t PF PT P2 X1 mv nx:Nat) (D:Int):Prop where
 x1:bits .xor .i64 (u:Int) (PF:Int)=(X1:Int)
 x2:bits .xor .i64 (X1:Int) (PT:Int)=(mv:Int)
 no:f≠u/P2→mv=nx
 yes:f=u/P2→IntKind.i64.wrap ((mv:Int)+D)=(nx:Int)
 d:IntKind.i64.wrap (((t:Int)-(f:Int))*(P2:Int))=D
theorem aQt {n u f t:Nat}(hn:n≤12)(hu:u<n*2 ^ n)(a:f<n)(b:t<n)(hf:u.testBit f=false)(ht:u.testBit t=true)(hb:iE (2 ^ n) (u/2 ^ n) (u%2 ^ n) f t<n*2 ^ n):
  aSj n u f t (2 ^ f) (2 ^ t) (2 ^ n) (u ^^^ 2 ^ f) (dH u f t) (iE (2 ^ n) (u/2 ^ n) (u%2 ^ n) f t) (((t:Int)-(f:Int))*(2 ^ n:Nat)):=by
 have p0:2 ^ n≤2 ^ 12:=aTl (n:=2) (by omega) hn;have p1:2 ^ f≤2 ^ 11:=aTl (n:=2) (by omega) (by omega);have p2:2 ^ t≤2 ^ 11:=aTl (n:=2) (by omega) (by omega);have hN:n*2 ^ n≤12*4096:=Nat.mul_le_mul hn (by omega);have e:u ^^^ 2 ^ f<2 ^ 16:=Nat.xor_lt_two_pow (by omega) (by omega);have c:((t:Int)-(f:Int))*(2 ^ n:Nat)≤12*4096:=by
  have h1:((t:Int)-(f:Int))*(2 ^ n:Nat)=(t:Int)*(2 ^ n:Nat)-(f:Int)*(2 ^ n:Nat):=Int.sub_mul _ _ _;have h2:t*2 ^ n≤12*4096:=Nat.mul_le_mul (by omega) (by omega);have h3:(t:Int)*(2 ^ n:Nat)=((t*2 ^ n:Nat):Int):=by push_cast;rfl
  have h4:(f:Int)*(2 ^ n:Nat)=((f*2 ^ n:Nat):Int):=by push_cast;rfl
  omega
 have d: -(12*4096)≤((t:Int)-(f:Int))*(2 ^ n:Nat):=by
  have h1:((t:Int)-(f:Int))*(2 ^ n:Nat)=(t:Int)*(2 ^ n:Nat)-(f:Int)*(2 ^ n:Nat):=Int.sub_mul _ _ _;have h2:f*2 ^ n≤12*4096:=Nat.mul_le_mul (by omega) (by omega);have h3:(t:Int)*(2 ^ n:Nat)=((t*2 ^ n:Nat):Int):=by push_cast;rfl
  have h4:(f:Int)*(2 ^ n:Nat)=((f*2 ^ n:Nat):Int):=by push_cast;rfl
  omega
 refine⟨wP _ _ (by omega) (by omega),?_,fun hc=>(aQu a b hf ht hc).symm,fun hc=> ?_,aT8 _ (by omega)⟩
 ·rw[wP _ _ (by omega) (by omega),aMw hf ht]
 have h1:=aOb a b hf ht hc;have h2:((2 ^ n:Nat):Int)=(2:Int) ^ n:=by simp
 rw[h2,←h1];exact aT8 _ (by omega)
theorem aQ2 {u f:Nat}(hu:u<9223372036854775808)(hf:f<12)(hb:u.testBit f=false):bits .and .i64 (u:Int) ((2 ^ f:Nat):Int)=0:=by have p1:2 ^ f≤2 ^ 11:=aTl (n:=2) (by omega) (by omega);rw[qM u _ hu (by omega),aK8,hb];rfl
theorem aK5 {u f:Nat}(hu:u<9223372036854775808)(hf:f<12)(hb:u.testBit f=true):bits .and .i64 (u:Int) ((2 ^ f:Nat):Int)=((2 ^ f:Nat):Int):=by have p1:2 ^ f≤2 ^ 11:=aTl (n:=2) (by omega) (by omega);rw[qM u _ hu (by omega),aK8,hb];rfl
theorem SGoal.trail {aA:Int}{xs:List Int}{c d u:Nat}{B:List Int}(hn:xs.length≤12)(h:SGoal aA xs c d u B)(hl:B.length=xs.length*2 ^ xs.length):
  Trail xs.length (xs.length*2 ^ xs.length) d B (fun j=>fL xs.length (gP aA xs.length (aY (iI aA xs.length (bP xs).length)) (st0 xs c) j)) (fun j=>iH aA xs.length (aY (iI aA xs.length (bP xs).length)) (st0 xs c) j):=by
 have a: ∀j,j≤d→fL xs.length (gP aA xs.length (aY (iI aA xs.length (bP xs).length)) (st0 xs c) j)%2 ^ xs.length=(gP aA xs.length (aY (iI aA xs.length (bP xs).length)) (st0 xs c) j).2:=fun j hj=>(lS (h.pt j hj).set).2
 refine⟨hl,fun j hj=>uM (h.pt j hj).car (h.pt j hj).set,fun j hj e=>h.far j hj e,h.back,fun j hj=> ?_,fun j hj=> ?_,fun j hj=> ?_,fun j hj=> ?_,fun j hj=> ?_⟩
 ·exact(fX.1 (h.edge j hj).1).1
 ·exact(fX.1 (h.edge j hj).1).2.1
 ·rw[a j (by omega)];exact(fX.1 (h.edge j hj).1).2.2.2.1
 ·rw[a j (by omega)];exact(fX.1 (h.edge j hj).1).2.2.2.2
 rw[a j (by omega),a (j+1) (by omega),(h.edge j hj).2];rfl
end Go.Proofs.YthfmmibomhhmpaaGreatDoor
