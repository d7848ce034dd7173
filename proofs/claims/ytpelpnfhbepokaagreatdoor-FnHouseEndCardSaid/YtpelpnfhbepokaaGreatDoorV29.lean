/-
  Texts of this proof, packed (@packed).
-/
import Derived.Lib.LaidTab
import Derived.Lib.SlicesMore
import Derived.Lib.TrailingZeros
import Derived.Test.YtpelpnfhbepokaaGreatDoorV15
namespace Go.Proofs.YtpelpnfhbepokaaGreatDoor
open Go.RowKit
set_option linter.unusedVariables false
set_option linter.unusedSimpArgs false
def fF (aA:Int)(n M s f:Nat):List Nat:=if(s%M).testBit f then []else((aS aA n f).filter (fun t=>(s%M).testBit t)).map (fun t=>fP M (s/M) (s%M) f t)
def gM (aA:Int)(n M s f:Nat):List Nat:=(List.range f).flatMap (fF aA n M s)
def iE (aA:Int)(n M s f j:Nat):List Nat:=(((aS aA n f).take j).filter (fun t=>(s%M).testBit t)).map (fun t=>fP M (s/M) (s%M) f t)
theorem wH (aA:Int)(n M s:Nat):gM aA n M s n=mR aA n M s:=by
 unfold gM mR eA;rw[List.map_flatMap];congr 1;funext f;unfold fF;split
 ·rfl
 rw[List.map_map];rfl
theorem oY (aA:Int)(n M s f:Nat):gM aA n M s (f+1)=gM aA n M s f++fF aA n M s f:=by unfold gM;rw[List.range_succ,List.flatMap_append];simp
theorem aLo {aA:Int}{n M s f:Nat}(hb:(s%M).testBit f=true):fF aA n M s f= []:=by unfold fF;rw[if_pos hb]
theorem aJ4 {aA:Int}{n M s f:Nat}(hb:(s%M).testBit f=false):fF aA n M s f=iE aA n M s f (aS aA n f).length:=by unfold fF iE;rw[if_neg (by rw[hb];decide),List.take_length]
theorem aCk (aA:Int)(n M s f:Nat):iE aA n M s f 0= []:=rfl
theorem aHx {aA:Int}{n M s f j t:Nat}(hj:(aS aA n f)[j]? =some t) (hb:(s%M).testBit t=false):iE aA n M s f (j+1)=iE aA n M s f j:=by unfold iE;rw[bA hj,List.filter_append,List.map_append];simp[hb]
theorem aFi {aA:Int}{n M s f j t:Nat}(hj:(aS aA n f)[j]? =some t) (hb:(s%M).testBit t=true):iE aA n M s f (j+1)=iE aA n M s f j++ [fP M (s/M) (s%M) f t]:=by unfold iE;rw[bA hj,List.filter_append,List.map_append];simp[hb]
structure SOk (N:Nat) (B:List Int) (Q:List Nat):Prop where
 len:B.length=N
 bd: ∀v∈Q,v<N
 mem: ∀v,v<N→(0≤B.getD v 0↔v∈Q)
 nodup:Q.Nodup
theorem SOk.qlen {N:Nat}{B:List Int}{Q:List Nat}(h:SOk N B Q):Q.length≤N:=nF h.nodup h.bd
theorem SOk.relax {N:Nat}{B:List Int}{Q:List Nat}(h:SOk N B Q){u:Int}(hu:0≤u){v:Nat}(hv:v<N):SOk N (eF u (B,Q) v).1 (eF u (B,Q) v).2:=by
 unfold Go.Proofs.YtpelpnfhbepokaaGreatDoor.eF;by_cases hc:B.getD v 0<0
 ·rw[if_pos hc];have c:v∉Q:=fun hm=>by have:=(h.mem v hv).2 hm;omega
  refine⟨by simp[h.len],?_,?_,?_⟩
  ·intro x hx;rcases List.mem_append.1 hx with hx|hx
   ·exact h.bd x hx
   obtain rfl:=List.mem_singleton.1 hx;exact hv
  ·intro x hx;dsimp only;rw[List.mem_append,List.mem_singleton];by_cases e:v=x
   ·subst e;rw[cF (by rw[h.len];exact hv)];exact⟨fun _=> .inr rfl,fun _=>hu⟩
   rw[bO e,h.mem x hx];exact⟨.inl,fun h=>h.resolve_right (fun e2=>e e2.symm)⟩
  show(Q++ [v]).Nodup;rw[List.nodup_append];exact⟨h.nodup,by simp,fun a ha b hb e=>by obtain rfl:=List.mem_singleton.1 hb;exact c (e▸ha)⟩
 rw[if_neg hc];exact h
theorem SOk.expand {N:Nat}{u:Int}(hu:0≤u): ∀(vs:List Nat) {B:List Int} {Q:List Nat},SOk N B Q→(∀v∈vs,v<N)→SOk N (bL u (B,Q) vs).1 (bL u (B,Q) vs).2
 | [],B,Q,h,_=>h
 |v::vs,B,Q,h,hv=>by have h1:=h.relax hu (hv v (by simp));have:Go.Proofs.YtpelpnfhbepokaaGreatDoor.bL u (B,Q) (v::vs)=Go.Proofs.YtpelpnfhbepokaaGreatDoor.bL u ((Go.Proofs.YtpelpnfhbepokaaGreatDoor.eF u (B,Q) v).1,(Go.Proofs.YtpelpnfhbepokaaGreatDoor.eF u (B,Q) v).2) vs:=rfl;rw[this];exact SOk.expand hu vs h1 (fun x hx=>hv x (by simp[hx]))
theorem nM (u:Int): ∀(vs:List Nat) (B:List Int) (Q:List Nat),∃r,(bL u (B,Q) vs).2=Q++r∧ ∀x∈r,x∈vs
 | [],B,Q=>⟨[],by simp[bL],by simp⟩
 |v::vs,B,Q=>by
  have e:bL u (B,Q) (v::vs)=bL u ((eF u (B,Q) v).1,(eF u (B,Q) v).2) vs:=rfl;obtain⟨r,h1,h2⟩:=nM u vs (eF u (B,Q) v).1 (eF u (B,Q) v).2;rw[e,h1];unfold eF;split
  ·exact⟨v::r,by simp,fun x hx=>by
    rcases List.mem_cons.1 hx with rfl|hx
    ·simp
    ·simp[h2 x hx]⟩
  exact⟨r,rfl,fun x hx=>by simp[h2 x hx]⟩
inductive SRun (adj:Nat→List Nat) (goal:Nat→Prop) (N start:Nat):Nat→List Int→List Nat→Prop
 |init:SRun adj goal N start 0 ((List.replicate N (-1)).set start (start:Int)) [start]
 |step {k u:Nat} {B:List Int} {Q:List Nat}:SRun adj goal N start k B Q→Q[k]? =some u→ ¬goal u→SRun adj goal N start (k+1) (bL (u:Int) (B,Q) (adj u)).1 (bL (u:Int) (B,Q) (adj u)).2
theorem SRun.ok {adj:Nat→List Nat}{b:Nat→Prop}{N a k:Nat}{B:List Int}{Q:List Nat}(hs:a<N)(d: ∀u v,u<N→v∈adj u→v<N)(h:SRun adj b N a k B Q):SOk N B Q∧ ∀v∈Q,∃m,mW adj [a] m v:=by
 induction h with
 |init=>
  refine⟨⟨by simp,by simpa using hs,fun v hv=> ?_,by simp⟩,fun v hv=>⟨0,by simpa[mW]using hv⟩⟩;by_cases e:a=v
  ·subst e;rw[cF (by simpa using hs)];simp
  rw[bO e];simp[List.getD,hv];exact fun h=>e h.symm
 |step h1 hu hg ih=>
  obtain⟨i1,i2⟩:=ih;have c:=List.mem_of_getElem? hu;refine⟨SOk.expand (by omega) _ i1 (fun v hv=>d _ v (i1.bd _ c) hv),fun v hv=> ?_⟩;obtain⟨r,e,hr⟩:=nM (_:Nat) (adj _) _ _;rw[e]at hv;rcases List.mem_append.1 hv with hv|hv
  ·exact i2 v hv
  obtain⟨m,hm⟩:=i2 _ c;exact⟨m+1,_,hm,hr v hv⟩
theorem SRun.fwd {adj:Nat→List Nat}{b:Nat→Prop}{D:Nat→Int}{g:Nat→Nat}{d N a k:Nat}{B:List Int}{Q:List Nat}(hs:a<N)(hG:mS adj D g d a)(hD:aBi adj D N)(c: ∀m v,mW adj [a] m v→(b v↔D v=0))
  (h:SRun adj b N a k B Q): ∃A,Fwd adj D g d N a k B A Q:=by
 induction h with
 |init=>exact⟨_,Fwd.start hG hs⟩
 |step h1 hu hg ih=>obtain⟨A,hA⟩:=ih;obtain⟨m,hm⟩:=(h1.ok hs hD.bd).2 _ (List.mem_of_getElem? hu);exact hA.step hG hD hu (fun e=>hg ((c m _ hm).2 e))
theorem SRun.stuck {adj:Nat→List Nat}{b:Nat→Prop}{N a k:Nat}{B:List Int}{Q:List Nat}(ha:adj a= [])(h:SRun adj b N a k B Q):Q= [a]:=by
 induction h with
 |init=>rfl
 | @step k u B Q h1 hu hg ih=>
   rw[ih]at hu⊢;have:u=a:=by
    match k,hu with
    |0,hu=>simpa using hu.symm
    |k+1,hu=>simp at hu
   subst this;rw[ha];rfl
section
variable {aA aB:Int} {xs:List Int} {c:Nat} {id:Int}
theorem aAa (hf:bJ xs= []):aN xs=0:=by
 apply Nat.eq_of_testBit_eq;intro k;rw[eG,Nat.zero_testBit];cases h:cP xs k with
 |false=>rfl
 |true=>
  have:k∈bJ xs:=by
   unfold bJ;rw[List.mem_filter];refine⟨?_,h⟩;rw[List.mem_range];unfold cP at h;by_cases hk:k<xs.length
   ·exact hk
   simp[List.getElem?_eq_none (Nat.le_of_not_lt hk)]at h
  rw[hf]at this;simp at this
theorem aGo {aA:Int}{n:Nat}{u:Nat}(h:u%2 ^ n=0):mR aA n (2 ^ n) u= []:=by rw[List.eq_nil_iff_forall_not_mem];intro v hv;obtain⟨f,t,h1,h2,h3,h4,h5,h6⟩:=nP.1 hv;rw[h]at h5;simp at h5
abbrev st0 (xs:List Int)(c:Nat):Nat×Nat:=(c,aN xs)
theorem qV (h:aM aA aB xs=true)(hc:xs[c]? =some id) (h0:id≠0):eN xs.length (st0 xs c)<xs.length*2 ^ xs.length∧eN xs.length (st0 xs c)/2 ^ xs.length=c∧eN xs.length (st0 xs c)%2 ^ xs.length=aN xs:=by have hl:=(List.getElem?_eq_some_iff.1 hc).1;exact⟨qO hl (mO xs),jP (mO xs)⟩
theorem tP (e:4≤xs.length)(hn:xs.length≤12)(hc:xs[c]? =some id) (h0:id≠0): ∀m v,mW (mR aA xs.length (2 ^ xs.length)) [eN xs.length (st0 xs c)] m v→(v/2 ^ xs.length=0↔ddM xs.length (aV (fS aA xs.length (bJ xs).length)) v=0):=by
 intro m v hv;have hp:=jZ hc h0;obtain⟨a,b⟩:=walk_ok hn hp m v hv;have d:v<xs.length*2 ^ xs.length:=by have:=qO (s:=(v/2 ^ xs.length,v%2 ^ xs.length)) a.car a.set;unfold eN at this;rw[Nat.mul_comm (v/2 ^ xs.length),Nat.div_add_mod]at this;exact this
 exact(aJc e hn (kS hn) d a b).symm
theorem vX (h:aM aA aB xs=true)(a:4≤xs.length)(hn:xs.length≤12)(hc:xs[c]? =some id) (h0:id≠0):
  (∃d:Nat,d≤60∧aV (fS aA xs.length (bJ xs).length) c (aN xs)=d∧dH aA xs c=some (mX aA xs.length (aV (fS aA xs.length (bJ xs).length)) (st0 xs c) d))∨(dH aA xs c=none∧c≠0∧aN xs=0):=by
 have hD:=kS (aA:=aA) (many:=(bJ xs).length) hn;obtain⟨n1,n2,n3⟩:=rT h hc h0 hD;have he:=uY h hc h0 hD;by_cases hneg:aV (fS aA xs.length (bJ xs).length) c (aN xs)<0
 ·rw[if_pos hneg]at he;have hf:bJ xs= []:=by
   by_cases hh:bJ xs= []
   ·exact hh
   have:=n1 hh;omega
  exact .inr ⟨he,fun e=>by have:=n2 e;omega,aAa hf⟩
 rw[if_neg hneg]at he;left;refine⟨_,?_,(Int.toNat_of_nonneg (by omega)).symm,he⟩;by_cases hh:bJ xs= []
 ·by_cases hc0:c=0
  ·have:=n2 hc0;omega
  have:=n3 hh hc0;omega
 have:=n1 hh;omega
structure SGoal (aA:Int) (xs:List Int) (c d:Nat) (u:Nat) (B:List Int):Prop where
 d60:d≤60
 way:dH aA xs c=some (mX aA xs.length (aV (fS aA xs.length (bJ xs).length)) (st0 xs c) d)
 last:u=eN xs.length (gP aA xs.length (aV (fS aA xs.length (bJ xs).length)) (st0 xs c) d)
 back: ∀j,j<d→B.getD (eN xs.length (gP aA xs.length (aV (fS aA xs.length (bJ xs).length)) (st0 xs c) (j+1))) 0=eN xs.length (gP aA xs.length (aV (fS aA xs.length (bJ xs).length)) (st0 xs c) j)
 far: ∀j,j≤d→eN xs.length (gP aA xs.length (aV (fS aA xs.length (bJ xs).length)) (st0 xs c) j)=eN xs.length (st0 xs c)→j=0
 pt: ∀j,j≤d→mZ xs.length (bJ xs).length (gP aA xs.length (aV (fS aA xs.length (bJ xs).length)) (st0 xs c) j)
 edge: ∀j,j<d→fQ aA xs.length (aV (fS aA xs.length (bJ xs).length)) (st0 xs c) j∈eA aA xs.length (gP aA xs.length (aV (fS aA xs.length (bJ xs).length)) (st0 xs c) j).2∧gP aA xs.length (aV (fS aA xs.length (bJ xs).length)) (st0 xs c) (j+1)=iY (gP aA xs.length (aV (fS aA xs.length (bJ xs).length)) (st0 xs c) j) (fQ aA xs.length (aV (fS aA xs.length (bJ xs).length)) (st0 xs c) j)
abbrev aJg (aA:Int)(xs:List Int)(c k:Nat)(B:List Int)(Q:List Nat):Prop:=SRun (mR aA xs.length (2 ^ xs.length)) (fun v=>v/2 ^ xs.length=0) (xs.length*2 ^ xs.length) (eN xs.length (st0 xs c)) k B Q
theorem aA4 (h:aM aA aB xs=true)(a:4≤xs.length)(hn:xs.length≤12)(hc:xs[c]? =some id) (h0:id≠0) {k u:Nat} {B:List Int} {Q:List Nat} (hr:aJg aA xs c k B Q) (hu:Q[k]? =some u) (hz:u/2 ^ xs.length=0): ∃d,SGoal aA xs c d u B:=by
 obtain⟨p1,p2,p3⟩:=qV h hc h0;have hp:=jZ hc h0;have hD:=kS (aA:=aA) (many:=(bJ xs).length) hn;rcases vX h a hn hc h0 with⟨d,d60,hd,hb⟩|⟨hb,hc0,hf⟩
 ·have hG:=uQ a hn hD hp hd;obtain⟨A,hA⟩:=hr.fwd p1 hG (qJ a hn hD) (tP a hn hc h0);obtain⟨m,hm⟩:=(hr.ok p1 (qJ a hn hD).bd).2 u (List.mem_of_getElem? hu);obtain⟨g1,g2⟩:=hA.goal hG hu ((tP a hn hc h0 m u hm).1 hz);refine⟨d,d60,hb,g1,g2,fun j hj e=> ?_,fun j hj=>(iS a hn hD hp hd j hj).1,fun j hj=>(jN a hn hD hp hd hj).2⟩;have e1:=hG.dist j hj;have e2:=hG.dist 0 (Nat.zero_le _);rw[hG.zero]at e2;try dsimp only at e1
  rw[e,e2]at e1;omega
 have:=hr.stuck (aGo (by rw[p3,hf]));subst this;have:u=eN xs.length (st0 xs c):=by
  match k,hu with
  |0,hu=>simpa using hu.symm
  |k+1,hu=>simp at hu
 rw[this,p2]at hz;exact absurd hz hc0
theorem aCe (h:aM aA aB xs=true)(a:4≤xs.length)(hn:xs.length≤12)(hc:xs[c]? =some id) (h0:id≠0) {k:Nat} {B:List Int} {Q:List Nat} (hr:aJg aA xs c k B Q) (hk:Q.length≤k):dH aA xs c=none:=by
 obtain⟨p1,p2,p3⟩:=qV h hc h0;have hp:=jZ hc h0;have hD:=kS (aA:=aA) (many:=(bJ xs).length) hn;rcases vX h a hn hc h0 with⟨d,d60,hd,hb⟩|⟨hb,hc0,hf⟩
 ·have hG:=uQ a hn hD hp hd;obtain⟨A,hA⟩:=hr.fwd p1 hG (qJ a hn hD) (tP a hn hc h0);have:=hA.more hG;omega
 exact hb
end
end Go.Proofs.YtpelpnfhbepokaaGreatDoor
namespace Go.Proofs.YtpelpnfhbepokaaGreatDoor
open Go.RowKit Go
set_option linter.unusedVariables false
set_option linter.unusedSimpArgs false
theorem mC (x:Nat)(h:x<9223372036854775808):IntKind.i64.wrap (x:Int)=(x:Int):=IntWalk.i64_in _ (by omega)
theorem nH (a b:Nat)(ha:a<9223372036854775808)(hb:b<9223372036854775808):bits .and .i64 (a:Int) (b:Int)=((a&&& b:Nat):Int):=by have hx:a&&& b<2 ^ 63:=Nat.and_lt_two_pow _ (by omega);show IntKind.i64.wrap ((BitVec.ofInt 64 (a:Int)&&& BitVec.ofInt 64 (b:Int)).toNat:Int)=_;rw[BitVec.toNat_and,ofInt_u64 a (by omega),ofInt_u64 b (by omega)];exact mC _ (by omega)
theorem sO (a b:Nat)(ha:a<9223372036854775808)(hb:b<9223372036854775808):bits .xor .i64 (a:Int) (b:Int)=((a ^^^ b:Nat):Int):=by have hx:a ^^^ b<2 ^ 63:=Nat.xor_lt_two_pow (by omega) (by omega);show IntKind.i64.wrap ((BitVec.ofInt 64 (a:Int) ^^^ BitVec.ofInt 64 (b:Int)).toNat:Int)=_;rw[BitVec.toNat_xor,ofInt_u64 a (by omega),ofInt_u64 b (by omega)];exact mC _ (by omega)
theorem aDk (a b:Nat)(ha:a<9223372036854775808)(hb:b<9223372036854775808):bits .or .i64 (a:Int) (b:Int)=((a |||b:Nat):Int):=by have hx:a |||b<2 ^ 63:=Nat.or_lt_two_pow (by omega) (by omega);show IntKind.i64.wrap ((BitVec.ofInt 64 (a:Int) |||BitVec.ofInt 64 (b:Int)).toNat:Int)=_;rw[BitVec.toNat_or,ofInt_u64 a (by omega),ofInt_u64 b (by omega)];exact mC _ (by omega)
theorem aEp (s k:Nat):s&&& 2 ^ k=if s.testBit k then 2 ^ k else 0:=by
 apply Nat.eq_of_testBit_eq;intro j;rw[Nat.testBit_and,Nat.testBit_two_pow];by_cases h:k=j
 ·subst h;cases hb:s.testBit k<;>simp[Nat.testBit_two_pow]
 cases hb:s.testBit k<;>simp[Nat.testBit_two_pow,h]
theorem aKy (x k:Nat)(h:x.testBit k=false):x |||2 ^ k=x+2 ^ k:=by
 apply Nat.eq_of_testBit_eq;intro j;rw[Nat.testBit_or,Nat.testBit_two_pow,tJ k x h];by_cases e:k=j
 ·subst e;simp
 have e2: ¬j=k:=fun h=>e h.symm
 simp[e,e2]
theorem aGs {s f t:Nat}(hf:s.testBit f=false)(ht:s.testBit t=true):(s ^^^ 2 ^ f) ^^^ 2 ^ t=cV s f t:=by
 apply Nat.eq_of_testBit_eq;intro j;have b:f≠t:=fun e=>by subst e;rw[ht]at hf;cases hf
 rw[Nat.testBit_xor,Nat.testBit_xor,Nat.testBit_two_pow,Nat.testBit_two_pow,eJ ht hf];by_cases e1:j=f
 ·subst e1;have e2: ¬t=j:=fun h=>b h.symm
  simp[hf,b,e2]
 have a: ¬f=j:=fun h=>e1 h.symm
 by_cases e2:j=t
 ·subst e2;simp[ht,e1,a]
 have c: ¬t=j:=fun h=>e2 h.symm
 simp[e1,a,e2,c]
theorem nZ {n k:Nat}(s:Nat)(hk:k<n):(s%2 ^ n).testBit k=s.testBit k:=by rw[Nat.testBit_mod_two_pow];simp[hk]
theorem aAb {n s f t:Nat}(b:f<n)(a:t<n)(hf:s.testBit f=false)(ht:s.testBit t=true):cV s f t=s/2 ^ n*2 ^ n+cV (s%2 ^ n) f t:=by have h1:=(tI (show(s%2 ^ n).testBit t=true by rw[nZ s a];exact ht)).1;unfold cV;have h2:=Nat.div_add_mod s (2 ^ n);rw[Nat.mul_comm]at h2;omega
theorem aK0 {n s f t:Nat}(a:f<n)(b:t<n)(hf:s.testBit f=false)(ht:s.testBit t=true)(hc:f≠s/2 ^ n):fP (2 ^ n) (s/2 ^ n) (s%2 ^ n) f t=cV s f t:=by unfold fP dI;rw[if_neg hc,aAb a b hf ht]
theorem aI1 {n s f t:Nat}(a:f<n)(b:t<n)(hf:s.testBit f=false)(ht:s.testBit t=true)(hc:f=s/2 ^ n):((fP (2 ^ n) (s/2 ^ n) (s%2 ^ n) f t:Nat):Int)=(cV s f t:Nat)+((t:Int)-f)*2 ^ n:=by
 unfold fP dI;rw[if_pos hc,aAb a b hf ht,←hc]
 push_cast
 have h1:((t:Int)-f)*2 ^ n=(t:Int)*2 ^ n-f*2 ^ n:=Int.sub_mul _ _ _;rw[h1];omega
theorem aHl {n c k:Nat}{p:Nat→Bool}(hk:k<n)(h:p k=true):(c*2 ^ n+iL p k) |||2 ^ k=c*2 ^ n+iL p (k+1):=by
 have hb:(c*2 ^ n+iL p k).testBit k=false:=by have h1:iL p k<2 ^ n:=Nat.lt_of_lt_of_le (nV p k) (Nat.pow_le_pow_right (by omega) (by omega));rw[←nZ _ hk,fZ h1,rU (nV p k) (Nat.le_refl k)]
 rw[aKy _ _ hb];have:iL p (k+1)=iL p k+2 ^ k:=by show iL p k+(if p k then 2 ^ k else 0)=_;rw[h];rfl
 omega
theorem aHm {k:Nat}{p:Nat→Bool}(h:p k=false):iL p (k+1)=iL p k:=by show iL p k+(if p k then 2 ^ k else 0)=_;rw[h];simp
theorem nG (a b r:Nat)(ha:a<9223372036854775808)(hb:b<9223372036854775808)(hr:r<9223372036854775808)(h: ∀j,r.testBit j=(a.testBit j&& !b.testBit j)):bits .andNot .i64 (a:Int) (b:Int)=(r:Int):=by
 have e:(BitVec.ofInt 64 (a:Int)&&& ~~~ BitVec.ofInt 64 (b:Int)).toNat=r:=by
  apply Nat.eq_of_testBit_eq;intro j;rw[BitVec.testBit_toNat,BitVec.getLsbD_and,BitVec.getLsbD_not,←BitVec.testBit_toNat,←BitVec.testBit_toNat,ofInt_u64 a (by omega),ofInt_u64 b (by omega),h];by_cases hj:j<64
  ·simp[hj]
  have:a.testBit j=false:=Nat.testBit_lt_two_pow (Nat.lt_of_lt_of_le (show a<2 ^ 63 by omega) (Nat.pow_le_pow_right (by omega) (by omega)));simp[this]
 show IntKind.i64.wrap ((BitVec.ofInt 64 (a:Int)&&& ~~~ BitVec.ofInt 64 (b:Int)).toNat:Int)=_;rw[e];exact mC _ (by omega)
theorem aIz {S f t:Nat}(hf:S.testBit f=false)(ht:S.testBit t=true)(h1:S<4096)(h2:cV S f t<4096)(h3:2 ^ f<4096):bits .andNot .i64 ((cV S f t:Nat):Int) (S:Int)=((2 ^ f:Nat):Int):=by
 refine nG _ _ _ (by omega) (by omega) (by omega) (fun j=> ?_);rw[eJ ht hf,Nat.testBit_two_pow];by_cases e:j=f
 ·subst e;simp[hf]
 have e': ¬f=j:=fun h=>e h.symm
 simp only[e,e',decide_false,Bool.false_or];cases S.testBit j<;>simp
theorem aIy {S f t:Nat}(hf:S.testBit f=false)(ht:S.testBit t=true)(h1:S<4096)(h2:cV S f t<4096)(h3:2 ^ t<4096):bits .andNot .i64 (S:Int) ((cV S f t:Nat):Int)=((2 ^ t:Nat):Int):=by
 refine nG _ _ _ (by omega) (by omega) (by omega) (fun j=> ?_);have a:f≠t:=fun e=>by subst e;rw[ht]at hf;cases hf
 rw[eJ ht hf,Nat.testBit_two_pow];by_cases e:j=t
 ·subst e;have e2: ¬j=f:=fun h=>a h.symm
  simp[ht,e2]
 have e': ¬t=j:=fun h=>e h.symm
 simp only[e,e',decide_false,Bool.not_false,Bool.and_true];by_cases e3:j=f
 ·subst e3;simp[hf]
 simp only[e3,decide_false,Bool.false_or];cases S.testBit j<;>simp
theorem aEq (s n:Nat)(hs:s<9223372036854775808)(hn:n≤12):bits .and .i64 (s:Int) ((2 ^ n-1:Nat):Int)=((s%2 ^ n:Nat):Int):=by have hp:2 ^ n≤2 ^ 12:=Nat.pow_le_pow_right (n:=2) (by omega) hn;rw[nH s _ hs (by omega),Nat.and_two_pow_sub_one_eq_mod]
end Go.Proofs.YtpelpnfhbepokaaGreatDoor
namespace Go.Proofs.YtpelpnfhbepokaaGreatDoor
open Go.RowKit
set_option linter.unusedVariables false
theorem aLc:Tryz.prog.globalNamed "math/bits.deBruijn64tab" =some 3:=by kernel_rfl
def BitTab (w:World):Prop:=Lib.TabIs Tryz.prog w "math/bits.deBruijn64tab" .u8 (Lib.deBruijn64tab.map (fun(n:Nat)=>(n:Int)))
theorem BitTab.ext {w w':World}(h:BitTab w)(hx:Ext w w'):BitTab w':=Joins.var_stays aLc h hx (Nat.le_refl _)
theorem aJk: ∀k:Fin 12,∃idx:Fin 64,IntKind.u64.wrap (bits BinOp.and IntKind.u64 ((2 ^ k.val:Nat):Int) (IntKind.u64.wrap (-((2 ^ k.val:Nat):Int)))*285870213051353865)/288230376151711744=(idx.val:Int)∧(Lib.deBruijn64tab.map (fun(n:Nat)=>(n:Int)))[idx.val]? =some (k.val:Int):=by decide+kernel
theorem aEu (x a:Nat)(k:Int)(w:World)(d:((x:Int)==0)=false)(f:IntKind.u64.wrap (x:Int)=(x:Int))
  (c:IntKind.u64.wrap (bits BinOp.and IntKind.u64 (x:Int) (IntKind.u64.wrap (-(x:Int)))*285870213051353865)/288230376151711744=(a:Int))
  (hi:a<64)(b:w.cell? ⟨3,a,none⟩=some (.int .u8 k))(hk:IntKind.i64.wrap k=k):
  Calls Tryz.prog 240 #[.int .u64 (x:Int)] w fun e w'=>e= .returned (.int .i64 k)∧w=w':=by
 go_enter Tryz.func240,Tryz.ntmps240;go_wp2_with (simp only[c]);go_ret;exact⟨rfl,rfl⟩
theorem aJl (x:Nat)(k:Int)(w:World)(a:IntKind.u64.wrap (x:Int)=(x:Int))
  (H:Hid (Calls Tryz.prog 240 #[.int .u64 (x:Int)] w fun e w'=>e= .returned (.int .i64 k)∧w=w')):
  Calls Tryz.prog 233 #[.int .u64 (x:Int)] w fun e w'=>e= .returned (.int .i64 k)∧w=w':=by
 go_enter Tryz.func233,Tryz.ntmps233;go_wp2_with fail;refine H.out.mono ?_;rintro e w' ⟨rfl,rfl⟩;go_wp2;go_ret;exact⟨rfl,rfl⟩
theorem vW (k:Nat)(w:World)(hk:k<12)(hE:BitTab w):Calls Tryz.prog 233 #[.int .u64 ((2 ^ k:Nat):Int)] w fun e w'=>e= .returned (.int .i64 (k:Int))∧w=w':=by
 obtain⟨⟨b,hi⟩,c,ht⟩:=aJk ⟨k,hk⟩;dsimp only at c ht;have hp:2 ^ k≤2 ^ 11:=Nat.pow_le_pow_right (n:=2) (by omega) (by omega);have h0:0<2 ^ k:=Nat.two_pow_pos k;have a:IntKind.u64.wrap ((2 ^ k:Nat):Int)=((2 ^ k:Nat):Int):=by rw[IntKind.wrap_u64];omega
 have hc:=hE.cell aLc b (by simpa[Lib.deBruijn64tab]using hi);refine aJl (2 ^ k) k w a (aEu (2 ^ k) b k w (beq_eq_false_iff_ne.2 (by omega)) a c hi (by rw[hc,List.getD_eq_getElem?_getD,ht];rfl) (IntWalk.i64_in _ (by omega)))
set_option linter.unusedSimpArgs false
set_option maxHeartbeats 8000000
set_option maxRecDepth 100000
theorem rA: ∀(l:List Sl2) (i:Nat) (s:Sl2),(l.set i s).flatMap aK=((l.flatMap aK).set (i*2) (.int .i64 s.1)).set (i*2+1) (.int .i64 s.2)
 | [],i,s=>by simp
 |x::l,0,s=>by simp[aK]
 |x::l,i+1,s=>by rw[List.set_cons_succ,List.flatMap_cons,List.flatMap_cons,rA l i s,show(i+1)*2=i*2+1+1 by omega];simp[aK]
theorem aGx (d:Array Sl2)(i j:Nat):(Sort.swp d i j).toList=(d.toList.set i d[j]!).set j d[i]! :=by simp[Sort.swp]
theorem aEf (l:List Sl2)(i:Nat)(s:Sl2)(h:l[i]? =some s):(l.flatMap aK)[i*2]? =some (.int .i64 s.1)∧(l.flatMap aK)[i*2+1]? =some (.int .i64 s.2):=by have h0:=dW aK 2 (fun _=>rfl) l i s h 0 (by omega);have h1:=dW aK 2 (fun _=>rfl) l i s h 1 (by omega);exact⟨h0,h1⟩
theorem aLh (g n c:Nat)(d:Array Sl2)(w0 w:World)(hn:n≤1000)(hd:Hid (d.size=n))(h0:Hid (Mem w0 w [aJ w0.heap.size TSL 2 (some ⟨g,0,none⟩) n c (d.toList.flatMap aK)])):
  Calls Tryz.prog 234 #[.slice (some ⟨g,0,none⟩) n c] w fun e w'=>e= .returned (.tuple #[])∧Mem w0 w' [aJ w0.heap.size TSL 2 (some ⟨g,0,none⟩) n c (d.reverse.toList.flatMap aK)]:=by
 have ae:IntKind.i64.wrap ((n:Int)-1)=(n:Int)-1:=IntWalk.i64_in _ (by omega);go_enter Tryz.func234,Tryz.ntmps234;go_wp2;go_loopw [2,3] (fun s2 s3 wr=> ∃(i jn:Nat) (jz:Int) (dk:Array Sl2),s2= .int .i64 (i:Int)∧s3= .int .i64 jz∧i≤n∧ -1≤jz∧jz≤n∧((i:Int)<jz→jz=(jn:Int)∧jn<n)∧(¬(i:Int)<jz→ ¬i<jn)∧dk.size=n∧Sort.reverseLoop i jn dk=Sort.reverseLoop 0 (d.size-1) d∧Mem w0 wr [aJ w0.heap.size TSL 2 (some ⟨g,0,none⟩) n c (dk.toList.flatMap aK)]) (fun a b _=>(Lib.intOf b-Lib.intOf a).toNat)
 case atStart=>exact⟨0,d.size-1,(n:Int)-1,d,rfl,rfl,Nat.zero_le _,by omega,by omega,fun h=>⟨by rw[hd.out];omega,by rw[hd.out];omega⟩,fun h=>by rw[hd.out];omega,hd.out,rfl,h0.out⟩
 case round=>
  clear h0 ae;obtain⟨i,jn,jz,dk,rfl,rfl,af,ag,ah,h1,h2,r,t,hM⟩:=hrel;have HM:=hM;have j:=xQ t;have f:=xQ r;clear hM t r;by_cases hlt:(i:Int)<jz
  ·obtain⟨rfl,ad⟩:=h1 hlt;have ab:i<jn:=by omega
   obtain⟨⟨a0,a1⟩,ha⟩: ∃s,dk[i]! =s:=⟨_,rfl⟩
   obtain⟨⟨b0,b1⟩,hb⟩: ∃s,dk[jn]! =s:=⟨_,rfl⟩
   have p:dk.toList[i]? =some (a0,a1):=by rw[←ha];simp[f.out,show i<n by omega]
   have q:dk.toList[jn]? =some (b0,b1):=by rw[←hb];simp[f.out,ad]
   obtain⟨k,l⟩:=aEf _ _ _ p;obtain⟨m,o⟩:=aEf _ _ _ q;have x:wr.cell? ⟨g,i*2,none⟩=some (.int .i64 a0):=((HM.ow 0).cellAt (i*2) (by omega)).trans k;have y:wr.cell? ⟨g,i*2+1,none⟩=some (.int .i64 a1):=((HM.ow 0).cellAt (i*2+1) (by omega)).trans l;have z:wr.cell? ⟨g,jn*2,none⟩=some (.int .i64 b0):=((HM.ow 0).cellAt (jn*2) (by omega)).trans m;have aa:wr.cell? ⟨g,jn*2+1,none⟩=some (.int .i64 b1):=((HM.ow 0).cellAt (jn*2+1) (by omega)).trans o;have f0:wr.frozen? ⟨g,i*2,none⟩=false:=(HM.ow 0).frozenAt _;have f1:wr.frozen? ⟨g,i*2+1,none⟩=false:=(HM.ow 0).frozenAt _;have f2:wr.frozen? ⟨g,jn*2,none⟩=false:=(HM.ow 0).frozenAt _;have f3:wr.frozen? ⟨g,jn*2+1,none⟩=false:=(HM.ow 0).frozenAt _;have v:Hid ((Sort.swp dk i jn).toList.flatMap aK=((((dk.toList.flatMap aK).set (i*2) (.int .i64 b0)).set (i*2+1) (.int .i64 b1)).set (jn*2) (.int .i64 a0)).set (jn*2+1) (.int .i64 a1)):=by show _=_;rw[aGx,ha,hb,rA,rA]
   clear k l m o p q ha hb h1 h2
   have M2:=(show Mem w0 ((((wr.drew.setCell ⟨g,i*2,none⟩ (.int .i64 b0)).setCell ⟨g,i*2+1,none⟩ (.int .i64 b1)).setCell ⟨g,jn*2,none⟩ (.int .i64 a0)).setCell ⟨g,jn*2+1,none⟩ (.int .i64 a1)) [aJ w0.heap.size TSL 2 (some ⟨g,0,none⟩) n c ((Sort.swp dk i jn).toList.flatMap aK)]from by
    rw[v.out]
    exact((((HM.adv (Ext.drew (Ext.refl _))).ostore (i:=0) rfl (i*2) (.int .i64 b0)).ostore (i:=0) rfl (i*2+1) (.int .i64 b1)).ostore (i:=0) rfl (jn*2) (.int .i64 a0)).ostore (i:=0) rfl (jn*2+1) (.int .i64 a1))
   clear HM v;have n1: ¬(i*2=jn*2):=by omega
   have n2: ¬(jn*2=i*2):=by omega
   have n3: ¬(i*2=jn*2+1):=by omega
   have n4: ¬(i*2+1=jn*2):=by omega
   have n5: ¬(jn*2=i*2+1):=by omega
   have n6: ¬(jn*2+1=i*2):=by omega
   have n7: ¬(i=jn):=by omega
   have n8: ¬(jn=i):=by omega
   have i1:(0:Int)≤(i:Int):=by omega
   have i2:(i:Int)<(n:Int):=by omega
   have i3:(0:Int)≤(jn:Int):=by omega
   have i4:(jn:Int)<(n:Int):=by omega
   have i5:IntKind.i64.wrap ((jn:Int)-1)=(jn:Int)-1:=IntWalk.i64_in _ (by omega);go_wp2_with fail;go_region;clear x y z aa f0 f1 f2 f3 n1 n2 n3 n4 n5 n6;go_wp2;go_roundw
   case rel=>have h9:=j.out;rw[Sort.reverseLoop,if_pos ab]at h9;exact⟨i+1,jn-1,(jn:Int)-1,Sort.swp dk i jn,by go_num,rfl,by omega,by omega,by omega,fun h=>⟨by omega,by omega⟩,fun h=>by omega,by rw[Sort.size_swp];exact f.out,h9,M2⟩
   case measure=>simp[Lib.intOf];omega
  have u:=h2 hlt;have h9:=j.out;rw[Sort.reverseLoop,if_neg u,Lib.reverseLoop_reverse]at h9;rw[h9]at HM;clear j h1 h2 h9;go_wp2;go_end0;exact⟨rfl,by simpa using HM⟩
theorem aHu (g n c:Nat)(l:List Sl2)(w0 w:World)(hn:n≤1000)(hl:l.length=n)(h0:Mem w0 w [aJ w0.heap.size TSL 2 (some ⟨g,0,none⟩) n c (l.flatMap aK)]):
  Calls Tryz.prog 234 #[.slice (some ⟨g,0,none⟩) n c] w fun e w'=>e= .returned (.tuple #[])∧Mem w0 w' [aJ w0.heap.size TSL 2 (some ⟨g,0,none⟩) n c (l.reverse.flatMap aK)]:=by
 have:=aLh g n c l.toArray w0 w hn (xQ (by simpa using hl)) (xQ (by simpa using h0));simpa using this
theorem aFe (a:OA)(c:Nat)(w:World):Calls Tryz.prog 234 #[.slice a 0 c] w fun e w'=>e= .returned (.tuple #[])∧w=w':=by
 go_enter Tryz.func234,Tryz.ntmps234;go_wp2;go_loopw [2,3] (fun s2 s3 wr=>s2= .int .i64 0∧s3= .int .i64 (-1)∧w=wr) (fun _ _ _=>0)
 case atStart=>exact⟨rfl,rfl,rfl⟩
 case round=>obtain⟨rfl,rfl,rfl⟩:=hrel;go_wp2;go_end0;exact⟨rfl,rfl⟩
def mM (xs:List Int):List Value:=xs.map (fun x=> .int .i32 x)
def aLk:Value→Nat
 | .slice _ n _=>n
 |_=>0
structure Trail (n N d:Nat) (B:List Int) (code:Nat→Nat) (e:Nat→Nat×Nat):Prop where
 len:B.length=N
 lt: ∀j,j≤d→code j<N
 far: ∀j,j≤d→code j=code 0→j=0
 back: ∀j,j<d→B.getD (code (j+1)) 0=code j
 f: ∀j,j<d→(e j).1<n
 t: ∀j,j<d→(e j).2<n
 hf: ∀j,j<d→(code j%2 ^ n).testBit (e j).1=false
 ht: ∀j,j<d→(code j%2 ^ n).testBit (e j).2=true
 mv: ∀j,j<d→code (j+1)%2 ^ n=cV (code j%2 ^ n) (e j).1 (e j).2
def mV (e:Nat→Nat×Nat)(d k:Nat):List Sl2:=(List.range k).map (fun i=>iK (e (d-1-i)))
theorem aDu (e:Nat→Nat×Nat)(d k:Nat):mV e d (k+1)=mV e d k++ [iK (e (d-1-k))]:=by unfold mV;rw[List.range_succ,List.map_append];rfl
theorem aGl (e:Nat→Nat×Nat)(d k:Nat):(mV e d k).length=k:=by simp[mV]
theorem aGk (e:Nat→Nat×Nat)(d:Nat):(mV e d d).reverse=(List.range d).map (fun i=>iK (e i)):=by
 apply List.ext_getElem (by simp[mV]);intro i h1 h2;have hi:i<d:=by simpa using h2
 simp only[mV,List.getElem_reverse,List.getElem_map,List.getElem_range,List.length_map,List.length_range];congr 2;omega
structure aLe (n j:Nat) (B:List Int) (code:Nat→Nat) (e:Nat→Nat×Nat) (A C1 C0 S1 S0 F T:Nat):Prop where
 a1:bits .and .i64 (C1:Int) (A:Int)=(S1:Int)
 a0:bits .and .i64 (C0:Int) (A:Int)=(S0:Int)
 n1:bits .andNot .i64 (S1:Int) (S0:Int)=((2 ^ F:Nat):Int)
 n0:bits .andNot .i64 (S0:Int) (S1:Int)=((2 ^ T:Nat):Int)
 f:F<12
 t:T<12
 w0:IntKind.i64.wrap (C0:Int)=(C0:Int)
 at1:B[C1]? =some (C0:Int)
theorem Trail.step {n N d:Nat}{B:List Int}{a:Nat→Nat}{e:Nat→Nat×Nat}(h:Trail n N d B a e)(hn:n≤12)(hN:N≤49152){j:Nat}(hj:j<d):
  aLe n j B a e (2 ^ n-1) (a (j+1)) (a j) (a (j+1)%2 ^ n) (a j%2 ^ n) (e j).1 (e j).2:=by
 have l1:=h.lt (j+1) (by omega);have l0:=h.lt j (by omega);have hf:=h.f j hj;have ht:=h.t j hj;have p0:2 ^ n≤2 ^ 12:=Nat.pow_le_pow_right (n:=2) (by omega) hn;have p1:2 ^ (e j).1≤2 ^ 11:=Nat.pow_le_pow_right (n:=2) (by omega) (by omega);have p2:2 ^ (e j).2≤2 ^ 11:=Nat.pow_le_pow_right (n:=2) (by omega) (by omega);have hp:=Nat.two_pow_pos n;have m1:=Nat.mod_lt (a (j+1)) hp;have m0:=Nat.mod_lt (a j) hp;refine⟨aEq _ n (by omega) hn,aEq _ n (by omega) hn,?_,?_,by omega,by omega,IntWalk.i64_in _ (by omega),?_⟩
 ·have hm:=h.mv j hj;rw[hm]at m1⊢;exact aIz (h.hf j hj) (h.ht j hj) (by omega) (by omega) (by omega)
 ·have hm:=h.mv j hj;rw[hm]at m1⊢;exact aIy (h.hf j hj) (h.ht j hj) (by omega) (by omega) (by omega)
 have:=h.back j hj;rw[List.getD_eq_getElem?_getD,List.getElem?_eq_getElem (by rw[h.len];exact l1)]at this;rw[List.getElem?_eq_getElem (by rw[h.len];exact l1)];exact congrArg some this
theorem aIa (n N d cB gB:Nat)(B:List Int)(a:Nat→Nat)(e:Nat→Nat×Nat)(w:World)(hn:n≤12)(hN:N≤49152)(hd:d≤60)(hT:Hid (Trail n N d B a e))(hS:Hid (Sl w (some ⟨gB,0,none⟩) N cB 1 (mM B)))(hE:Hid (BitTab w))(hb:gB<w.heap.size):
  Calls Tryz.prog 218 #[.slice (some ⟨gB,0,none⟩) N cB,.int .i64 ((a 0:Nat):Int),.int .i64 ((a d:Nat):Int),(n:Int)] w (eY ((List.range d).map (fun i=>iK (e i))) w):=by
 have hp:=Nat.two_pow_pos n;have s:2 ^ n≤2 ^ 12:=Nat.pow_le_pow_right (n:=2) (by omega) hn;obtain⟨A,hA⟩: ∃A,A=2 ^ n-1:=⟨_,rfl⟩
 have b:=xQ (show∀j,j<d→_ from fun j hj=>hT.out.step hn hN hj);rw[←hA]at b;obtain⟨Q,hQ⟩: ∃Q:Nat,Q=2 ^ n:=⟨_,rfl⟩
 have ad:(2:Int) ^ n=(Q:Int):=by rw[hQ];simp
 have af:IntKind.i64.wrap (Q:Int)=(Q:Int):=IntWalk.i64_in _ (by omega);have ae:IntKind.i64.wrap ((Q:Int)-1)=(A:Int):=by rw[IntWalk.i64_in _ (by omega)];omega
 clear hA hQ hp s;obtain⟨s0,c⟩: ∃s0,s0=a 0:=⟨_,rfl⟩
 have f:=xQ c;rw[←c];clear c;go_enter Tryz.func218,Tryz.ntmps218;have M0:=(show Mem w w [aJ w.heap.size TSL 2 (none) (0) (0) ((mV e d 0).flatMap aK)]from(Mem.start w).ownNew (Ext.refl _) (World.ownsRow_nil _ _ TSL 2) (Nat.le_refl _))
 go_wp2;go_loopw [2,10] (fun st v wr=> ∃(k:Nat) (q:OA) (lc:Nat),k≤d∧st= .int .i64 ((a (d-k):Nat):Int)∧v= .slice q k lc∧Mem w wr [aJ w.heap.size TSL 2 (q) (k) (lc) ((mV e d k).flatMap aK)]) (fun _ v _=>d-aLk v)
 case atStart=>exact⟨0,none,0,Nat.zero_le _,rfl,rfl,M0⟩
 case round=>
  clear M0;obtain⟨k,q,lc,hk,rfl,rfl,hM⟩:=hrel;have HM:=hM;clear hM;by_cases hlt:k<d
  ·obtain⟨j,hj⟩: ∃j,j=d-1-k:=⟨_,rfl⟩
   have hB:=b j (by omega);have h:=hT.out.lt (j+1) (by omega);have x:a (j+1)≠s0:=by rw[f.out];intro e2;have:=hT.out.far (j+1) (by omega) e2;omega
   have m:=xQ (aDu e d k);rw[←hj]at m;have o:d-k=j+1:=by omega
   have p:=xQ (show d-(k+1)=j by omega);rw[o];generalize a (j+1)=C1 at*;have t:=xQ (show a (d-(k+1))=a j by rw[p.out]);generalize a j=C0 at*;generalize C1%2 ^ n=S1 at*;generalize C0%2 ^ n=S0 at*;have u:Hid (iK (e j)=(((e j).1:Int),((e j).2:Int))):=rfl;generalize (e j).1=F at*;generalize (e j).2=T at*;obtain⟨b1,b2,b3,b4,b5,b6,b7,b8⟩:=hB;have HF:=xQ (fun(w':World) (hx:Ext w w')=>vW F w' b5 (hE.out.ext hx));have HT:=xQ (fun(w':World) (hx:Ext w w')=>vW T w' b6 (hE.out.ext hx));have pF:2 ^ F≤2 ^ 11:=Nat.pow_le_pow_right (n:=2) (by omega) (by omega);have pT:2 ^ T≤2 ^ 11:=Nat.pow_le_pow_right (n:=2) (by omega) (by omega);generalize 2 ^ F=PF at*;generalize 2 ^ T=PT at*;have u1:IntKind.u64.wrap (PF:Int)=(PF:Int):=by rw[IntKind.wrap_u64];omega
   have u2:IntKind.u64.wrap (PT:Int)=(PT:Int):=by rw[IntKind.wrap_u64];omega
   have t0:((C1:Int)!=(s0:Int))=true:=by simp;omega
   have i1:(0:Int)≤(C1:Int):=by omega
   have i2:(C1:Int)<(N:Int):=by omega
   have cb:wr.cell? ⟨gB,C1,none⟩=some (.int .i32 (C0:Int)):=by refine(HM.ext.cells.1 _ _ hb).trans ?_;obtain⟨b',o',e1,_,hc⟩:=hS.out.rd (by omega);injection e1 with e1;injection e1 with e1 e2;subst e1 e2;have:=hc C1 (by omega);rw[Nat.zero_add]at this;rw[this];simp[mM,b8]
   clear x h pF pT b5 b6 b8 b hT o
   go_wp2_with (first
    |(go_at_call 233;first
      |((with_reducible refine(HF _ HM.ext).mono ?_);rintro e9 w9 ⟨rfl,rfl⟩)
      |((with_reducible refine(HT _ HM.ext).mono ?_);rintro e9 w9 ⟨rfl,rfl⟩))
    |(at_builtin;go_loud (refine cE oD rfl _ _ rfl (HM.adv ((Ext.refl _).alloc (.cells #[(F:Int),(T:Int)] TSL))) 0 rfl rfl (aK ((F:Int),(T:Int))) rfl (dJ _ _ _ 1 2 _ (by first|rfl|simp) (by first|rfl|simp) (by simp[maxLen])) (mG _ _) (by omega) ?_;intro q7 c7 w6 M7)))
   have M8:=(show Mem w w6 [aJ w.heap.size TSL 2 (q7) (k+1) (c7) ((mV e d (k+1)).flatMap aK)]from by rw[m.out,List.flatMap_append,List.flatMap_cons,List.flatMap_nil,List.append_nil,u.out];exact M7)
   clear M7 HM;go_wp2;go_roundw
   case rel=>exact⟨k+1,q7,c7,by omega,by rw[t.out],rfl,M8⟩
   case measure=>simp[aLk];omega
  obtain rfl:d=k:=by omega
  have t0:((s0:Int)!=(s0:Int))=false:=by simp
  rw[show a (d-d)=s0 by rw[Nat.sub_self,f.out]];have ab:=xQ (aGk e d);have y:=xQ (aGl e d d);by_cases h0:d=0
  ·subst h0;go_wp2_with fail;refine(aFe q lc _).mono ?_;rintro e9 w9 ⟨rfl,rfl⟩;go_wp2;go_ret;exact⟨q,lc,rfl,HM.ow 0,HM.ext⟩
  obtain⟨g,rfl,z,aa⟩:=HM.so 0;clear z aa;have HR:=xQ (aHu g d lc (mV e d d) w wr (by omega) y.out HM);go_wp2_with fail;refine HR.out.mono ?_;rintro e9 w9 ⟨rfl,l⟩;have M9:=(show Mem w w9 [aJ w.heap.size TSL 2 (some ⟨g,0,none⟩) (d) (lc) (((List.range d).map (fun i=>iK (e i))).flatMap aK)]from by rw[←ab.out];exact l)
  clear l HM HR;go_wp2;go_ret;have r:((List.range d).map (fun i=>iK (e i))).length=d:=by simp
  exact⟨some ⟨g,0,none⟩,lc,by rw[r];rfl,by rw[r];exact M9.ow 0,M9.ext⟩
end Go.Proofs.YtpelpnfhbepokaaGreatDoor
namespace Go.Proofs.YtpelpnfhbepokaaGreatDoor
open Go.RowKit
set_option linter.unusedVariables false
set_option linter.unusedSimpArgs false
theorem lU (v:Value)(n:Nat):(madeCells #[v] n).toList=List.replicate n v∧(madeCells #[v] n).size=n:=by
 constructor
 ·apply List.ext_getElem<;>simp[madeCells,Nat.mod_one]
 simp[madeCells]
def gO (n:Nat)(rows:List RowD):List Value:=rows.map RowD.v++List.replicate (n-rows.length) (.slice none 0 0)
theorem aIu {n:Nat}{rows:List RowD}(h:rows.length<n):(gO n rows)[rows.length]? =some (.slice none 0 0):=by unfold gO;rw[List.getElem?_append_right (by simp)];simp[List.getElem?_replicate];omega
theorem aGb {n:Nat}{rows:List RowD}(h:rows.length<n)(r:RowD):(gO n rows).set rows.length r.v=gO n (rows++ [r]):=by
 unfold gO;have e:n-rows.length=(n-(rows++ [r]).length)+1:=by simp;omega
 rw[e,List.replicate_succ,List.set_append_right _ _ (by simp),List.map_append,List.append_assoc];simp
theorem aGc {n k:Nat}{rows:List RowD}{r:RowD}(h:rows[k]? =some r):(gO n rows)[k]? =some r.v:=by unfold gO;rw[List.getElem?_append_left (by simpa using(List.getElem?_eq_some_iff.1 h).1),List.getElem?_map,h];rfl
theorem qG (xs:List Int)(k:Nat)(x:Int):(mM xs).set k (.int .i32 x)=mM (xs.set k x):=by simp[mM,List.map_set]
theorem yN {xs:List Int}{k:Nat}{x:Int}(h:xs[k]? =some x):(mM xs)[k]? =some (.int .i32 x):=by simp[mM,h]
theorem rF {aA:Int}{n M s f:Nat}(hf:f≤n): ∀v∈gM aA n M s f,v∈mR aA n M s:=by intro v hv;rw[←wH];unfold gM at hv⊢;obtain⟨x,hx,hv⟩:=List.mem_flatMap.1 hv;exact List.mem_flatMap.2 ⟨x,List.mem_range.2 (Nat.lt_of_lt_of_le (List.mem_range.1 hx) hf),hv⟩
theorem wG {aA:Int}{n M s f j:Nat}(hf:f<n)(hb:(s%M).testBit f=false): ∀v∈iE aA n M s f j,v∈mR aA n M s:=by intro v hv;refine rF (f:=f+1) hf v ?_;rw[oY,aJ4 hb];refine List.mem_append_right _ ?_;unfold iE at hv⊢;rw[List.take_length];obtain⟨t,ht,e⟩:=List.mem_map.1 hv;obtain⟨h1,h2⟩:=List.mem_filter.1 ht;exact List.mem_map.2 ⟨t,List.mem_filter.2 ⟨List.mem_of_mem_take h1,h2⟩,e⟩
structure aLd (n u f t PF PT P2 X1 mv nx:Nat) (D:Int):Prop where
 x1:bits .xor .i64 (u:Int) (PF:Int)=(X1:Int)
 x2:bits .xor .i64 (X1:Int) (PT:Int)=(mv:Int)
 no:f≠u/P2→mv=nx
 yes:f=u/P2→IntKind.i64.wrap ((mv:Int)+D)=(nx:Int)
 d:IntKind.i64.wrap (((t:Int)-(f:Int))*(P2:Int))=D
theorem aJz {n u f t:Nat}(hn:n≤12)(hu:u<n*2 ^ n)(a:f<n)(b:t<n)(hf:u.testBit f=false)(ht:u.testBit t=true)(hb:fP (2 ^ n) (u/2 ^ n) (u%2 ^ n) f t<n*2 ^ n):
  aLd n u f t (2 ^ f) (2 ^ t) (2 ^ n) (u ^^^ 2 ^ f) (cV u f t) (fP (2 ^ n) (u/2 ^ n) (u%2 ^ n) f t) (((t:Int)-(f:Int))*(2 ^ n:Nat)):=by
 have p0:2 ^ n≤2 ^ 12:=Nat.pow_le_pow_right (n:=2) (by omega) hn;have p1:2 ^ f≤2 ^ 11:=Nat.pow_le_pow_right (n:=2) (by omega) (by omega);have p2:2 ^ t≤2 ^ 11:=Nat.pow_le_pow_right (n:=2) (by omega) (by omega);have hN:n*2 ^ n≤12*4096:=Nat.mul_le_mul hn (by omega);have e:u ^^^ 2 ^ f<2 ^ 16:=Nat.xor_lt_two_pow (by omega) (by omega);have c:((t:Int)-(f:Int))*(2 ^ n:Nat)≤12*4096:=by
  have h1:((t:Int)-(f:Int))*(2 ^ n:Nat)=(t:Int)*(2 ^ n:Nat)-(f:Int)*(2 ^ n:Nat):=Int.sub_mul _ _ _;have h2:t*2 ^ n≤12*4096:=Nat.mul_le_mul (by omega) (by omega);have h3:(t:Int)*(2 ^ n:Nat)=((t*2 ^ n:Nat):Int):=by push_cast;rfl
  have h4:(f:Int)*(2 ^ n:Nat)=((f*2 ^ n:Nat):Int):=by push_cast;rfl
  omega
 have d: -(12*4096)≤((t:Int)-(f:Int))*(2 ^ n:Nat):=by
  have h1:((t:Int)-(f:Int))*(2 ^ n:Nat)=(t:Int)*(2 ^ n:Nat)-(f:Int)*(2 ^ n:Nat):=Int.sub_mul _ _ _;have h2:f*2 ^ n≤12*4096:=Nat.mul_le_mul (by omega) (by omega);have h3:(t:Int)*(2 ^ n:Nat)=((t*2 ^ n:Nat):Int):=by push_cast;rfl
  have h4:(f:Int)*(2 ^ n:Nat)=((f*2 ^ n:Nat):Int):=by push_cast;rfl
  omega
 refine⟨sO _ _ (by omega) (by omega),?_,fun hc=>(aK0 a b hf ht hc).symm,fun hc=> ?_,IntWalk.i64_in _ (by omega)⟩
 ·rw[sO _ _ (by omega) (by omega),aGs hf ht]
 have h1:=aI1 a b hf ht hc;have h2:((2 ^ n:Nat):Int)=(2:Int) ^ n:=by simp
 rw[h2,←h1];exact IntWalk.i64_in _ (by omega)
theorem aJf {u f:Nat}(hu:u<9223372036854775808)(hf:f<12)(hb:u.testBit f=false):bits .and .i64 (u:Int) ((2 ^ f:Nat):Int)=0:=by have p1:2 ^ f≤2 ^ 11:=Nat.pow_le_pow_right (n:=2) (by omega) (by omega);rw[nH u _ hu (by omega),aEp,hb];rfl
theorem aEn {u f:Nat}(hu:u<9223372036854775808)(hf:f<12)(hb:u.testBit f=true):bits .and .i64 (u:Int) ((2 ^ f:Nat):Int)=((2 ^ f:Nat):Int):=by have p1:2 ^ f≤2 ^ 11:=Nat.pow_le_pow_right (n:=2) (by omega) (by omega);rw[nH u _ hu (by omega),aEp,hb];rfl
theorem SGoal.trail {aA:Int}{xs:List Int}{c d u:Nat}{B:List Int}(hn:xs.length≤12)(h:SGoal aA xs c d u B)(hl:B.length=xs.length*2 ^ xs.length):
  Trail xs.length (xs.length*2 ^ xs.length) d B (fun j=>eN xs.length (gP aA xs.length (aV (fS aA xs.length (bJ xs).length)) (st0 xs c) j)) (fun j=>fQ aA xs.length (aV (fS aA xs.length (bJ xs).length)) (st0 xs c) j):=by
 have a: ∀j,j≤d→eN xs.length (gP aA xs.length (aV (fS aA xs.length (bJ xs).length)) (st0 xs c) j)%2 ^ xs.length=(gP aA xs.length (aV (fS aA xs.length (bJ xs).length)) (st0 xs c) j).2:=fun j hj=>(jP (h.pt j hj).set).2
 refine⟨hl,fun j hj=>qO (h.pt j hj).car (h.pt j hj).set,fun j hj e=>h.far j hj e,h.back,fun j hj=> ?_,fun j hj=> ?_,fun j hj=> ?_,fun j hj=> ?_,fun j hj=> ?_⟩
 ·exact(eU.1 (h.edge j hj).1).1
 ·exact(eU.1 (h.edge j hj).1).2.1
 ·rw[a j (by omega)];exact(eU.1 (h.edge j hj).1).2.2.2.1
 ·rw[a j (by omega)];exact(eU.1 (h.edge j hj).1).2.2.2.2
 rw[a j (by omega),a (j+1) (by omega),(h.edge j hj).2];rfl
end Go.Proofs.YtpelpnfhbepokaaGreatDoor
