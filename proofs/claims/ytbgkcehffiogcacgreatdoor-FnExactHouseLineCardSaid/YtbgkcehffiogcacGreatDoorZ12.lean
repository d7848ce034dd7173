/-
  Texts of this proof, packed (@packed).
-/
import Derived.Test.YtbgkcehffiogcacGreatDoorZ10
namespace Go.Proofs.YtbgkcehffiogcacGreatDoor
set_option linter.unusedSimpArgs false
set_option linter.unusedVariables false
section
open Go.RowKit
def gQ:Nat→Nat
 |0=>0
 |n+1=>(n+1)%2+gQ ((n+1)/2)
decreasing_by omega
theorem rR (n:Nat):gQ n=n%2+gQ (n/2):=by
 cases n with
 |zero=>rw[gQ]
 |succ n=>rw[gQ]
theorem vR: ∀(f S:Nat),S.testBit f=false→ ∀k,(S+2 ^ f).testBit k=(S.testBit k || decide (k=f)):=by
 intro f;induction f with
 |zero=>
  intro S h k;rw[aSm]at h;have h0:S%2=0:=by simp at h;omega
  cases k with
  |zero=>rw[aSm,aSm];simp;omega
  |succ k=>rw[aSx,aSx,show(S+2 ^ 0)/2=S/2 by simp;omega];simp
 |succ f ih=>
  intro S h k;rw[aSx]at h;have e:(S+2 ^ (f+1))/2=S/2+2 ^ f:=by rw[Nat.pow_succ];omega
  cases k with
  |zero=>rw[aSm,aSm];simp[Nat.pow_succ]<;>omega
  |succ k=>rw[aSx,aSx,e,ih _ h];simp
theorem wL: ∀(f S:Nat),S.testBit f=false→gQ (S+2 ^ f)=gQ S+1:=by
 intro f;induction f with
 |zero=>
  intro S h;rw[aSm]at h;have h0:S%2=0:=by simp at h;omega
  rw[rR (S+2 ^ 0),rR S,show(S+2 ^ 0)/2=S/2 by simp;omega];simp;omega
 |succ f ih=>
  intro S h;rw[aSx]at h;have e:(S+2 ^ (f+1))/2=S/2+2 ^ f:=by rw[Nat.pow_succ];omega
  rw[rR (S+2 ^ (f+1)),rR S,e,ih _ h];have:(S+2 ^ (f+1))%2=S%2:=by rw[Nat.pow_succ];omega
  omega
theorem aKl: ∀(t S:Nat),S.testBit t=true→ ∃R,S=R+2 ^ t∧R.testBit t=false:=by
 intro t;induction t with
 |zero=>
  intro S h;rw[aSm]at h;have h0:S%2=1:=by simpa using h
  exact⟨S-1,by simp;omega,by rw[aSm];simp;omega⟩
 |succ t ih=>intro S h;rw[aSx]at h;obtain⟨R,h1,h2⟩:=ih _ h;refine⟨2*R+S%2,by rw[Nat.pow_succ];omega,?_⟩;rw[aSx,show(2*R+S%2)/2=R by omega];exact h2
theorem vQ {t S:Nat}(h:S.testBit t=true):2 ^ t≤S∧(∀k,(S-2 ^ t).testBit k=(S.testBit k&& !decide (k=t)))∧gQ S=gQ (S-2 ^ t)+1:=by
 obtain⟨R,rfl,h2⟩:=aKl t S h;rw[aT1];refine⟨Nat.le_add_left _ _,fun k=> ?_,wL _ _ h2⟩;rw[vR _ _ h2];by_cases hk:k=t
 ·subst hk;simp[h2]
 simp[hk]
def dA (S f t:Nat):Nat:=S-2 ^ t+2 ^ f
theorem eS {S f t:Nat}(ht:S.testBit t=true)(hf:S.testBit f=false)(k:Nat):(dA S f t).testBit k=(decide (k=f) || (S.testBit k&& !decide (k=t))):=by obtain⟨a,b,c⟩:=vQ ht;unfold dA;rw[vR _ _ (by rw[b,hf];rfl),b];cases S.testBit k<;>cases decide (k=f)<;>cases decide (k=t)<;>rfl
theorem aG7 {S f t:Nat}(ht:S.testBit t=true)(hf:S.testBit f=false):gQ (dA S f t)=gQ S:=by obtain⟨a,b,c⟩:=vQ ht;unfold dA;rw[wL _ _ (by rw[b,hf];rfl),c]
theorem aI2 {a b:Nat}(h: ∀k,a.testBit k=b.testBit k):a=b:=aT4 h
theorem aOj {n a:Nat}(h: ∀k,n≤k→a.testBit k=false):a<2 ^ n:=Nat.lt_pow_two_of_testBit a h
theorem tZ {n a:Nat}(h:a<2 ^ n){k:Nat}(hk:n≤k):a.testBit k=false:=Nat.testBit_lt_two_pow (aQm h (aQx (by omega) hk))
theorem rU {n S f t:Nat}(hS:S<2 ^ n)(a:f<n)(ht:S.testBit t=true)(hf:S.testBit f=false):dA S f t<2 ^ n:=by
 refine aOj fun k hk=> ?_
 rw[eS ht hf,tZ hS hk];have:k≠f:=by omega
 simp[this]
theorem aG8 {S f t:Nat}(ht:S.testBit t=true)(hf:S.testBit f=false):dA (dA S f t) t f=S:=by
 have a:f≠t:=fun e=>by subst e;rw[ht]at hf;cases hf
 refine aI2 fun k=> ?_
 rw[eS (by rw[eS ht hf];simp) (by rw[eS ht hf];simp[Ne.symm a]),eS ht hf];by_cases h1:k=t
 ·subst h1;simp[ht]
 by_cases h2:k=f
 ·subst h2;simp[h1,hf]
 simp[h1,h2]
def jF (p:Nat→Bool):Nat→Nat
 |0=>0
 |k+1=>jF p k+(if p k then 2 ^ k else 0)
theorem pP (p:Nat→Bool)(k:Nat):jF p k<2 ^ k:=by
 induction k with
 |zero=>simp[jF]
 |succ k ih=>unfold jF;rw[Nat.pow_succ];split<;>omega
theorem aLv (p:Nat→Bool)(k j:Nat):(jF p k).testBit j=(decide (j<k)&&p j):=by
 induction k with
 |zero=>simp[jF]
 |succ k ih=>
  have hk:(jF p k).testBit k=false:=tZ (pP p k) (aQn _);unfold jF;cases hp:p k with
  |false=>
   simp only[Bool.false_eq_true,if_false,Nat.add_zero];rw[ih];by_cases h:j=k
   ·subst h;simp[hp]
   have:(j<k+1)↔j<k:=by omega
   simp[this]
  |true=>
   simp only[if_true];rw[vR _ _ hk,ih];by_cases h:j=k
   ·subst h;simp[hp]
   have:(j<k+1)↔j<k:=by omega
   simp[this,h]
theorem aJ2 (p:Nat→Bool)(k:Nat):gQ (jF p k)=((List.range k).filter p).length:=by
 induction k with
 |zero=>simp[jF,gQ]
 |succ k ih=>
  have hk:(jF p k).testBit k=false:=tZ (pP p k) (aQn _);rw[aS7,aRj,aQw,←ih,show jF p (k+1)=jF p k+(if p k then 2 ^ k else 0)from rfl];cases hp:p k with
  |false=>simp[hp]
  |true=>simp only[if_true];rw[wL _ _ hk];simp[hp]
def aN (xs:List Int):Nat:=jF (cV xs) xs.length
theorem eQ (xs:List Int)(k:Nat):(aN xs).testBit k=cV xs k:=by
 unfold aN;rw[aLv];by_cases h:k<xs.length
 ·simp[h]
 have:cV xs k=false:=by unfold cV;rw[aRs (by omega)];rfl
 rw[this];simp
theorem nY (xs:List Int):aN xs<2 ^ xs.length:=pP _ _
theorem aC2 (xs:List Int):gQ (aN xs)=(bP xs).length:=aJ2 _ _
end
section
open Go.RowKit
def eJ (aA:Int)(n S:Nat):List (Nat×Nat):=(List.range n).flatMap fun f=>if S.testBit f then []else((aR aA n f).filter (fun t=>S.testBit t)).map (fun t=>(f,t))
theorem fJ {aA:Int}{n S:Nat}{e:Nat×Nat}:e∈eJ aA n S↔e.1<n∧e.2<n∧e.2∈aR aA n e.1∧S.testBit e.1=false∧S.testBit e.2=true:=by
 obtain⟨f,t⟩:=e;simp only[eJ,List.mem_flatMap,aR3];constructor
 ·rintro⟨a,ha,hm⟩;cases hb:S.testBit a with
  |true=>rw[hb]at hm;simp at hm
  |false=>rw[hb]at hm;simp only[Bool.false_eq_true,if_false,List.mem_map,aRf]at hm;obtain⟨x,⟨h1,h2⟩,h3⟩:=hm;injection h3 with h3 h4;subst h3 h4;exact⟨ha,(bU.1 h1).1,h1,hb,h2⟩
 rintro⟨h1,h2,h3,h4,h5⟩;refine⟨f,h1,?_⟩;rw[h4];simp only[Bool.false_eq_true,if_false,List.mem_map,aRf];exact⟨t,⟨h3,h5⟩,rfl⟩
def dN (c f t:Nat):Nat:=if f=c then t else c
def gH (M c S f t:Nat):Nat:=dN c f t*M+dA S f t
def oB (aA:Int)(n M s:Nat):List Nat:=(eJ aA n (s%M)).map (fun e=>gH M (s/M) (s%M) e.1 e.2)
def xZ (aA:Int)(n M s:Nat):List Nat:=(List.range n).flatMap fun h=>if(s%M).testBit h then((aR aA n h).filter (fun f=> !(s%M).testBit f)).map (fun f=>gH M (s/M) (s%M) f h)else []
def rC (aA:Int)(n M s v:Nat):Prop:= ∃f t,f<n∧t<n∧t∈aR aA n f∧(s%M).testBit f=false∧(s%M).testBit t=true∧v=gH M (s/M) (s%M) f t
theorem pK {aA:Int}{n M s v:Nat}:v∈oB aA n M s↔rC aA n M s v:=by
 unfold oB rC;rw[List.mem_map];constructor
 ·rintro⟨⟨f,t⟩,h,rfl⟩;obtain⟨h1,h2,h3,h4,h5⟩:=fJ.1 h;exact⟨f,t,h1,h2,h3,h4,h5,rfl⟩
 rintro⟨f,t,h1,h2,h3,h4,h5,rfl⟩;exact⟨(f,t),fJ.2 ⟨h1,h2,h3,h4,h5⟩,rfl⟩
theorem nC {aA:Int}{n M s v:Nat}:v∈xZ aA n M s↔rC aA n M s v:=by
 unfold xZ rC;rw[List.mem_flatMap];constructor
 ·rintro⟨h,hh,hm⟩;rw[aR3]at hh;cases hb:(s%M).testBit h with
  |false=>rw[hb]at hm;simp at hm
  |true=>rw[hb]at hm;simp only[if_true,List.mem_map,aRf,Bool.not_eq_true']at hm;obtain⟨f,⟨h1,h2⟩,rfl⟩:=hm;exact⟨f,h,(bU.1 h1).1,hh,fX hh h1,h2,hb,rfl⟩
 rintro⟨f,t,h1,h2,h3,h4,h5,rfl⟩;refine⟨t,aR3.2 h2,?_⟩;rw[h5];simp only[if_true,List.mem_map,aRf,Bool.not_eq_true'];exact⟨f,⟨fX h1 h3,h4⟩,rfl⟩
structure zA (n M s:Nat):Prop where
 car:s/M<n
 set:s%M<2 ^ n
 occ:(s%M).testBit (s/M)=false
theorem lV {M c S:Nat}(h:S<M):(c*M+S)/M=c:=by rw[Nat.mul_comm,Nat.mul_add_div (by omega),Nat.div_eq_of_lt h,Nat.add_zero]
theorem gY {M c S:Nat}(h:S<M):(c*M+S)%M=S:=by rw[Nat.mul_comm,Nat.mul_add_mod,Nat.mod_eq_of_lt h]
theorem aEs {n c f t:Nat}(hc:c<n)(ht:t<n):dN c f t<n:=by unfold dN;split<;>omega
theorem lF {aA:Int}{n M s v:Nat}(hM:2 ^ n≤M)(hS:s%M<2 ^ n)(h:rC aA n M s v): ∃f t,f<n∧t<n∧t∈aR aA n f∧(s%M).testBit f=false∧(s%M).testBit t=true∧v/M=dN (s/M) f t∧v%M=dA (s%M) f t∧dA (s%M) f t<2 ^ n:=by obtain⟨f,t,h1,h2,h3,h4,h5,rfl⟩:=h;have hl:=rU hS h1 h5 h4;exact⟨f,t,h1,h2,h3,h4,h5,lV (by omega),gY (by omega),hl⟩
theorem aHx {aA:Int}{n M s v:Nat}(hM:2 ^ n≤M)(hc:s/M<n)(hS:s%M<2 ^ n)(h:rC aA n M s v):v/M<n∧v%M<2 ^ n:=by obtain⟨f,t,h1,h2,h3,h4,h5,h6,h7,h8⟩:=lF hM hS h;exact⟨by rw[h6];exact aEs hc h2,by rw[h7];exact h8⟩
theorem sM {aA:Int}{n M s v:Nat}(hM:2 ^ n≤M)(hs:zA n M s)(h:rC aA n M s v):zA n M v:=by
 obtain⟨a,b⟩:=aHx hM hs.car hs.set h;obtain⟨f,t,h1,h2,h3,h4,h5,h6,h7,h8⟩:=lF hM hs.set h;refine⟨a,b,?_⟩;rw[h6,h7,eS h5 h4];unfold dN;have c:f≠t:=fun e=>by subst e;rw[h5]at h4;cases h4
 split
 ·simp[Ne.symm c]
 have:=hs.occ;have h9:s/M≠f:=fun e=>by omega
 simp[this,h9]
theorem qA {aA:Int}{n M s v:Nat}(hM:2 ^ n≤M)(hS:s%M<2 ^ n)(h:rC aA n M s v):gQ (v%M)=gQ (s%M):=by obtain⟨f,t,h1,h2,h3,h4,h5,h6,h7,h8⟩:=lF hM hS h;rw[h7,aG7 h5 h4]
theorem aA7 {aA:Int}{n M s v:Nat}(hM:2 ^ n≤M)(hs:zA n M s)(h:rC aA n M s v):rC aA n M v s:=by
 obtain⟨f,t,h1,h2,h3,h4,h5,h6,h7,h8⟩:=lF hM hs.set h;have b:f≠t:=fun e=>by subst e;rw[h5]at h4;cases h4
 refine⟨t,f,h2,h1,fX h1 h3,by rw[h7,eS h5 h4];simp[Ne.symm b],by rw[h7,eS h5 h4];simp,?_⟩;have a:dN (v/M) t f=s/M:=by
  rw[h6];unfold dN;by_cases hf:f=s/M
  ·simp[hf]
  have ht: ¬t=s/M:=fun e=>by have:=hs.occ;rw[←e,h5]at this;cases this
  simp[hf,ht]
 unfold gH;rw[a,h7,aG8 h5 h4];rw[Nat.mul_comm];exact(aSz s M).symm
def aPg:List ((Int×Nat)×List Nat):= [
 ((2,4),[0,0,0,0,1,0,2,3,1,2,0,3,5,4,4,0]),
 ((2,6),[0,0,0,0,0,0,1,0,2,3,3,4,1,2,0,3,5,4,5,4,4,0,5,6,7,8,6,7,0,8,9,8,8,7,9,0]),
 ((3,6),[0,0,0,0,0,0,1,0,5,2,3,4,7,6,0,8,7,8,1,2,3,0,3,4,5,4,5,4,0,6,9,8,9,8,7,0]),
 ((3,9),[0,0,0,0,0,0,0,0,0,1,0,5,2,3,4,3,4,5,7,6,0,8,7,8,9,8,9,1,2,3,0,3,4,5,4,5,5,4,5,4,0,6,5,6,7,9,8,9,8,7,0,9,8,9,7,8,9,6,7,8,0,8,9,9,8,9,8,7,8,9,0,9,13,12,11,12,11,10,11,10,0]),
 ((4,8),[0,0,0,0,0,0,0,0,1,0,5,6,2,3,4,5,7,6,0,10,8,7,8,9,13,12,11,0,14,13,12,13,1,2,3,4,0,3,4,5,5,4,5,6,4,0,6,7,9,8,9,10,8,7,0,11,15,14,13,14,14,13,12,0]),
 ((4,12),[0,0,0,0,0,0,0,0,0,0,0,0,1,0,5,6,2,3,4,5,3,4,5,6,7,6,0,10,8,7,8,9,9,8,9,10,13,12,11,0,14,13,12,13,15,14,13,14,1,2,3,4,0,3,4,5,5,4,5,6,5,4,5,6,4,0,6,7,5,6,7,8,9,8,9,10,8,7,0,11,9,8,9,10,15,14,13,14,14,13,12,0,15,14,13,14,7,8,9,10,6,7,8,9,0,8,9,10,9,8,9,10,8,7,8,9,9,0,9,10,13,12,11,12,12,11,10,11,11,10,0,12,17,16,15,16,16,15,14,15,15,14,13,0])]
def pot (aA:Int)(n c h:Nat):Nat:=((aPg.find? (fun g=>g.1==(aA,n))).map (fun g=>g.2.getD (c*n+h) 0)).getD 0
def aQ8 (aA:Int)(n:Nat):Bool:=(List.range n).all fun c=>(List.range n).all fun h=>decide (pot aA n c h≤60)&&(c==0 || c==h || (aR aA n h).any fun t=>decide (pot aA n (if t=c then h else c) t<pot aA n c h))
theorem aOc:(jB.all fun g=>aQ8 g.1 g.2)=true:=by decide+kernel
theorem wK {aA:Int}{n c h:Nat}(hg:(aA,n)∈jB)(hc:c<n)(hh:h<n):pot aA n c h≤60∧(c≠0→c≠h→ ∃t,t∈aR aA n h∧pot aA n (if t=c then h else c) t<pot aA n c h):=by
 have h1:=aRn.1 aOc _ hg;have h2:=aRn.1 (aRn.1 h1 c (aR3.2 hc)) h (aR3.2 hh);simp only[aQv,Bool.or_eq_true,decide_eq_true_eq,beq_iff_eq,List.any_eq_true]at h2;refine⟨h2.1,fun a b=> ?_⟩;rcases h2.2 with(h3|h3)|⟨t,h3,h4⟩
 ·exact absurd h3 a
 ·exact absurd h3 b
 exact⟨t,h3,h4⟩
def vY (n many:Nat):List Nat:=(List.range (2 ^ n)).filter (fun s=> !s.testBit 0&&decide (gQ s=many))
theorem jJ {n many s:Nat}:s∈vY n many↔s<2 ^ n∧s.testBit 0=false∧gQ s=many:=by simp[vY]
section
variable {aA:Int} {n many:Nat} {D:List Int}
abbrev MM:Nat:=4096
abbrev NN:Nat:=49152
abbrev eX (aA:Int)(n many:Nat)(D:List Int):Prop:=sU (xZ aA n MM) (vY n many) NN D
theorem iJ (hn:n≤12):2 ^ n≤MM:=aQx (n:=2) (by omega) hn
theorem oR (hn:n≤12){s:Nat}(h:zA n MM s):s<NN:=by have h1:=h.car;have h2:=aSz s MM;have h3:s%MM<MM:=Nat.mod_lt _ (by decide);show s<49152;have:s/4096<n:=h1;omega
theorem aPj {s:Nat}(h:s<NN):s/MM<12:=by have:s<49152:=h;show s/4096<12;omega
theorem aHz (c:4≤n)(hn:n≤12)(hD:eX aA n many D): ∀(k s:Nat),s<NN→D.getD s 0=k→zA n MM s∧gQ (s%MM)=many:=by
 intro k;induction k with
 |zero=>intro s hs h0;have hm:=(hD.zero s hs).1 (by omega);obtain⟨h1,h2,h3⟩:=jJ.1 hm;have h4:=iJ hn;have h5:s%MM=s:=Nat.mod_eq_of_lt (by omega);have h6:s/MM=0:=Nat.div_eq_of_lt (by omega);exact⟨⟨by rw[h6];omega,by rw[h5];exact h1,by rw[h5,h6];exact h2⟩,by rw[h5];exact h3⟩
 |succ k ih=>intro s hs h0;obtain⟨u,hu,hv,hd⟩:=hD.back s hs (by omega);obtain⟨a,b⟩:=ih u hu (by omega);have he:=nC.1 hv;exact⟨sM (iJ hn) a he,by rw[qA (iJ hn) a.set he];exact b⟩
theorem aAc (b:4≤n)(hn:n≤12)(hD:eX aA n many D){s v:Nat}(hs:zA n MM s)(he:rC aA n MM s v):(0≤D.getD s 0↔0≤D.getD v 0)∧(0≤D.getD s 0→D.getD s 0≤D.getD v 0+1∧D.getD v 0≤D.getD s 0+1):=by
 have hv:=sM (iJ hn) hs he;have a:=aA7 (iJ hn) hs he;have l1:=oR hn hs;have l2:=oR hn hv;have e1:=fun h=>hD.edge s v l1 h (nC.2 he)
 have e2:=fun h=>hD.edge v s l2 h (nC.2 a)
 exact⟨⟨fun h=>(e1 h).1,fun h=>(e2 h).1⟩,fun h=>⟨(e2 (e1 h).1).2,(e1 h).2⟩⟩
theorem aNk (hg:(aA,n)∈jB)(i:4≤n)(hn:n≤12)(hD:eX aA n many D): ∀(P s h:Nat),pot aA n (s/MM) h≤P→zA n MM s→gQ (s%MM)=many→(s%MM).testBit h=true→0≤D.getD s 0∧D.getD s 0≤pot aA n (s/MM) h:=by
 intro P;induction P with
 |zero=>
  intro s h hP hs hm hh;by_cases h0:s/MM=0
  ·have h1:s=s%MM:=by have:=aSz s MM;rw[h0]at this;omega
   have:D.getD s 0=0:=(hD.zero s (oR hn hs)).2 (jJ.2 ⟨by rw[h1];exact hs.set,by rw[h1,←h0];exact hs.occ,by rw[h1];exact hm⟩);rw[this];exact⟨Int.le_refl _,by omega⟩
  have c:h<n:=by
   rcases Nat.lt_or_ge h n with h1|h1
   ·exact h1
   rw[tZ hs.set h1]at hh;cases hh
  obtain⟨t,ht,d⟩:=(wK hg hs.car c).2 h0 (fun e=>by rw[←e,hs.occ]at hh;cases hh);omega
 |succ P ih=>
  intro s h hP hs hm hh;by_cases h0:s/MM=0
  ·have h1:s=s%MM:=by have:=aSz s MM;rw[h0]at this;omega
   have:D.getD s 0=0:=(hD.zero s (oR hn hs)).2 (jJ.2 ⟨by rw[h1];exact hs.set,by rw[h1,←h0];exact hs.occ,by rw[h1];exact hm⟩);rw[this];exact⟨Int.le_refl _,by omega⟩
  have c:h<n:=by
   rcases Nat.lt_or_ge h n with h1|h1
   ·exact h1
   rw[tZ hs.set h1]at hh;cases hh
  obtain⟨t,ht,d⟩:=(wK hg hs.car c).2 h0 (fun e=>by rw[←e,hs.occ]at hh;cases hh);have g:=(bU.1 ht).1;cases hb:(s%MM).testBit t with
  |true=>
   have f:t≠s/MM:=fun e=>by rw[e,hs.occ]at hb;cases hb
   rw[if_neg f]at d;obtain⟨a,b⟩:=ih s t (by omega) hs hm hb;exact⟨a,by omega⟩
  |false=>
   have he:rC aA n MM s (gH MM (s/MM) (s%MM) t h):=⟨t,h,g,c,fX c ht,hb,hh,rfl⟩
   obtain⟨f',t',k1,k2,k3,k4,k5,k6,k7,k8⟩:=lF (iJ hn) hs.set he;have hl:=rU hs.set g hh hb;have e1:gH MM (s/MM) (s%MM) t h/MM=dN (s/MM) t h:=lV (aQm hl (iJ hn));have e2:gH MM (s/MM) (s%MM) t h%MM=dA (s%MM) t h:=gY (aQm hl (iJ hn));have j:=sM (iJ hn) hs he;have k:=qA (iJ hn) hs.set he;have f:t≠h:=fun e=>by subst e;rw[hh]at hb;cases hb
   have hp:pot aA n (gH MM (s/MM) (s%MM) t h/MM) t=pot aA n (if t=s/MM then h else s/MM) t:=by rw[e1];rfl
   obtain⟨a,b⟩:=ih _ t (by rw[hp];omega) j (by rw[k];exact hm) (by rw[e2,eS hh hb];simp);rw[hp]at b;obtain⟨c1,c2⟩:=aAc i hn hD hs he;have c3:=c1.2 a;have:=c2 c3;exact⟨c3,by omega⟩
theorem aP4 {adj:Nat→List Nat}{src:List Nat}{N:Nat}{D E:List Int}(hD:sU adj src N D)(hE:sU adj src N E): ∀(k v:Nat),v<N→D.getD v 0=k→0≤E.getD v 0∧E.getD v 0≤k:=by
 intro k;induction k with
 |zero=>intro v hv h;have:E.getD v 0=0:=(hE.zero v hv).2 ((hD.zero v hv).1 (by omega));rw[this];simp
 |succ k ih=>intro v hv h;obtain⟨u,hu,hm,hd⟩:=hD.back v hv (by omega);obtain⟨a,b⟩:=ih u hu (by omega);obtain⟨c,d⟩:=hE.edge u v hu a hm;exact⟨c,by omega⟩
theorem aAa {adj:Nat→List Nat}{src:List Nat}{N:Nat}{D E:List Int}(hD:sU adj src N D)(hE:sU adj src N E){v:Nat}(hv:v<N):(0≤D.getD v 0↔0≤E.getD v 0)∧(0≤D.getD v 0→D.getD v 0=E.getD v 0):=by
 have h1: ∀(A B:List Int),sU adj src N A→sU adj src N B→0≤A.getD v 0→0≤B.getD v 0∧B.getD v 0≤A.getD v 0:=by intro A B hA hB h;obtain⟨k,hk⟩:=aSh h;have:=aP4 hA hB k v hv hk;rw[hk];exact this
 refine⟨⟨fun h=>(h1 D E hD hE h).1,fun h=>(h1 E D hE hD h).1⟩,fun h=> ?_⟩;obtain⟨a,b⟩:=h1 D E hD hE h;obtain⟨c,d⟩:=h1 E D hE hD a;omega
def iV (N:Nat)(src:List Nat):List Int:=src.foldl (fun A v=>A.set v 0) (List.replicate N (-1))
theorem aFs (N:Nat)(src:List Nat)(v:Nat):iV N (src++ [v])=(iV N src).set v 0:=by simp[iV]
theorem zJ (N:Nat)(src:List Nat):(iV N src).length=N:=by
 unfold iV
 suffices h: ∀(l:List Nat) (A:List Int),(l.foldl (fun A v=>A.set v 0) A).length=A.length by rw[h];simp
 intro l;induction l with
 |nil=>intro A;rfl
 |cons x l ih=>intro A;simp only[List.foldl_cons];rw[ih];simp
theorem zK (N:Nat)(src:List Nat)(v:Nat)(hv:v<N):(v∈src→(iV N src).getD v 0=0)∧(v∉src→(iV N src).getD v 0= -1):=by
 unfold iV
 suffices h: ∀(l:List Nat) (A:List Int),A.length=N→(v∈l→(l.foldl (fun A v=>A.set v 0) A).getD v 0=0)∧(v∉l→(l.foldl (fun A v=>A.set v 0) A).getD v 0=A.getD v 0) by obtain⟨a,b⟩:=h src (List.replicate N (-1)) (by simp);exact⟨a,fun h=>by rw[b h];simp[List.getD,hv]⟩
 intro l;induction l with
 |nil=>intro A _;simp
 |cons x l ih=>
  intro A hA;simp only[List.foldl_cons];obtain⟨a,b⟩:=ih (A.set x 0) (by simpa using hA);constructor
  ·intro hm;by_cases hl:v∈l
   ·exact a hl
   have:v=x:=by simpa[hl]using hm
   subst this;rw[b hl,cI (by omega)]
  intro hm;have h1:v≠x:=fun e=>hm (by simp[e])
  have h2:v∉l:=fun e=>hm (by simp[e])
  rw[b h2,bR (Ne.symm h1)]
theorem Inv.begin {adj:Nat→List Nat}{src:List Nat}{N:Nat}(hb: ∀v∈src,v<N)(a:src.Nodup):Inv adj src N 0 (iV N src,src):=by
 have h0: ∀v∈src,(iV N src).getD v 0=0:=fun v hv=>(zK N src v (hb v hv)).1 hv
 refine⟨zJ _ _,hb,fun v hv=> ?_,a,?_,?_,?_,fun v hv=>⟨hv,h0 v hv⟩,fun i u hi=>absurd hi (by omega)⟩
 ·by_cases hm:v∈src
  ·rw[h0 v hm];simp[hm]
  rw[(zK N src v hv).2 hm];simp[hm]
 ·refine List.pairwise_iff_getElem.2 fun i j hi hj _=> ?_
  dsimp only;rw[h0 _ (List.getElem_mem hi),h0 _ (List.getElem_mem hj)];exact Int.le_refl _
 ·intro u hu v hv;dsimp only;rw[h0 v hv,h0 u (aQq hu)];omega
 intro v hv;dsimp only;rw[h0 v hv];exact hv
theorem sS (hn:n≤12): ∀u v,u<NN→v∈xZ aA n MM u→v<NN:=by intro u v hu hv;obtain⟨f,t,h1,h2,h3,h4,h5,rfl⟩:=nC.1 hv;have hc:dN (u/MM) f t<12:=aEs (aPj hu) (by omega);have hS:u%MM<2 ^ 12:=Nat.mod_lt _ (by decide);have:=rU hS (by omega:f<12) h5 h4;show dN (u/MM) f t*4096+dA (u%MM) f t<49152;omega
theorem aHk (hn:n≤12): ∀v∈vY n many,v<NN:=fun v hv=>by
 have:=(jJ.1 hv).1;have h:=iJ hn;have h2:(MM:Nat)<NN:=by decide
 omega
theorem vX:(vY n many).Nodup:=List.Pairwise.filter _ List.nodup_range
end
end
section
open Go.RowKit
theorem aOb (m:Nat→Bool)(f k:Nat):oN m f k=((List.range k).filter m).map (fun(t:Nat)=>((f:Int),(t:Int))):=by
 induction k with
 |zero=>rfl
 |succ k ih=>rw[aS7,aRj,aRp,show oN m f (k+1)=oN m f k++(if m k then [((f:Int),(k:Int))]else [])from rfl,ih];cases h:m k<;>simp[h]
theorem aLx (m:Nat→Nat→Bool)(n k:Nat):gO m n k=(List.range k).flatMap (fun f=>((List.range n).filter (m f)).map (fun(t:Nat)=>((f:Int),(t:Int)))):=by
 induction k with
 |zero=>rfl
 |succ k ih=>rw[aS7,aRh,show gO m n (k+1)=gO m n k++oN (m k) k n from rfl,ih,aOb];simp
theorem fS {xs:List Int}{k:Nat}(hk:k<xs.length):cV xs k=decide (xs.getD k 0=0):=by unfold cV;rw[aQs,aQo hk];simp;rfl
theorem aDi {aA aB:Int}{xs:List Int}(h:aO aA aB xs=true){f t:Nat}(hf:f<xs.length)(ht:t<xs.length):
  bD aA aB xs (f:Int) (t:Int)=(!(aN xs).testBit f&&(decide (t∈aR aA xs.length f)&&(aN xs).testBit t)):=by
 have h1:dI aA aB xs (f:Int) (t:Int)=aX aA f t:=by unfold dI;rw[if_pos ⟨h,⟨by omega,by omega⟩,by omega,by omega⟩]
 have h2:=oY h f;unfold bD;rw[h1,eQ,eQ,fS hf,fS ht];simp only[aSo];have h3:decide (t∈aR aA xs.length f)=decide (aX aA f t=1):=by
  have:t∈aR aA xs.length f↔aX aA f t=1:=by rw[bU];exact⟨fun h=>h.2,fun h=>⟨ht,h⟩⟩
  simp[this]
 have h4:decide (0<xs.getD f 0)= !decide (xs.getD f 0=0):=by
  by_cases h0:xs.getD f 0=0
  ·rw[h0];rfl
  have:0<xs.getD f 0:=by omega
  simp only[h0,this];rfl
 rw[h3,h4];cases decide (aX aA f t=1)<;>cases decide (xs.getD f 0=0)<;>rfl
theorem aB3 {aA aB:Int}{xs:List Int}(h:aO aA aB xs=true):lB aA aB xs=(eJ aA xs.length (aN xs)).map (fun e=>((e.1:Int),(e.2:Int))):=by
 unfold lB eJ;rw[aLx,List.map_flatMap];have b: ∀l:List Nat,(∀f∈l,f<xs.length)→l.flatMap (fun(f:Nat)=>((List.range xs.length).filter (fun(t:Nat)=>bD aA aB xs f t)).map (fun(t:Nat)=>((f:Int),(t:Int))))=l.flatMap (fun a=>(if(aN xs).testBit a then []else((aR aA xs.length a).filter (fun t=>(aN xs).testBit t)).map (fun t=>(a,t))).map (fun e=>((e.1:Int),(e.2:Int)))):=by
  intro l;induction l with
  |nil=>intro _;rfl
  |cons f l ih=>
   intro hl;have hf:=hl f (by simp);rw[aRl,aRl,ih (fun x hx=>hl x (by simp[hx]))];congr 1
   have e1:(List.range xs.length).filter (fun(t:Nat)=>bD aA aB xs f t)=(List.range xs.length).filter (fun(t:Nat)=>(!(aN xs).testBit f&&(decide (t∈aR aA xs.length f)&&(aN xs).testBit t))):=
    List.filter_congr (fun t ht=>aDi h hf (aR3.1 ht))
   rw[e1];cases hb:(aN xs).testBit f with
   |true=>simp
   |false=>
    simp only[Bool.not_false,Bool.true_and,Bool.false_eq_true,if_false,List.map_map];have e2:(List.range xs.length).filter (fun(t:Nat)=>decide (t∈aR aA xs.length f)&&(aN xs).testBit t)=(aR aA xs.length f).filter (fun t=>(aN xs).testBit t):=by
     have:aR aA xs.length f=(List.range xs.length).filter (fun t=>decide (t∈aR aA xs.length f)):=by
      conv=>lhs;unfold aR
      refine List.filter_congr (fun t ht=> ?_);have:t∈aR aA xs.length f↔aX aA f t=1:=by rw[bU];exact⟨fun h=>h.2,fun h=>⟨aR3.1 ht,h⟩⟩
      simp[this]
     conv=>rhs;rw[this]
     rw[List.filter_filter];refine List.filter_congr (fun t _=> ?_);rw[Bool.and_comm]
    rw[e2];rfl
 exact b _ (fun f hf=>aR3.1 hf)
theorem tV {aA aB:Int}{xs:List Int}(h:aO aA aB xs=true){f t:Nat}(he:(f,t)∈eJ aA xs.length (aN xs)):
  bD aA aB xs (f:Int) (t:Int)=true∧bH aA aB xs (f:Int) (t:Int)=(xs.set t (xs.getD f 0)).set f 0∧aN (bH aA aB xs (f:Int) (t:Int))=dA (aN xs) f t∧ ∀c id,xs[c]? =some id→id≠0→(bH aA aB xs (f:Int) (t:Int))[dN c f t]? =some id:=by
 obtain⟨h1,h2,h3,h4,h5⟩:=fJ.1 he;dsimp only at h1 h2 h3 h4 h5;have hm:bD aA aB xs (f:Int) (t:Int)=true:=by rw[aDi h h1 h2,h4,h5];simp[h3]
 have hd:bH aA aB xs (f:Int) (t:Int)=(xs.set t (xs.getD f 0)).set f 0:=by unfold bH;rw[if_pos hm];simp only[aSo]
 have j:f≠t:=fun e=>by subst e;rw[h5]at h4;cases h4
 have b:xs.getD f 0≠0:=by intro e;rw[eQ,fS h1,e]at h4;simp at h4
 refine⟨hm,hd,?_,?_⟩
 ·refine aI2 fun k=> ?_
  rw[eS h5 h4,eQ,eQ,hd];by_cases hk:k<xs.length
  ·rw[fS (by simpa using hk),fS hk];by_cases k1:k=f
   ·subst k1;rw[aQs,aRa (by simpa using hk)];simp
   by_cases k2:k=t
   ·subst k2;rw[aQs,aSj (Ne.symm k1),aRa hk];have e:(some (xs.getD f 0)).getD 0=xs.getD f 0:=rfl;rw[e];have d: ¬xs[f]?.getD 0=0:=by rw[←aQs];exact b
    simp[d,k1]
   rw[aQs,aSj (Ne.symm k1),aSj (Ne.symm k2),←aQs];simp[k1,k2]
  have e1:cV ((xs.set t (xs.getD f 0)).set f 0) k=false:=by unfold cV;rw[aRs (by simp;omega)];rfl
  have e2:cV xs k=false:=by unfold cV;rw[aRs (by omega)];rfl
  rw[e1,e2];have:k≠f:=by omega
  simp[this]
 intro c id hc h0;rw[hd];obtain⟨i,g⟩:=aQr.1 hc;unfold dN;by_cases hcf:f=c
 ·rw[if_pos hcf,aSj (by omega),aRa h2,hcf,aQs,hc];rfl
 rw[if_neg hcf];have a:t≠c:=by rintro rfl;rw[eQ,fS h2,aQs,hc]at h5;simp at h5;exact h0 h5
 rw[aSj hcf,aSj a,hc]
def mB (aA:Int)(n:Nat)(dd:Nat→Nat→Int)(s:Nat×Nat):Option (Nat×Nat):=(eJ aA n s.2).find? (fun e=>decide (dd (dN s.1 e.1 e.2) (dA s.2 e.1 e.2)=dd s.1 s.2-1))
def jT (s e:Nat×Nat):Nat×Nat:=(dN s.1 e.1 e.2,dA s.2 e.1 e.2)
def gP (aA:Int)(n:Nat)(dd:Nat→Nat→Int)(s:Nat×Nat):Nat→Nat×Nat
 |0=>s
 |j+1=>match mB aA n dd (gP aA n dd s j)with
  |none=>gP aA n dd s j
  |some e=>jT (gP aA n dd s j) e
def gI (aA:Int)(n:Nat)(dd:Nat→Nat→Int)(s:Nat×Nat)(j:Nat):Nat×Nat:=(mB aA n dd (gP aA n dd s j)).getD (0,0)
def aV (D:List Int)(c S:Nat):Int:=D.getD (c*MM+S) 0
structure oJ (n many:Nat) (s:Nat×Nat):Prop where
 car:s.1<n
 set:s.2<2 ^ n
 occ:s.2.testBit s.1=false
 many:gQ s.2=many
section
variable {aA:Int} {n many:Nat} {D:List Int}
theorem nP (hn:n≤12){s:Nat×Nat}(h:oJ n many s):zA n MM (s.1*MM+s.2)∧(s.1*MM+s.2)/MM=s.1∧(s.1*MM+s.2)%MM=s.2:=by have hl:s.2<MM:=aQm h.set (iJ hn);have e1:(s.1*MM+s.2)/MM=s.1:=lV hl;have e2:(s.1*MM+s.2)%MM=s.2:=gY hl;exact⟨⟨by rw[e1];exact h.car,by rw[e2];exact h.set,by rw[e1,e2];exact h.occ⟩,e1,e2⟩
theorem aB8 (hn:n≤12){s e:Nat×Nat}(h:oJ n many s)(he:e∈eJ aA n s.2):rC aA n MM (s.1*MM+s.2) ((jT s e).1*MM+(jT s e).2)∧oJ n many (jT s e):=by
 obtain⟨h1,h2,h3,h4,h5⟩:=fJ.1 he;obtain⟨a,b,c⟩:=nP hn h;have hE:rC aA n MM (s.1*MM+s.2) ((jT s e).1*MM+(jT s e).2):=⟨e.1,e.2,h1,h2,h3,by rw[c];exact h4,by rw[c];exact h5,by rw[b,c];rfl⟩
 have hl:=rU h.set h1 h5 h4;have k:=sM (iJ hn) a hE;have k2:=qA (iJ hn) a.set hE;have d:(jT s e).2<MM:=aQm hl (iJ hn);have e1:=k.car;have e2:=k.set;have e3:=k.occ;rw[lV d]at e1;rw[gY d]at e2;rw[lV d,gY d]at e3;rw[gY d,c,h.many]at k2;exact⟨hE,e1,e2,e3,k2⟩
theorem tK (g:4≤n)(hn:n≤12)(hD:eX aA n many D){s:Nat×Nat}(h:oJ n many s)(h0:0<aV D s.1 s.2): ∃e,mB aA n (aV D) s=some e∧e∈eJ aA n s.2∧aV D (jT s e).1 (jT s e).2=aV D s.1 s.2-1∧oJ n many (jT s e):=by
 obtain⟨a,b,c⟩:=nP hn h;obtain⟨u,hu,hm,hd⟩:=hD.back _ (oR hn a) h0;have d:D.getD (s.1*MM+s.2) 0=aV D s.1 s.2:=rfl;obtain⟨k,hk⟩:=aSh (show 0≤D.getD u 0 by rw[hd,d];omega);obtain⟨u1,u2⟩:=aHz g hn hD k u hu hk;obtain⟨f,t,h1,h2,h3,h4,h5,h6⟩:=aA7 (iJ hn) u1 (nC.1 hm);rw[b,c]at h6;rw[c]at h4 h5;have he:(f,t)∈eJ aA n s.2:=fJ.2 ⟨h1,h2,h3,h4,h5⟩;have hp:(fun e:Nat×Nat=>decide (aV D (dN s.1 e.1 e.2) (dA s.2 e.1 e.2)=aV D s.1 s.2-1)) (f,t)=true:=by simp only[decide_eq_true_eq];show D.getD (gH MM s.1 s.2 f t) 0=_;rw[←h6,hd,d]
 cases hf:mB aA n (aV D) s with
 |none=>unfold mB at hf;have:=List.find?_eq_none.1 hf _ he;exact absurd hp this
 |some e=>unfold mB at hf;have h7:=List.find?_some hf;have h8:=aS3 hf;simp only[decide_eq_true_eq]at h7;exact⟨e,rfl,h8,h7,(aB8 hn h h8).2⟩
theorem aHr {dd:Nat→Nat→Int}{s:Nat×Nat}{j:Nat}{e:Nat×Nat}(h:mB aA n dd (gP aA n dd s j)=some e):gP aA n dd s (j+1)=jT (gP aA n dd s j) e:=by rw[gP,h]
theorem jN (c:4≤n)(hn:n≤12)(hD:eX aA n many D){s:Nat×Nat}(h:oJ n many s){d:Nat}(hd:aV D s.1 s.2=d): ∀j,j≤d→oJ n many (gP aA n (aV D) s j)∧aV D (gP aA n (aV D) s j).1 (gP aA n (aV D) s j).2=(d:Int)-j:=by
 intro j;induction j with
 |zero=>intro _;exact⟨h,by show aV D s.1 s.2=_;rw[hd];simp⟩
 |succ j ih=>intro hj;obtain⟨a,b⟩:=ih (by omega);obtain⟨e,h1,h2,h3,h4⟩:=tK c hn hD a (by rw[b];omega);rw[aHr h1];exact⟨h4,by rw[h3,b];omega⟩
theorem kM (c:4≤n)(hn:n≤12)(hD:eX aA n many D){s:Nat×Nat}(h:oJ n many s){d:Nat}(hd:aV D s.1 s.2=d){j:Nat}(hj:j<d):mB aA n (aV D) (gP aA n (aV D) s j)=some (gI aA n (aV D) s j)∧gI aA n (aV D) s j∈eJ aA n (gP aA n (aV D) s j).2∧gP aA n (aV D) s (j+1)=jT (gP aA n (aV D) s j) (gI aA n (aV D) s j):=by
 obtain⟨a,b⟩:=jN c hn hD h hd j (by omega);obtain⟨e,h1,h2,h3,h4⟩:=tK c hn hD a (by rw[b];omega);have he:gI aA n (aV D) s j=e:=by unfold gI;rw[h1];rfl
 rw[he];exact⟨h1,h2,aHr h1⟩
theorem aN5 (c:4≤n)(hn:n≤12)(hD:eX aA n many D){s:Nat×Nat}(h:oJ n many s){d:Nat}(hd:aV D s.1 s.2=d){j:Nat}(hj:j≤d):(gP aA n (aV D) s j).1=0↔j=d:=by
 obtain⟨a,b⟩:=jN c hn hD h hd j hj;obtain⟨k1,k2,k3⟩:=nP hn a;have hz:=hD.zero _ (oR hn k1);have hb:D.getD ((gP aA n (aV D) s j).1*MM+(gP aA n (aV D) s j).2) 0=(d:Int)-j:=b;rw[hb,jJ]at hz;constructor
 ·intro h0
  have:=hz.2 (by
   rw[h0,Nat.zero_mul,aRq]
   exact⟨a.set,by have:=a.occ;rw[h0]at this;exact this,a.many⟩)
  omega
 intro e;have h1:=(hz.1 (by omega)).1;have hp:=iJ hn;have h2:=Nat.div_eq_of_lt (aQm h1 hp);rw[k2]at h2;exact h2
theorem zM (g:4≤n)(hn:n≤12){E:List Int}(hD:eX aA n many D)(hE:eX aA n many E){s:Nat×Nat}(h:oJ n many s)(h0:0<aV D s.1 s.2):mB aA n (aV D) s=mB aA n (aV E) s:=by
 unfold mB;have c: ∀s:Nat×Nat,oJ n many s→(0≤aV D s.1 s.2↔0≤aV E s.1 s.2)∧(0≤aV D s.1 s.2→aV D s.1 s.2=aV E s.1 s.2):=fun s hs=>aAa hD hE (oR hn (nP hn hs).1)
 have h1:=(c s h).2 (by omega);have d: ∀l:List (Nat×Nat),(∀e∈l,e∈eJ aA n s.2)→l.find? (fun e=>decide (aV D (dN s.1 e.1 e.2) (dA s.2 e.1 e.2)=aV D s.1 s.2-1))=l.find? (fun e=>decide (aV E (dN s.1 e.1 e.2) (dA s.2 e.1 e.2)=aV E s.1 s.2-1)):=by
  intro l;induction l with
  |nil=>intro _;rfl
  |cons e l ih=>
   intro hl;have hp:=(aB8 hn h (hl e (by simp))).2;obtain⟨a,b⟩:=c _ hp;have hh:decide (aV D (dN s.1 e.1 e.2) (dA s.2 e.1 e.2)=aV D s.1 s.2-1)=decide (aV E (dN s.1 e.1 e.2) (dA s.2 e.1 e.2)=aV E s.1 s.2-1):=by
    have a':0≤aV D (dN s.1 e.1 e.2) (dA s.2 e.1 e.2)↔0≤aV E (dN s.1 e.1 e.2) (dA s.2 e.1 e.2):=a;have b':0≤aV D (dN s.1 e.1 e.2) (dA s.2 e.1 e.2)→aV D (dN s.1 e.1 e.2) (dA s.2 e.1 e.2)=aV E (dN s.1 e.1 e.2) (dA s.2 e.1 e.2):=b;rw[←h1];by_cases hc:0≤aV D (dN s.1 e.1 e.2) (dA s.2 e.1 e.2)
    ·rw[b' hc]
    have f: ¬0≤aV E (dN s.1 e.1 e.2) (dA s.2 e.1 e.2):=fun x=>hc (a'.2 x)
    have d1: ¬(aV D (dN s.1 e.1 e.2) (dA s.2 e.1 e.2)=aV D s.1 s.2-1):=by omega
    have d2: ¬(aV E (dN s.1 e.1 e.2) (dA s.2 e.1 e.2)=aV D s.1 s.2-1):=by omega
    simp only[d1,d2]
   rw[List.find?_cons,List.find?_cons,hh,ih (fun x hx=>hl x (by simp[hx]))]
 exact d _ (fun e he=>he)
theorem aOy (c:4≤n)(hn:n≤12){E:List Int}(hD:eX aA n many D)(hE:eX aA n many E){s:Nat×Nat}(h:oJ n many s){d:Nat}(hd:aV D s.1 s.2=d): ∀j,j≤d→gP aA n (aV D) s j=gP aA n (aV E) s j:=by
 intro j;induction j with
 |zero=>intro _;rfl
 |succ j ih=>intro hj;have e:=ih (by omega);obtain⟨a,b⟩:=jN c hn hD h hd j (by omega);have p:=zM c hn hD hE a (by rw[b];omega);rw[gP,gP,←e,p]
theorem aH9 (c:4≤n)(hn:n≤12){E:List Int}(hD:eX aA n many D)(hE:eX aA n many E){s:Nat×Nat}(h:oJ n many s){d:Nat}(hd:aV D s.1 s.2=d){j:Nat}(hj:j<d):gI aA n (aV D) s j=gI aA n (aV E) s j:=by obtain⟨a,b⟩:=jN c hn hD h hd j (by omega);unfold gI;rw[←aOy c hn hD hE h hd j (by omega),zM c hn hD hE a (by rw[b];omega)]
end
end
structure oD (adj:Nat→List Nat) (D:Nat→Int) (g:Nat→Nat) (d start:Nat):Prop where
 zero:g 0=start
 dist: ∀j,j≤d→D (g j)=d-j
 next: ∀j,j<d→(adj (g j)).find? (fun v=>decide (D v=D (g j)-1))=some (g (j+1))
structure aEy (adj:Nat→List Nat) (D:Nat→Int) (N:Nat):Prop where
 edge: ∀u v,u<N→v∈adj u→0≤D u→0≤D v∧D u≤D v+1
 bd: ∀u v,u<N→v∈adj u→v<N
structure Fwd (adj:Nat→List Nat) (D:Nat→Int) (g:Nat→Nat) (d N start k:Nat) (B A:List Int) (Q:List Nat):Prop where
 inv:Inv adj [start] N k (A,Q)
 blen:B.length=N
 bmem: ∀v,v<N→(0≤B.getD v 0↔v∈Q)
 ngoal: ∀(i u:Nat),i<k→Q[i]? =some u→D u≠0
 tri: ∀v∈Q,0≤D v∧(d:Int)≤A.getD v 0+D v
 chain: ∀j:Nat,j<d→g (j+1)∈Q→A.getD (g (j+1)) 0=j+1→B.getD (g (j+1)) 0=g j
 tight: ∀(i v:Nat),Q[i]? =some v→A.getD v 0+D v=d→ ∃i',i'≤i∧Q[i']? =some (g (A.getD v 0).toNat)
structure FMid (adj:Nat→List Nat) (D:Nat→Int) (g:Nat→Nat) (d N start k u:Nat) (ws:List Nat) (A0:List Int) (Q0:List Nat) (B A:List Int) (Q:List Nat):Prop where
 mid:Mid adj [start] N k u ws (A0,Q0) (A,Q)
 blen:B.length=N
 bmem: ∀v,v<N→(0≤B.getD v 0↔v∈Q)
 tri: ∀v∈Q,0≤D v∧(d:Int)≤A.getD v 0+D v
 chain: ∀j:Nat,j<d→g (j+1)∈Q→A.getD (g (j+1)) 0=j+1→B.getD (g (j+1)) 0=g j
 tight: ∀(i v:Nat),Q[i]? =some v→A.getD v 0+D v=d→ ∃i',i'≤i∧Q[i']? =some (g (A.getD v 0).toNat)
theorem FMid.step {adj:Nat→List Nat}{D:Nat→Int}{g:Nat→Nat}{d N c k u w:Nat}{ws af:List Nat}{B0 A0:List Int}{Q0:List Nat}{B A:List Int}{Q:List Nat}
  (hG:oD adj D g d c)(hD:aEy adj D N)(h0:Fwd adj D g d N c k B0 A0 Q0)(hu:Q0[k]? =some u) (h:FMid adj D g d N c k u ws A0 Q0 B A Q) (p:adj u=ws++w::af):
  ∃B' A' Q',eO (u:Int) (B,Q) w=(B',Q')∧eO (A0.getD u 0+1) (A,Q) w=(A',Q')∧FMid adj D g d N c k u (ws++ [w]) A0 Q0 B' A' Q':=by
 have o:u∈Q0:=aQq hu;have s:u<N:=h0.inv.bd u o;have hw:w∈adj u:=by rw[p];simp
 have n:w<N:=hD.bd u w s hw;have q:A0.getD u 0=A.getD u 0:=(h.mid.same u o).symm;have m:=h.mid.step o hw n q;obtain⟨r,hr⟩:=h.mid.pre;dsimp only at hr;have ab:u∈Q:=by rw[hr];exact aRo _ o
 have y:Q[k]? =some u:=by have hk:k<Q0.length:=(aQr.1 hu).1;rw[hr,aR4 hk];exact hu
 have ap:0≤A.getD u 0:=(h.mid.mem u s).2 ab;by_cases hc:w∈Q
 ·have hB: ¬B.getD w 0<0:=by have:=(h.bmem w n).2 hc;omega
  have hA: ¬A.getD w 0<0:=by have:=(h.mid.mem w n).2 hc;dsimp only at this;omega
  refine⟨B,A,Q,by unfold eO;rw[if_neg hB],by unfold eO;rw[if_neg hA],?_⟩;have e:eO (A0.getD u 0+1) (A,Q) w=(A,Q):=by unfold eO;rw[if_neg hA]
  rw[e]at m;exact⟨m,h.blen,h.bmem,h.tri,h.chain,h.tight⟩
 have hB:B.getD w 0<0:=by
  by_cases hh:B.getD w 0<0
  ·exact hh
  exact absurd ((h.bmem w n).1 (by omega)) hc
 have hA:A.getD w 0<0:=by
  by_cases hh:A.getD w 0<0
  ·exact hh
  exact absurd ((h.mid.mem w n).1 (by dsimp only;omega)) hc
 have aa: ∀v∈Q,w≠v:=fun v hv e=>hc (by rw[e];exact hv)
 refine⟨B.set w u,A.set w (A0.getD u 0+1),Q++ [w],by unfold eO;rw[if_pos hB],by unfold eO;rw[if_pos hA],?_⟩;have e:eO (A0.getD u 0+1) (A,Q) w=(A.set w (A0.getD u 0+1),Q++ [w]):=by unfold eO;rw[if_pos hA]
 rw[e]at m;have al:w<B.length:=by rw[h.blen];exact n
 have ak:w<A.length:=by have:=h.mid.len;dsimp only at this;omega
 have sB:(B.set w (u:Int)).getD w 0=u:=cI al;have sA:(A.set w (A0.getD u 0+1)).getD w 0=A.getD u 0+1:=by rw[cI ak,q]
 obtain⟨am,aq⟩:=h.tri u ab;obtain⟨e1,e2⟩:=hD.edge u w s hw am
 -- if w is tight, then so is u; and the step that is first is there
 have ae:A.getD u 0+1+D w=d→ ∃i',i'≤k∧Q[i']? =some (g (A.getD u 0).toNat)∧(i'<k→g ((A.getD u 0).toNat+1)∈Q)∧(i'=k→u=g (A.getD u 0).toNat):=by
  intro ht;obtain⟨i',l,hq⟩:=h.tight k u y (by omega);refine⟨i',l,hq,fun hlt=> ?_,fun he=> ?_⟩
  ·have hk:k<Q0.length:=(aQr.1 hu).1;have ai:Q0[i']? =some (g (A.getD u 0).toNat):=by rw[hr,aR4 (by omega)]at hq;exact hq
   have f:(A.getD u 0).toNat<d:=by omega
   have z:g ((A.getD u 0).toNat+1)∈adj (g (A.getD u 0).toNat):=aS3 (hG.next _ f);have:=(h0.inv.done i' _ hlt ai _ z).1;rw[hr];exact aRo _ this
  subst he;rw[y]at hq;injection hq
 have first:A.getD u 0+1+D w=d→g ((A.getD u 0).toNat+1)∈Q∨g ((A.getD u 0).toNat+1)=w:=by
  intro ht;obtain⟨i',l,hq,k1,k2⟩:=ae ht;by_cases he:i'=k
  ·have ad:=k2 he;have f:(A.getD u 0).toNat<d:=by omega
   have hn:=hG.next _ f;rw[←ad,p]at hn;have an:D u=d-(A.getD u 0).toNat:=by have:=hG.dist _ (Nat.le_of_lt f);rw[←ad]at this;exact this
   rw[List.find?_append]at hn;cases hf:ws.find? (fun v=>decide (D v=D u-1))with
   |some x=>rw[hf,Option.some_or]at hn;injection hn with hn;left;rw[←hn];exact h.mid.seen x (aS3 hf)
   |none=>rw[hf]at hn;right;rw[Option.none_or,List.find?_cons_of_pos (by simp;omega)]at hn;injection hn with hn;exact hn.symm
  exact .inl (k1 (by omega))
 refine⟨m,by simp[h.blen],?_,?_,?_,?_⟩
 ·intro v hv;by_cases ev:w=v
  ·subst ev;rw[sB];exact⟨fun _=>by simp,fun _=>by omega⟩
  rw[bR ev,h.bmem v hv];simp;intro e2;exact absurd e2.symm ev
 ·intro v hv;rcases aR7.1 hv with hv|hv
  ·rw[bR (aa v hv)];exact h.tri v hv
  simp at hv;subst hv;rw[sA];exact⟨e1,by omega⟩
 ·intro j hj hm ha;by_cases ev:w=g (j+1)
  ·rw[←ev]at ha⊢;rw[sA]at ha;rw[sB];have ao:D w=d-(j+1:Nat):=by rw[ev];exact hG.dist (j+1) (by omega)
   have ht:A.getD u 0+1+D w=d:=by omega
   obtain⟨i',l,hq,k1,k2⟩:=ae ht;have t:(A.getD u 0).toNat=j:=by omega
   by_cases he:i'=k
   ·have:=k2 he;rw[t]at this;rw[this]
   have:=k1 (by omega);rw[t,←ev]at this;exact absurd this hc
  rcases aR7.1 hm with hm|hm
  ·rw[bR ev]at ha⊢;exact h.chain j hj hm ha
  simp at hm;exact absurd hm.symm ev
 intro i v hi ht;by_cases hiQ:i<Q.length
 ·rw[aR4 hiQ]at hi;have aj:v∈Q:=aQq hi;rw[bR (aa v aj)]at ht⊢;obtain⟨i',a,b⟩:=h.tight i v hi ht;exact⟨i',a,by rw[aR4 (by omega)];exact b⟩
 have ah:i<(Q++ [w]).length:=(aQr.1 hi).1;have ag:i=Q.length:=by simp at ah;omega
 subst ag;simp at hi;subst hi;rw[sA]at ht⊢;have e3:(A.getD u 0+1).toNat=(A.getD u 0).toNat+1:=by omega
 rw[e3];rcases first ht with hm|hm
 ·obtain⟨i',l,ei⟩:=aS2 hm;exact⟨i',by omega,by rw[aR4 l,aQo l,ei]⟩
 exact⟨Q.length,aQn _,by rw[hm,aR2 (aQn _)];simp⟩
theorem Fwd.mid {adj:Nat→List Nat}{D:Nat→Int}{g:Nat→Nat}{d N a k u:Nat}{B A:List Int}{Q:List Nat}(h:Fwd adj D g d N a k B A Q)(hu:Q[k]? =some u):FMid adj D g d N a k u [] A Q B A Q:=
 ⟨h.inv.mid hu,h.blen,h.bmem,h.tri,h.chain,h.tight⟩
theorem FMid.many {adj:Nat→List Nat}{D:Nat→Int}{g:Nat→Nat}{d N a k u:Nat}{B0 A0:List Int}{Q0:List Nat}
  (hG:oD adj D g d a)(hD:aEy adj D N)(h0:Fwd adj D g d N a k B0 A0 Q0)(hu:Q0[k]? =some u):
  ∀(vs ws:List Nat) (B A:List Int) (Q:List Nat),FMid adj D g d N a k u ws A0 Q0 B A Q→adj u=ws++vs→(bQ (A0.getD u 0+1) (A,Q) vs).2=(bQ (u:Int) (B,Q) vs).2∧FMid adj D g d N a k u (ws++vs) A0 Q0 (bQ (u:Int) (B,Q) vs).1 (bQ (A0.getD u 0+1) (A,Q) vs).1 (bQ (u:Int) (B,Q) vs).2:=by
 intro vs;induction vs with
 |nil=>intro ws B A Q h _;exact⟨rfl,by simpa[bQ]using h⟩
 |cons v vs ih=>
  intro ws B A Q h e;obtain⟨B',A',Q',e1,e2,h1⟩:=h.step hG hD h0 hu e;have e3:bQ (u:Int) (B,Q) (v::vs)=bQ (u:Int) (B',Q') vs:=by show vs.foldl _ (eO (u:Int) (B,Q) v)=_;rw[e1];rfl
  have e4:bQ (A0.getD u 0+1) (A,Q) (v::vs)=bQ (A0.getD u 0+1) (A',Q') vs:=by show vs.foldl _ (eO (A0.getD u 0+1) (A,Q) v)=_;rw[e2];rfl
  have:=ih (ws++ [v]) B' A' Q' h1 (by rw[e];simp);rw[e3,e4];simpa using this
theorem Fwd.step {adj:Nat→List Nat}{D:Nat→Int}{g:Nat→Nat}{d N a k u:Nat}{B A:List Int}{Q:List Nat}(hG:oD adj D g d a)(hD:aEy adj D N)(h:Fwd adj D g d N a k B A Q)(hu:Q[k]? =some u) (hg:D u≠0):
  ∃A',Fwd adj D g d N a (k+1) (bQ (u:Int) (B,Q) (adj u)).1 A' (bQ (u:Int) (B,Q) (adj u)).2:=by
 have b:=h.inv.bd u (aQq hu);obtain⟨e,m⟩:=FMid.many hG hD h hu (adj u) [] B A Q (h.mid hu) rfl;have hi:=h.inv.step hu (fun v hv=>hD.bd u v b hv);have e2:bQ (A.getD u 0+1) (A,Q) (adj u)=((bQ (A.getD u 0+1) (A,Q) (adj u)).1,(bQ (u:Int) (B,Q) (adj u)).2):=by rw[←e]
 dsimp only at hi;rw[e2]at hi;obtain⟨r,hr⟩:=m.mid.pre;dsimp only at hr;refine⟨_,hi,m.blen,m.bmem,?_,m.tri,m.chain,m.tight⟩;intro i v c hv;have hk:k<Q.length:=(aQr.1 hu).1;by_cases he:i=k
 ·subst he;rw[hr,aR4 hk,hu]at hv;injection hv with hv;rw[←hv];exact hg
 rw[hr,aR4 (by omega)]at hv;exact h.ngoal i v (by omega) hv
theorem Fwd.way {adj:Nat→List Nat}{D:Nat→Int}{g:Nat→Nat}{d N c k:Nat}{B A:List Int}{Q:List Nat}(hG:oD adj D g d c)(h:Fwd adj D g d N c k B A Q)
  (hp: ∀(i v:Nat),Q[i]? =some v→A.getD v 0<d→i<k): ∀j,j≤d→g j∈Q∧A.getD (g j) 0=j:=by
 intro j;induction j with
 |zero=>intro _;obtain⟨a,b⟩:=h.inv.src c (by simp);rw[hG.zero];exact⟨a,by simpa using b⟩
 |succ j ih=>
  intro hj;obtain⟨a,b⟩:=ih (by omega);obtain⟨i,hi,e⟩:=aS2 a;have hq:Q[i]? =some (g j):=by rw[aQo hi,e]
  have f:=hp i (g j) hq (by omega);have hm:g (j+1)∈adj (g j):=aS3 (hG.next j (by omega));obtain⟨c1,c2⟩:=h.inv.done i (g j) f hq _ hm;have t:=(h.tri (g (j+1)) c1).2;have dd:=hG.dist (j+1) hj;dsimp only at c2;exact⟨c1,by omega⟩
theorem Fwd.goal {adj:Nat→List Nat}{D:Nat→Int}{g:Nat→Nat}{d N f k u:Nat}{B A:List Int}{Q:List Nat}(hG:oD adj D g d f)(h:Fwd adj D g d N f k B A Q)(hu:Q[k]? =some u) (hz:D u=0):
  u=g d∧ ∀j,j<d→B.getD (g (j+1)) 0=g j:=by
 have o:u∈Q:=aQq hu;have hk:k<Q.length:=(aQr.1 hu).1;have n:Q[k]=u:=(aQr.1 hu).2;have t:=(h.tri u o).2;have m:=List.pairwise_iff_getElem.1 h.inv.mono;have hp: ∀(i v:Nat),Q[i]? =some v→A.getD v 0<A.getD u 0→i<k:=by
  intro i v hv hlt;obtain⟨hi,e⟩:=aQr.1 hv;by_cases hik:i<k
  ·exact hik
  exfalso;by_cases he:i=k
  ·subst he;rw[n]at e;subst e;omega
  have:=m k i hk hi (by omega);dsimp only at this;rw[n,e]at this;omega
 have hw:=h.way hG (fun i v hv hlt=>hp i v hv (by omega));obtain⟨w1,w2⟩:=hw d (aQn _);have q:=hG.dist d (aQn _);have l:D (g d)=0:=by omega
 obtain⟨i,hi,e⟩:=aS2 w1;have hq:Q[i]? =some (g d):=by rw[aQo hi,e]
 have p:A.getD u 0=d:=by
  by_cases hh:A.getD u 0=d
  ·exact hh
  exfalso;have:=hp i (g d) hq (by omega);exact h.ngoal i _ this hq l
 obtain⟨i',r,c⟩:=h.tight k u hu (by omega);have e1:(A.getD u 0).toNat=d:=by omega
 rw[e1]at c;have hik:i'=k:=by
  by_cases hh:i'=k
  ·exact hh
  exact absurd l (h.ngoal i' _ (by omega) c)
 subst hik;rw[hu]at c;injection c with c;refine⟨c,fun j hj=> ?_⟩;obtain⟨a,b⟩:=hw (j+1) (by omega);exact h.chain j hj a (by omega)
theorem Fwd.more {adj:Nat→List Nat}{D:Nat→Int}{g:Nat→Nat}{d N c k:Nat}{B A:List Int}{Q:List Nat}(hG:oD adj D g d c)(h:Fwd adj D g d N c k B A Q):k<Q.length:=by
 by_cases hk:k<Q.length
 ·exact hk
 exfalso;have hp: ∀(i v:Nat),Q[i]? =some v→i<k:=fun i v hv=>by have:=(aQr.1 hv).1;omega
 obtain⟨a,b⟩:=h.way hG (fun i v hv _=>hp i v hv) d (aQn _);obtain⟨i,hi,e⟩:=aS2 a;have hq:Q[i]? =some (g d):=by rw[aQo hi,e]
 have f:=hG.dist d (aQn _);exact h.ngoal i _ (hp i _ hq) hq (by omega)
theorem Fwd.start {adj:Nat→List Nat}{D:Nat→Int}{g:Nat→Nat}{d N a:Nat}(hG:oD adj D g d a)(hs:a<N):
  Fwd adj D g d N a 0 ((List.replicate N (-1)).set a (a:Int)) ((List.replicate N (-1)).set a 0) [a]:=by
 have hl:a<(List.replicate N (-1:Int)).length:=by simpa using hs
 have b: ∀(x:Int) v,v<N→a≠v→((List.replicate N (-1:Int)).set a x).getD v 0= -1:=by intro x v hv e;rw[bR e];simp[List.getD,hv]
 refine⟨⟨by simp,by simpa using hs,?_,by simp,by simp,?_,?_,?_,fun i u hi=>by omega⟩,by simp,?_,fun i u hi=>by omega,?_,?_,?_⟩
 ·intro v hv;dsimp only;by_cases e:a=v
  ·subst e;rw[cI hl];simp
  rw[b 0 v hv e];simp;exact fun h=>e h.symm
 ·intro u hu v hv;simp at hu hv;subst hu hv;omega
 ·intro v hv;simp at hv;subst hv;dsimp only;rw[cI hl];simp[oH]
 ·intro v hv;simp at hv;subst hv;exact⟨by simp,cI hl⟩
 ·intro v hv;by_cases e:a=v
  ·subst e;rw[cI hl];simp
  rw[b _ v hv e];simp;exact fun h=>e h.symm
 ·intro v hv;simp at hv;subst hv;have:=hG.dist 0 (aQt _);rw[hG.zero]at this;rw[cI hl];omega
 ·intro j hj hm ha;simp at hm;rw[hm,cI hl]at ha;omega
 intro i v hi ht;have c:i=0:=by have:=(aQr.1 hi).1;simp at this;omega
 subst c;simp at hi;subst hi;rw[cI hl];exact⟨0,aQn _,by simp[hG.zero]⟩
end Go.Proofs.YtbgkcehffiogcacGreatDoor
