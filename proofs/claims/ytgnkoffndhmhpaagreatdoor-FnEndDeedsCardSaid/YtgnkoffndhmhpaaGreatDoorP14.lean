/-
  Texts of this proof, packed (@packed).
-/
import Derived.Test.YtgnkoffndhmhpaaGreatDoorP12
namespace Go.Proofs.YtgnkoffndhmhpaaGreatDoor
open Go.RowKit
set_option linter.unusedVariables false
set_option linter.unusedSimpArgs false
def gC:Nat→Nat
 |0=>0
 |n+1=>(n+1)%2+gC ((n+1)/2)
decreasing_by omega
theorem pX (n:Nat):gC n=n%2+gC (n/2):=by
 cases n with
 |zero=>rw[gC]
 |succ n=>rw[gC]
theorem tI: ∀(f S:Nat),S.testBit f=false→ ∀k,(S+2 ^ f).testBit k=(S.testBit k || decide (k=f)):=by
 intro f
 induction f with
 |zero=>
  intro S h k
  rw[Nat.testBit_zero]at h
  have h0:S%2=0:=by simp at h;omega
  cases k with
  |zero=>rw[Nat.testBit_zero,Nat.testBit_zero];simp;omega
  |succ k=>rw[Nat.testBit_succ,Nat.testBit_succ,show(S+2 ^ 0)/2=S/2 by simp;omega];simp
 |succ f ih=>
  intro S h k
  rw[Nat.testBit_succ]at h
  have e:(S+2 ^ (f+1))/2=S/2+2 ^ f:=by rw[Nat.pow_succ];omega
  cases k with
  |zero=>rw[Nat.testBit_zero,Nat.testBit_zero];simp[Nat.pow_succ]<;>omega
  |succ k=>rw[Nat.testBit_succ,Nat.testBit_succ,e,ih _ h];simp
theorem uB: ∀(f S:Nat),S.testBit f=false→gC (S+2 ^ f)=gC S+1:=by
 intro f
 induction f with
 |zero=>
  intro S h
  rw[Nat.testBit_zero]at h
  have h0:S%2=0:=by simp at h;omega
  rw[pX (S+2 ^ 0),pX S,show(S+2 ^ 0)/2=S/2 by simp;omega]
  simp;omega
 |succ f ih=>
  intro S h
  rw[Nat.testBit_succ]at h
  have e:(S+2 ^ (f+1))/2=S/2+2 ^ f:=by rw[Nat.pow_succ];omega
  rw[pX (S+2 ^ (f+1)),pX S,e,ih _ h]
  have:(S+2 ^ (f+1))%2=S%2:=by rw[Nat.pow_succ];omega
  omega
theorem aGu: ∀(t S:Nat),S.testBit t=true→ ∃R,S=R+2 ^ t∧R.testBit t=false:=by
 intro t
 induction t with
 |zero=>
  intro S h
  rw[Nat.testBit_zero]at h
  have h0:S%2=1:=by simpa using h
  exact⟨S-1,by simp;omega,by rw[Nat.testBit_zero];simp;omega⟩
 |succ t ih=>
  intro S h
  rw[Nat.testBit_succ]at h
  obtain⟨R,h1,h2⟩:=ih _ h
  refine⟨2*R+S%2,by rw[Nat.pow_succ];omega,?_⟩
  rw[Nat.testBit_succ,show(2*R+S%2)/2=R by omega];exact h2
theorem tH {t S:Nat}(h:S.testBit t=true):2 ^ t≤S∧(∀k,(S-2 ^ t).testBit k=(S.testBit k&& !decide (k=t)))∧gC S=gC (S-2 ^ t)+1:=by
 obtain⟨R,rfl,h2⟩:=aGu t S h
 rw[Nat.add_sub_cancel]
 refine⟨Nat.le_add_left _ _,fun k=> ?_,uB _ _ h2⟩
 rw[tI _ _ h2]
 by_cases hk:k=t
 ·subst hk;simp[h2]
 ·simp[hk]
def cX (S f t:Nat):Nat:=S-2 ^ t+2 ^ f
theorem eI {S f t:Nat}(ht:S.testBit t=true)(hf:S.testBit f=false)(k:Nat):(cX S f t).testBit k=(decide (k=f) || (S.testBit k&& !decide (k=t))):=by
 obtain⟨a,b,c⟩:=tH ht
 unfold cX
 have d:f≠t:=fun e=>by subst e;rw[ht]at hf;cases hf
 rw[tI _ _ (by rw[b,hf];rfl),b]
 cases S.testBit k<;>cases decide (k=f)<;>cases decide (k=t)<;>rfl
theorem aD8 {S f t:Nat}(ht:S.testBit t=true)(hf:S.testBit f=false):gC (cX S f t)=gC S:=by
 obtain⟨a,b,c⟩:=tH ht
 unfold cX
 rw[uB _ _ (by rw[b,hf];rfl),c]
theorem aEx {a b:Nat}(h: ∀k,a.testBit k=b.testBit k):a=b:=Nat.eq_of_testBit_eq h
theorem aKl {n a:Nat}(h: ∀k,n≤k→a.testBit k=false):a<2 ^ n:=Nat.lt_pow_two_of_testBit a h
theorem rV {n a:Nat}(h:a<2 ^ n){k:Nat}(hk:n≤k):a.testBit k=false:=Nat.testBit_lt_two_pow (Nat.lt_of_lt_of_le h (Nat.pow_le_pow_right (by omega) hk))
theorem pZ {n S f t:Nat}(hS:S<2 ^ n)(hfn:f<n)(ht:S.testBit t=true)(hf:S.testBit f=false):cX S f t<2 ^ n:=by
 refine aKl fun k hk=> ?_
 rw[eI ht hf,rV hS hk]
 have:k≠f:=by omega
 simp[this]
theorem aD9 {S f t:Nat}(ht:S.testBit t=true)(hf:S.testBit f=false):cX (cX S f t) t f=S:=by
 have a:f≠t:=fun e=>by subst e;rw[ht]at hf;cases hf
 refine aEx fun k=> ?_
 rw[eI (by rw[eI ht hf];simp) (by rw[eI ht hf];simp[Ne.symm a]),eI ht hf]
 by_cases h1:k=t
 ·subst h1;simp[ht]
 ·by_cases h2:k=f
  ·subst h2;simp[h1,hf]
  ·simp[h1,h2]
def iO (p:Nat→Bool):Nat→Nat
 |0=>0
 |k+1=>iO p k+(if p k then 2 ^ k else 0)
theorem oD (p:Nat→Bool)(k:Nat):iO p k<2 ^ k:=by
 induction k with
 |zero=>simp[iO]
 |succ k ih=>unfold iO;rw[Nat.pow_succ];split<;>omega
theorem aHz (p:Nat→Bool)(k j:Nat):(iO p k).testBit j=(decide (j<k)&&p j):=by
 induction k with
 |zero=>simp[iO]
 |succ k ih=>
  have hk:(iO p k).testBit k=false:=rV (oD p k) (Nat.le_refl _)
  unfold iO
  cases hp:p k with
  |false=>
   simp only[Bool.false_eq_true,if_false,Nat.add_zero]
   rw[ih]
   by_cases h:j=k
   ·subst h;simp[hp]
   ·have:(j<k+1)↔j<k:=by omega
    simp[this]
  |true=>
   simp only[if_true]
   rw[tI _ _ hk,ih]
   by_cases h:j=k
   ·subst h;simp[hp]
   ·have:(j<k+1)↔j<k:=by omega
    simp[this,h]
theorem aFp (p:Nat→Bool)(k:Nat):gC (iO p k)=((List.range k).filter p).length:=by
 induction k with
 |zero=>simp[iO,gC]
 |succ k ih=>
  have hk:(iO p k).testBit k=false:=rV (oD p k) (Nat.le_refl _)
  rw[List.range_succ,List.filter_append,List.length_append,←ih,show iO p (k+1)=iO p k+(if p k then 2 ^ k else 0)from rfl]
  cases hp:p k with
  |false=>simp[hp]
  |true=>simp only[if_true];rw[uB _ _ hk];simp[hp]
def aM (xs:List Int):Nat:=iO (cR xs) xs.length
theorem eG (xs:List Int)(k:Nat):(aM xs).testBit k=cR xs k:=by
 unfold aM
 rw[aHz]
 by_cases h:k<xs.length
 ·simp[h]
 ·have:cR xs k=false:=by
   unfold cR;rw[List.getElem?_eq_none (by omega)];rfl
  rw[this];simp
theorem mT (xs:List Int):aM xs<2 ^ xs.length:=oD _ _
theorem yX (xs:List Int):gC (aM xs)=(bI xs).length:=aFp _ _
def eC (aA:Int)(n S:Nat):List (Nat×Nat):=(List.range n).flatMap fun f=>if S.testBit f then []else((aT aA n f).filter (fun t=>S.testBit t)).map (fun t=>(f,t))
theorem eR {aA:Int}{n S:Nat}{e:Nat×Nat}:e∈eC aA n S↔e.1<n∧e.2<n∧e.2∈aT aA n e.1∧S.testBit e.1=false∧S.testBit e.2=true:=by
 obtain⟨f,t⟩:=e
 simp only[eC,List.mem_flatMap,List.mem_range]
 constructor
 ·rintro⟨a,ha,hm⟩
  cases hb:S.testBit a with
  |true=>rw[hb]at hm;simp at hm
  |false=>
   rw[hb]at hm
   simp only[Bool.false_eq_true,if_false,List.mem_map,List.mem_filter]at hm
   obtain⟨x,⟨h1,h2⟩,h3⟩:=hm
   injection h3 with h3 h4
   subst h3 h4
   exact⟨ha,(bR.1 h1).1,h1,hb,h2⟩
 ·rintro⟨h1,h2,h3,h4,h5⟩
  refine⟨f,h1,?_⟩
  rw[h4]
  simp only[Bool.false_eq_true,if_false,List.mem_map,List.mem_filter]
  exact⟨t,⟨h3,h5⟩,rfl⟩
def dK (c f t:Nat):Nat:=if f=c then t else c
def fS (M c S f t:Nat):Nat:=dK c f t*M+cX S f t
def mV (aA:Int)(n M s:Nat):List Nat:=(eC aA n (s%M)).map (fun e=>fS M (s/M) (s%M) e.1 e.2)
def vB (aA:Int)(n M s:Nat):List Nat:=(List.range n).flatMap fun h=>if(s%M).testBit h then((aT aA n h).filter (fun f=> !(s%M).testBit f)).map (fun f=>fS M (s/M) (s%M) f h)else []
def pP (aA:Int)(n M s v:Nat):Prop:= ∃f t,f<n∧t<n∧t∈aT aA n f∧(s%M).testBit f=false∧(s%M).testBit t=true∧v=fS M (s/M) (s%M) f t
theorem nY {aA:Int}{n M s v:Nat}:v∈mV aA n M s↔pP aA n M s v:=by
 unfold mV pP
 rw[List.mem_map]
 constructor
 ·rintro⟨⟨f,t⟩,h,rfl⟩
  obtain⟨h1,h2,h3,h4,h5⟩:=eR.1 h
  exact⟨f,t,h1,h2,h3,h4,h5,rfl⟩
 ·rintro⟨f,t,h1,h2,h3,h4,h5,rfl⟩
  exact⟨(f,t),eR.2 ⟨h1,h2,h3,h4,h5⟩,rfl⟩
theorem mE {aA:Int}{n M s v:Nat}:v∈vB aA n M s↔pP aA n M s v:=by
 unfold vB pP
 rw[List.mem_flatMap]
 constructor
 ·rintro⟨h,hh,hm⟩
  rw[List.mem_range]at hh
  cases hb:(s%M).testBit h with
  |false=>rw[hb]at hm;simp at hm
  |true=>
   rw[hb]at hm
   simp only[if_true,List.mem_map,List.mem_filter,Bool.not_eq_true']at hm
   obtain⟨f,⟨h1,h2⟩,rfl⟩:=hm
   exact⟨f,h,(bR.1 h1).1,hh,fK hh h1,h2,hb,rfl⟩
 ·rintro⟨f,t,h1,h2,h3,h4,h5,rfl⟩
  refine⟨t,List.mem_range.2 h2,?_⟩
  rw[h5]
  simp only[if_true,List.mem_map,List.mem_filter,Bool.not_eq_true']
  exact⟨f,⟨fK h1 h3,h4⟩,rfl⟩
structure vX (n M s:Nat):Prop where
 car:s/M<n
 set:s%M<2 ^ n
 occ:(s%M).testBit (s/M)=false
theorem kW {M c S:Nat}(h:S<M):(c*M+S)/M=c:=by
 rw[Nat.mul_comm,Nat.mul_add_div (by omega),Nat.div_eq_of_lt h,Nat.add_zero]
theorem gG {M c S:Nat}(h:S<M):(c*M+S)%M=S:=by
 rw[Nat.mul_comm,Nat.mul_add_mod,Nat.mod_eq_of_lt h]
theorem aBt {n c f t:Nat}(hc:c<n)(ht:t<n):dK c f t<n:=by unfold dK;split<;>omega
theorem kK {aA:Int}{n M s v:Nat}(hM:2 ^ n≤M)(hS:s%M<2 ^ n)(h:pP aA n M s v): ∃f t,f<n∧t<n∧t∈aT aA n f∧(s%M).testBit f=false∧(s%M).testBit t=true∧v/M=dK (s/M) f t∧v%M=cX (s%M) f t∧cX (s%M) f t<2 ^ n:=by
 obtain⟨f,t,h1,h2,h3,h4,h5,rfl⟩:=h
 have hl:=pZ hS h1 h5 h4
 exact⟨f,t,h1,h2,h3,h4,h5,kW (by omega),gG (by omega),hl⟩
theorem aEv {aA:Int}{n M s v:Nat}(hM:2 ^ n≤M)(hc:s/M<n)(hS:s%M<2 ^ n)(h:pP aA n M s v):v/M<n∧v%M<2 ^ n:=by
 obtain⟨f,t,h1,h2,h3,h4,h5,h6,h7,h8⟩:=kK hM hS h
 exact⟨by rw[h6];exact aBt hc h2,by rw[h7];exact h8⟩
theorem qL {aA:Int}{n M s v:Nat}(hM:2 ^ n≤M)(hs:vX n M s)(h:pP aA n M s v):vX n M v:=by
 obtain⟨a,b⟩:=aEv hM hs.car hs.set h
 obtain⟨f,t,h1,h2,h3,h4,h5,h6,h7,h8⟩:=kK hM hs.set h
 refine⟨a,b,?_⟩
 rw[h6,h7,eI h5 h4]
 unfold dK
 have c:f≠t:=fun e=>by subst e;rw[h5]at h4;cases h4
 split
 ·simp[Ne.symm c]
 ·have:=hs.occ
  have h9:s/M≠f:=fun e=>by omega
  simp[this,h9]
theorem oP {aA:Int}{n M s v:Nat}(hM:2 ^ n≤M)(hS:s%M<2 ^ n)(h:pP aA n M s v):gC (v%M)=gC (s%M):=by
 obtain⟨f,t,h1,h2,h3,h4,h5,h6,h7,h8⟩:=kK hM hS h
 rw[h7,aD8 h5 h4]
theorem wY {aA:Int}{n M s v:Nat}(hM:2 ^ n≤M)(hs:vX n M s)(h:pP aA n M s v):pP aA n M v s:=by
 obtain⟨f,t,h1,h2,h3,h4,h5,h6,h7,h8⟩:=kK hM hs.set h
 have b:f≠t:=fun e=>by subst e;rw[h5]at h4;cases h4
 refine⟨t,f,h2,h1,fK h1 h3,by rw[h7,eI h5 h4];simp[Ne.symm b],by rw[h7,eI h5 h4];simp,?_⟩
 have a:dK (v/M) t f=s/M:=by
  rw[h6]
  unfold dK
  by_cases hf:f=s/M
  ·simp[hf]
  ·have ht: ¬t=s/M:=fun e=>by have:=hs.occ;rw[←e,h5]at this;cases this
   simp[hf,ht]
 unfold fS
 rw[a,h7,aD9 h5 h4]
 rw[Nat.mul_comm];exact(Nat.div_add_mod s M).symm
def aLj:List ((Int×Nat)×List Nat):= [
 ((2,4),[0,0,0,0,1,0,2,3,1,2,0,3,5,4,4,0]),
 ((2,6),[0,0,0,0,0,0,1,0,2,3,3,4,1,2,0,3,5,4,5,4,4,0,5,6,7,8,6,7,0,8,9,8,8,7,9,0]),
 ((3,6),[0,0,0,0,0,0,1,0,5,2,3,4,7,6,0,8,7,8,1,2,3,0,3,4,5,4,5,4,0,6,9,8,9,8,7,0]),
 ((3,9),[0,0,0,0,0,0,0,0,0,1,0,5,2,3,4,3,4,5,7,6,0,8,7,8,9,8,9,1,2,3,0,3,4,5,4,5,5,4,5,4,0,6,5,6,7,9,8,9,8,7,0,9,8,9,7,8,9,6,7,8,0,8,9,9,8,9,8,7,8,9,0,9,13,12,11,12,11,10,11,10,0]),
 ((4,8),[0,0,0,0,0,0,0,0,1,0,5,6,2,3,4,5,7,6,0,10,8,7,8,9,13,12,11,0,14,13,12,13,1,2,3,4,0,3,4,5,5,4,5,6,4,0,6,7,9,8,9,10,8,7,0,11,15,14,13,14,14,13,12,0]),
 ((4,12),[0,0,0,0,0,0,0,0,0,0,0,0,1,0,5,6,2,3,4,5,3,4,5,6,7,6,0,10,8,7,8,9,9,8,9,10,13,12,11,0,14,13,12,13,15,14,13,14,1,2,3,4,0,3,4,5,5,4,5,6,5,4,5,6,4,0,6,7,5,6,7,8,9,8,9,10,8,7,0,11,9,8,9,10,15,14,13,14,14,13,12,0,15,14,13,14,7,8,9,10,6,7,8,9,0,8,9,10,9,8,9,10,8,7,8,9,9,0,9,10,13,12,11,12,12,11,10,11,11,10,0,12,17,16,15,16,16,15,14,15,15,14,13,0])]
def pot (aA:Int)(n c h:Nat):Nat:=((aLj.find? (fun g=>g.1==(aA,n))).map (fun g=>g.2.getD (c*n+h) 0)).getD 0
def aM3 (aA:Int)(n:Nat):Bool:=(List.range n).all fun c=>(List.range n).all fun h=>decide (pot aA n c h≤60)&&(c==0 || c==h || (aT aA n h).any fun t=>decide (pot aA n (if t=c then h else c) t<pot aA n c h))
theorem aKc:(gZ.all fun g=>aM3 g.1 g.2)=true:=by decide+kernel
theorem uA {aA:Int}{n c h:Nat}(hg:(aA,n)∈gZ)(hc:c<n)(hh:h<n):pot aA n c h≤60∧(c≠0→c≠h→ ∃t,t∈aT aA n h∧pot aA n (if t=c then h else c) t<pot aA n c h):=by
 have h1:=List.all_eq_true.1 aKc _ hg
 have h2:=List.all_eq_true.1 (List.all_eq_true.1 h1 c (List.mem_range.2 hc)) h (List.mem_range.2 hh)
 simp only[Bool.and_eq_true,Bool.or_eq_true,decide_eq_true_eq,beq_iff_eq,List.any_eq_true]at h2
 refine⟨h2.1,fun a b=> ?_⟩
 rcases h2.2 with(h3|h3)|⟨t,h3,h4⟩
 ·exact absurd h3 a
 ·exact absurd h3 b
 ·exact⟨t,h3,h4⟩
def tP (n many:Nat):List Nat:=(List.range (2 ^ n)).filter (fun s=> !s.testBit 0&&decide (gC s=many))
theorem iT {n many s:Nat}:s∈tP n many↔s<2 ^ n∧s.testBit 0=false∧gC s=many:=by
 simp[tP]
section
variable {aA:Int} {n many:Nat} {D:List Int}
abbrev MM:Nat:=4096
abbrev NN:Nat:=49152
abbrev eO (aA:Int)(n many:Nat)(D:List Int):Prop:=qR (vB aA n MM) (tP n many) NN D
theorem gX (hn:n≤12):2 ^ n≤MM:=Nat.pow_le_pow_right (n:=2) (by omega) hn
theorem nK (hn:n≤12){s:Nat}(h:vX n MM s):s<NN:=by
 have h1:=h.car;have h2:=Nat.div_add_mod s MM;have h3:s%MM<MM:=Nat.mod_lt _ (by decide)
 show s<49152
 have:s/4096<n:=h1
 omega
theorem aLm {s:Nat}(h:s<NN):s/MM<12:=by have:s<49152:=h;show s/4096<12;omega
theorem aEw (hn0:4≤n)(hn:n≤12)(hD:eO aA n many D): ∀(k s:Nat),s<NN→D.getD s 0=k→vX n MM s∧gC (s%MM)=many:=by
 intro k
 induction k with
 |zero=>
  intro s hs h0
  have hm:=(hD.zero s hs).1 (by omega)
  obtain⟨h1,h2,h3⟩:=iT.1 hm
  have h4:=gX hn
  have h5:s%MM=s:=Nat.mod_eq_of_lt (by omega)
  have h6:s/MM=0:=Nat.div_eq_of_lt (by omega)
  exact⟨⟨by rw[h6];omega,by rw[h5];exact h1,by rw[h5,h6];exact h2⟩,by rw[h5];exact h3⟩
 |succ k ih=>
  intro s hs h0
  obtain⟨u,hu,hv,hd⟩:=hD.back s hs (by omega)
  obtain⟨a,b⟩:=ih u hu (by omega)
  have he:=mE.1 hv
  exact⟨qL (gX hn) a he,by rw[oP (gX hn) a.set he];exact b⟩
theorem xG (hn0:4≤n)(hn:n≤12)(hD:eO aA n many D){s v:Nat}(hs:vX n MM s)(he:pP aA n MM s v):(0≤D.getD s 0↔0≤D.getD v 0)∧(0≤D.getD s 0→D.getD s 0≤D.getD v 0+1∧D.getD v 0≤D.getD s 0+1):=by
 have hv:=qL (gX hn) hs he
 have a:=wY (gX hn) hs he
 have l1:=nK hn hs;have l2:=nK hn hv
 have e1:=fun h=>hD.edge s v l1 h (mE.2 he)
 have e2:=fun h=>hD.edge v s l2 h (mE.2 a)
 exact⟨⟨fun h=>(e1 h).1,fun h=>(e2 h).1⟩,fun h=>⟨(e2 (e1 h).1).2,(e1 h).2⟩⟩
theorem aJn (hg:(aA,n)∈gZ)(hn0:4≤n)(hn:n≤12)(hD:eO aA n many D): ∀(P s h:Nat),pot aA n (s/MM) h≤P→vX n MM s→gC (s%MM)=many→(s%MM).testBit h=true→0≤D.getD s 0∧D.getD s 0≤pot aA n (s/MM) h:=by
 intro P
 induction P with
 |zero=>
  intro s h hP hs hm hh
  by_cases h0:s/MM=0
  ·have h1:s=s%MM:=by have:=Nat.div_add_mod s MM;rw[h0]at this;omega
   have:D.getD s 0=0:=(hD.zero s (nK hn hs)).2 (iT.2 ⟨by rw[h1];exact hs.set,by rw[h1,←h0];exact hs.occ,by rw[h1];exact hm⟩)
   rw[this];exact⟨Int.le_refl _,by omega⟩
  ·have c:h<n:=by
    rcases Nat.lt_or_ge h n with h1|h1
    ·exact h1
    ·rw[rV hs.set h1]at hh;cases hh
   obtain⟨t,ht,g⟩:=(uA hg hs.car c).2 h0 (fun e=>by rw[←e,hs.occ]at hh;cases hh)
   omega
 |succ P ih=>
  intro s h hP hs hm hh
  by_cases h0:s/MM=0
  ·have h1:s=s%MM:=by have:=Nat.div_add_mod s MM;rw[h0]at this;omega
   have:D.getD s 0=0:=(hD.zero s (nK hn hs)).2 (iT.2 ⟨by rw[h1];exact hs.set,by rw[h1,←h0];exact hs.occ,by rw[h1];exact hm⟩)
   rw[this];exact⟨Int.le_refl _,by omega⟩
  ·have c:h<n:=by
    rcases Nat.lt_or_ge h n with h1|h1
    ·exact h1
    ·rw[rV hs.set h1]at hh;cases hh
   obtain⟨t,ht,g⟩:=(uA hg hs.car c).2 h0 (fun e=>by rw[←e,hs.occ]at hh;cases hh)
   have d:=(bR.1 ht).1
   cases hb:(s%MM).testBit t with
   |true=>
    have f:t≠s/MM:=fun e=>by rw[e,hs.occ]at hb;cases hb
    rw[if_neg f]at g
    obtain⟨a,b⟩:=ih s t (by omega) hs hm hb
    exact⟨a,by omega⟩
   |false=>
    have he:pP aA n MM s (fS MM (s/MM) (s%MM) t h):=⟨t,h,d,c,fK c ht,hb,hh,rfl⟩
    obtain⟨f',t',k1,k2,k3,k4,k5,k6,k7,k8⟩:=kK (gX hn) hs.set he
    have hl:=pZ hs.set d hh hb
    have e1:fS MM (s/MM) (s%MM) t h/MM=dK (s/MM) t h:=kW (Nat.lt_of_lt_of_le hl (gX hn))
    have e2:fS MM (s/MM) (s%MM) t h%MM=cX (s%MM) t h:=gG (Nat.lt_of_lt_of_le hl (gX hn))
    have j:=qL (gX hn) hs he
    have i:=oP (gX hn) hs.set he
    have f:t≠h:=fun e=>by subst e;rw[hh]at hb;cases hb
    have hp:pot aA n (fS MM (s/MM) (s%MM) t h/MM) t=pot aA n (if t=s/MM then h else s/MM) t:=by rw[e1];rfl
    obtain⟨a,b⟩:=ih _ t (by rw[hp];omega) j (by rw[i];exact hm) (by rw[e2,eI hh hb];simp)
    rw[hp]at b
    obtain⟨c1,c2⟩:=xG hn0 hn hD hs he
    have c3:=c1.2 a
    have:=c2 c3
    exact⟨c3,by omega⟩
theorem aL5 {adj:Nat→List Nat}{src:List Nat}{N:Nat}{D E:List Int}(hD:qR adj src N D)(hE:qR adj src N E): ∀(k v:Nat),v<N→D.getD v 0=k→0≤E.getD v 0∧E.getD v 0≤k:=by
 intro k
 induction k with
 |zero=>
  intro v hv h
  have:E.getD v 0=0:=(hE.zero v hv).2 ((hD.zero v hv).1 (by omega))
  rw[this];simp
 |succ k ih=>
  intro v hv h
  obtain⟨u,hu,hm,hd⟩:=hD.back v hv (by omega)
  obtain⟨a,b⟩:=ih u hu (by omega)
  obtain⟨c,d⟩:=hE.edge u v hu a hm
  exact⟨c,by omega⟩
theorem xD {adj:Nat→List Nat}{src:List Nat}{N:Nat}{D E:List Int}(hD:qR adj src N D)(hE:qR adj src N E){v:Nat}(hv:v<N):(0≤D.getD v 0↔0≤E.getD v 0)∧(0≤D.getD v 0→D.getD v 0=E.getD v 0):=by
 have h1: ∀(A B:List Int),qR adj src N A→qR adj src N B→0≤A.getD v 0→0≤B.getD v 0∧B.getD v 0≤A.getD v 0:=by
  intro A B hA hB h
  obtain⟨k,hk⟩:=Int.eq_ofNat_of_zero_le h
  have:=aL5 hA hB k v hv hk
  rw[hk];exact this
 refine⟨⟨fun h=>(h1 D E hD hE h).1,fun h=>(h1 E D hE hD h).1⟩,fun h=> ?_⟩
 obtain⟨a,b⟩:=h1 D E hD hE h
 obtain⟨c,d⟩:=h1 E D hE hD a
 omega
def iE (N:Nat)(src:List Nat):List Int:=src.foldl (fun A v=>A.set v 0) (List.replicate N (-1))
theorem aCt (N:Nat)(src:List Nat)(v:Nat):iE N (src++ [v])=(iE N src).set v 0:=by simp[iE]
theorem wG (N:Nat)(src:List Nat):(iE N src).length=N:=by
 unfold iE
 suffices h: ∀(l:List Nat) (A:List Int),(l.foldl (fun A v=>A.set v 0) A).length=A.length by rw[h];simp
 intro l
 induction l with
 |nil=>intro A;rfl
 |cons x l ih=>intro A;simp only[List.foldl_cons];rw[ih];simp
theorem wH (N:Nat)(src:List Nat)(v:Nat)(hv:v<N):(v∈src→(iE N src).getD v 0=0)∧(v∉src→(iE N src).getD v 0= -1):=by
 unfold iE
 suffices h: ∀(l:List Nat) (A:List Int),A.length=N→(v∈l→(l.foldl (fun A v=>A.set v 0) A).getD v 0=0)∧(v∉l→(l.foldl (fun A v=>A.set v 0) A).getD v 0=A.getD v 0) by
  obtain⟨a,b⟩:=h src (List.replicate N (-1)) (by simp)
  exact⟨a,fun h=>by rw[b h];simp[List.getD,hv]⟩
 intro l
 induction l with
 |nil=>intro A _;simp
 |cons x l ih=>
  intro A hA
  simp only[List.foldl_cons]
  obtain⟨a,b⟩:=ih (A.set x 0) (by simpa using hA)
  constructor
  ·intro hm
   by_cases hl:v∈l
   ·exact a hl
   ·have:v=x:=by simpa[hl]using hm
    subst this
    rw[b hl,cG (by omega)]
  ·intro hm
   have h1:v≠x:=fun e=>hm (by simp[e])
   have h2:v∉l:=fun e=>hm (by simp[e])
   rw[b h2,bN (Ne.symm h1)]
theorem Inv.begin {adj:Nat→List Nat}{src:List Nat}{N:Nat}(hb: ∀v∈src,v<N)(hnd:src.Nodup):Inv adj src N 0 (iE N src,src):=by
 have h0: ∀v∈src,(iE N src).getD v 0=0:=fun v hv=>(wH N src v (hb v hv)).1 hv
 refine⟨wG _ _,hb,fun v hv=> ?_,hnd,?_,?_,?_,fun v hv=>⟨hv,h0 v hv⟩,fun i u hi=>absurd hi (by omega)⟩
 ·by_cases hm:v∈src
  ·rw[h0 v hm];simp[hm]
  ·rw[(wH N src v hv).2 hm];simp[hm]
 ·refine List.pairwise_iff_getElem.2 fun i j hi hj _=> ?_
  dsimp only
  rw[h0 _ (List.getElem_mem hi),h0 _ (List.getElem_mem hj)];exact Int.le_refl _
 ·intro u hu v hv
  dsimp only
  rw[h0 v hv,h0 u (List.mem_of_getElem? hu)];omega
 ·intro v hv
  dsimp only
  rw[h0 v hv]
  exact hv
theorem qP (hn:n≤12): ∀u v,u<NN→v∈vB aA n MM u→v<NN:=by
 intro u v hu hv
 obtain⟨f,t,h1,h2,h3,h4,h5,rfl⟩:=mE.1 hv
 have hc:dK (u/MM) f t<12:=aBt (aLm hu) (by omega)
 have hS:u%MM<2 ^ 12:=Nat.mod_lt _ (by decide)
 have:=pZ hS (by omega:f<12) h5 h4
 show dK (u/MM) f t*4096+cX (u%MM) f t<49152
 have a:(2:Nat) ^ 12=4096:=by decide
 omega
theorem aEf (hn:n≤12): ∀v∈tP n many,v<NN:=fun v hv=>by
 have:=(iT.1 hv).1
 have h:=gX hn
 have h2:(MM:Nat)<NN:=by decide
 omega
theorem tO:(tP n many).Nodup:=List.Pairwise.filter _ List.nodup_range
end
end Go.Proofs.YtgnkoffndhmhpaaGreatDoor
namespace Go.Proofs.YtgnkoffndhmhpaaGreatDoor
open Go.RowKit
set_option linter.unusedVariables false
set_option linter.unusedSimpArgs false
theorem aKa (m:Nat→Bool)(f k:Nat):jO m f k=((List.range k).filter m).map (fun(t:Nat)=>((f:Int),(t:Int))):=by
 induction k with
 |zero=>rfl
 |succ k ih=>
  rw[List.range_succ,List.filter_append,List.map_append,show jO m f (k+1)=jO m f k++(if m k then [((f:Int),(k:Int))]else [])from rfl,ih]
  cases h:m k<;>simp[h]
theorem aI1 (m:Nat→Nat→Bool)(n k:Nat):dO m n k=(List.range k).flatMap (fun f=>((List.range n).filter (m f)).map (fun(t:Nat)=>((f:Int),(t:Int)))):=by
 induction k with
 |zero=>rfl
 |succ k ih=>
  rw[List.range_succ,List.flatMap_append,show dO m n (k+1)=dO m n k++jO (m k) k n from rfl,ih,aKa]
  simp
theorem fH {xs:List Int}{k:Nat}(hk:k<xs.length):cR xs k=decide (xs.getD k 0=0):=by
 unfold cR
 rw[List.getD_eq_getElem?_getD,List.getElem?_eq_getElem hk]
 simp
 rfl
theorem aAq {aA aB:Int}{xs:List Int}(h:aN aA aB xs=true){f t:Nat}(hf:f<xs.length)(ht:t<xs.length):
  bA aA aB xs (f:Int) (t:Int)=(!(aM xs).testBit f&&(decide (t∈aT aA xs.length f)&&(aM xs).testBit t)):=by
 have h1:dF aA aB xs (f:Int) (t:Int)=aW aA f t:=by
  unfold dF;rw[if_pos ⟨h,⟨by omega,by omega⟩,by omega,by omega⟩]
 have h2:=nR h f
 unfold bA
 rw[h1,eG,eG,fH hf,fH ht]
 simp only[Int.toNat_natCast]
 have h3:decide (t∈aT aA xs.length f)=decide (aW aA f t=1):=by
  have:t∈aT aA xs.length f↔aW aA f t=1:=by rw[bR];exact⟨fun h=>h.2,fun h=>⟨ht,h⟩⟩
  simp[this]
 have h4:decide (0<xs.getD f 0)= !decide (xs.getD f 0=0):=by
  by_cases h0:xs.getD f 0=0
  ·rw[h0];rfl
  ·have:0<xs.getD f 0:=by omega
   simp only[h0,this];rfl
 rw[h3,h4]
 cases decide (aW aA f t=1)<;>cases decide (xs.getD f 0=0)<;>rfl
theorem xZ {aA aB:Int}{xs:List Int}(h:aN aA aB xs=true):gJ aA aB xs=(eC aA xs.length (aM xs)).map (fun e=>((e.1:Int),(e.2:Int))):=by
 unfold gJ eC
 rw[aI1,List.map_flatMap]
 have b: ∀l:List Nat,(∀f∈l,f<xs.length)→l.flatMap (fun(f:Nat)=>((List.range xs.length).filter (fun(t:Nat)=>bA aA aB xs f t)).map (fun(t:Nat)=>((f:Int),(t:Int))))=l.flatMap (fun a=>(if(aM xs).testBit a then []else((aT aA xs.length a).filter (fun t=>(aM xs).testBit t)).map (fun t=>(a,t))).map (fun e=>((e.1:Int),(e.2:Int)))):=by
  intro l
  induction l with
  |nil=>intro _;rfl
  |cons f l ih=>
   intro hl
   have hf:=hl f (by simp)
   rw[List.flatMap_cons,List.flatMap_cons,ih (fun x hx=>hl x (by simp[hx]))]
   congr 1
   have e1:(List.range xs.length).filter (fun(t:Nat)=>bA aA aB xs f t)=(List.range xs.length).filter (fun(t:Nat)=>(!(aM xs).testBit f&&(decide (t∈aT aA xs.length f)&&(aM xs).testBit t))):=
    List.filter_congr (fun t ht=>aAq h hf (List.mem_range.1 ht))
   rw[e1]
   cases hb:(aM xs).testBit f with
   |true=>simp
   |false=>
    simp only[Bool.not_false,Bool.true_and,Bool.false_eq_true,if_false,List.map_map]
    have e2:(List.range xs.length).filter (fun(t:Nat)=>decide (t∈aT aA xs.length f)&&(aM xs).testBit t)=(aT aA xs.length f).filter (fun t=>(aM xs).testBit t):=by
     have:aT aA xs.length f=(List.range xs.length).filter (fun t=>decide (t∈aT aA xs.length f)):=by
      conv=>lhs;unfold aT
      refine List.filter_congr (fun t ht=> ?_)
      have:t∈aT aA xs.length f↔aW aA f t=1:=by rw[bR];exact⟨fun h=>h.2,fun h=>⟨List.mem_range.1 ht,h⟩⟩
      simp[this]
     conv=>rhs;rw[this]
     rw[List.filter_filter]
     refine List.filter_congr (fun t _=> ?_)
     rw[Bool.and_comm]
    rw[e2]
    rfl
 exact b _ (fun f hf=>List.mem_range.1 hf)
theorem rS {aA aB:Int}{xs:List Int}(h:aN aA aB xs=true){f t:Nat}(he:(f,t)∈eC aA xs.length (aM xs)):
  bA aA aB xs (f:Int) (t:Int)=true∧bG aA aB xs (f:Int) (t:Int)=(xs.set t (xs.getD f 0)).set f 0∧aM (bG aA aB xs (f:Int) (t:Int))=cX (aM xs) f t∧ ∀c id,xs[c]? =some id→id≠0→(bG aA aB xs (f:Int) (t:Int))[dK c f t]? =some id:=by
 obtain⟨h1,h2,h3,h4,h5⟩:=eR.1 he
 dsimp only at h1 h2 h3 h4 h5
 have hm:bA aA aB xs (f:Int) (t:Int)=true:=by rw[aAq h h1 h2,h4,h5];simp[h3]
 have hd:bG aA aB xs (f:Int) (t:Int)=(xs.set t (xs.getD f 0)).set f 0:=by unfold bG;rw[if_pos hm];simp only[Int.toNat_natCast]
 have i:f≠t:=fun e=>by subst e;rw[h5]at h4;cases h4
 have b:xs.getD f 0≠0:=by
  intro e;rw[eG,fH h1,e]at h4;simp at h4
 refine⟨hm,hd,?_,?_⟩
 ·refine aEx fun k=> ?_
  rw[eI h5 h4,eG,eG,hd]
  by_cases hk:k<xs.length
  ·rw[fH (by simpa using hk),fH hk]
   by_cases k1:k=f
   ·subst k1
    rw[List.getD_eq_getElem?_getD,List.getElem?_set_self (by simpa using hk)];simp
   ·by_cases k2:k=t
    ·subst k2
     rw[List.getD_eq_getElem?_getD,List.getElem?_set_ne (Ne.symm k1),List.getElem?_set_self hk]
     have e:(some (xs.getD f 0)).getD 0=xs.getD f 0:=rfl
     rw[e]
     have a: ¬xs[f]?.getD 0=0:=by rw[←List.getD_eq_getElem?_getD];exact b
     simp[a,k1]
    ·rw[List.getD_eq_getElem?_getD,List.getElem?_set_ne (Ne.symm k1),List.getElem?_set_ne (Ne.symm k2),←List.getD_eq_getElem?_getD]
     simp[k1,k2]
  ·have e1:cR ((xs.set t (xs.getD f 0)).set f 0) k=false:=by unfold cR;rw[List.getElem?_eq_none (by simp;omega)];rfl
   have e2:cR xs k=false:=by unfold cR;rw[List.getElem?_eq_none (by omega)];rfl
   rw[e1,e2]
   have:k≠f:=by omega
   simp[this]
 ·intro c id hc h0
  rw[hd]
  obtain⟨g,j⟩:=List.getElem?_eq_some_iff.1 hc
  unfold dK
  by_cases hcf:f=c
  ·rw[if_pos hcf,List.getElem?_set_ne (by omega),List.getElem?_set_self h2,hcf,List.getD_eq_getElem?_getD,hc];rfl
  ·rw[if_neg hcf]
   have d:t≠c:=by
    rintro rfl
    rw[eG,fH h2,List.getD_eq_getElem?_getD,hc]at h5
    simp at h5;exact h0 h5
   rw[List.getElem?_set_ne hcf,List.getElem?_set_ne d,hc]
def lA (aA:Int)(n:Nat)(dd:Nat→Nat→Int)(s:Nat×Nat):Option (Nat×Nat):=(eC aA n s.2).find? (fun e=>decide (dd (dK s.1 e.1 e.2) (cX s.2 e.1 e.2)=dd s.1 s.2-1))
def jB (s e:Nat×Nat):Nat×Nat:=(dK s.1 e.1 e.2,cX s.2 e.1 e.2)
def gP (aA:Int)(n:Nat)(dd:Nat→Nat→Int)(s:Nat×Nat):Nat→Nat×Nat
 |0=>s
 |j+1=>match lA aA n dd (gP aA n dd s j)with
  |none=>gP aA n dd s j
  |some e=>jB (gP aA n dd s j) e
def fU (aA:Int)(n:Nat)(dd:Nat→Nat→Int)(s:Nat×Nat)(j:Nat):Nat×Nat:=(lA aA n dd (gP aA n dd s j)).getD (0,0)
def aV (D:List Int)(c S:Nat):Int:=D.getD (c*MM+S) 0
structure nD (n many:Nat) (s:Nat×Nat):Prop where
 car:s.1<n
 set:s.2<2 ^ n
 occ:s.2.testBit s.1=false
 many:gC s.2=many
section
variable {aA:Int} {n many:Nat} {D:List Int}
theorem mL (hn:n≤12){s:Nat×Nat}(h:nD n many s):vX n MM (s.1*MM+s.2)∧(s.1*MM+s.2)/MM=s.1∧(s.1*MM+s.2)%MM=s.2:=by
 have hl:s.2<MM:=Nat.lt_of_lt_of_le h.set (gX hn)
 have e1:(s.1*MM+s.2)/MM=s.1:=kW hl
 have e2:(s.1*MM+s.2)%MM=s.2:=gG hl
 exact⟨⟨by rw[e1];exact h.car,by rw[e2];exact h.set,by rw[e1,e2];exact h.occ⟩,e1,e2⟩
theorem yF (hn:n≤12){s e:Nat×Nat}(h:nD n many s)(he:e∈eC aA n s.2):pP aA n MM (s.1*MM+s.2) ((jB s e).1*MM+(jB s e).2)∧nD n many (jB s e):=by
 obtain⟨h1,h2,h3,h4,h5⟩:=eR.1 he
 obtain⟨a,b,c⟩:=mL hn h
 have hE:pP aA n MM (s.1*MM+s.2) ((jB s e).1*MM+(jB s e).2):=⟨e.1,e.2,h1,h2,h3,by rw[c];exact h4,by rw[c];exact h5,by rw[b,c];rfl⟩
 have hl:=pZ h.set h1 h5 h4
 have k:=qL (gX hn) a hE
 have k2:=oP (gX hn) a.set hE
 have d:(jB s e).2<MM:=Nat.lt_of_lt_of_le hl (gX hn)
 have e1:=k.car;have e2:=k.set;have e3:=k.occ
 rw[kW d]at e1
 rw[gG d]at e2
 rw[kW d,gG d]at e3
 rw[gG d,c,h.many]at k2
 exact⟨hE,e1,e2,e3,k2⟩
theorem rD (hn0:4≤n)(hn:n≤12)(hD:eO aA n many D){s:Nat×Nat}(h:nD n many s)(h0:0<aV D s.1 s.2): ∃e,lA aA n (aV D) s=some e∧e∈eC aA n s.2∧aV D (jB s e).1 (jB s e).2=aV D s.1 s.2-1∧nD n many (jB s e):=by
 obtain⟨a,b,c⟩:=mL hn h
 obtain⟨u,hu,hm,hd⟩:=hD.back _ (nK hn a) h0
 have d:D.getD (s.1*MM+s.2) 0=aV D s.1 s.2:=rfl
 obtain⟨k,hk⟩:=Int.eq_ofNat_of_zero_le (show 0≤D.getD u 0 by rw[hd,d];omega)
 obtain⟨u1,u2⟩:=aEw hn0 hn hD k u hu hk
 obtain⟨f,t,h1,h2,h3,h4,h5,h6⟩:=wY (gX hn) u1 (mE.1 hm)
 rw[b,c]at h6
 rw[c]at h4 h5
 have he:(f,t)∈eC aA n s.2:=eR.2 ⟨h1,h2,h3,h4,h5⟩
 have hp:(fun e:Nat×Nat=>decide (aV D (dK s.1 e.1 e.2) (cX s.2 e.1 e.2)=aV D s.1 s.2-1)) (f,t)=true:=by
  simp only[decide_eq_true_eq]
  show D.getD (fS MM s.1 s.2 f t) 0=_
  rw[←h6,hd,d]
 cases hf:lA aA n (aV D) s with
 |none=>
  unfold lA at hf
  have:=List.find?_eq_none.1 hf _ he
  exact absurd hp this
 |some e=>
  unfold lA at hf
  have h7:=List.find?_some hf
  have h8:=List.mem_of_find?_eq_some hf
  simp only[decide_eq_true_eq]at h7
  exact⟨e,rfl,h8,h7,(yF hn h h8).2⟩
theorem aEp {dd:Nat→Nat→Int}{s:Nat×Nat}{j:Nat}{e:Nat×Nat}(h:lA aA n dd (gP aA n dd s j)=some e):gP aA n dd s (j+1)=jB (gP aA n dd s j) e:=by
 rw[gP,h]
theorem iV (hn0:4≤n)(hn:n≤12)(hD:eO aA n many D){s:Nat×Nat}(h:nD n many s){d:Nat}(hd:aV D s.1 s.2=d): ∀j,j≤d→nD n many (gP aA n (aV D) s j)∧aV D (gP aA n (aV D) s j).1 (gP aA n (aV D) s j).2=(d:Int)-j:=by
 intro j
 induction j with
 |zero=>intro _;exact⟨h,by show aV D s.1 s.2=_;rw[hd];simp⟩
 |succ j ih=>
  intro hj
  obtain⟨a,b⟩:=ih (by omega)
  obtain⟨e,h1,h2,h3,h4⟩:=rD hn0 hn hD a (by rw[b];omega)
  rw[aEp h1]
  exact⟨h4,by rw[h3,b];omega⟩
theorem jS (hn0:4≤n)(hn:n≤12)(hD:eO aA n many D){s:Nat×Nat}(h:nD n many s){d:Nat}(hd:aV D s.1 s.2=d){j:Nat}(hj:j<d):lA aA n (aV D) (gP aA n (aV D) s j)=some (fU aA n (aV D) s j)∧fU aA n (aV D) s j∈eC aA n (gP aA n (aV D) s j).2∧gP aA n (aV D) s (j+1)=jB (gP aA n (aV D) s j) (fU aA n (aV D) s j):=by
 obtain⟨a,b⟩:=iV hn0 hn hD h hd j (by omega)
 obtain⟨e,h1,h2,h3,h4⟩:=rD hn0 hn hD a (by rw[b];omega)
 have he:fU aA n (aV D) s j=e:=by unfold fU;rw[h1];rfl
 rw[he]
 exact⟨h1,h2,aEp h1⟩
theorem aJ4 (hn0:4≤n)(hn:n≤12)(hD:eO aA n many D){s:Nat×Nat}(h:nD n many s){d:Nat}(hd:aV D s.1 s.2=d){j:Nat}(hj:j≤d):(gP aA n (aV D) s j).1=0↔j=d:=by
 obtain⟨a,b⟩:=iV hn0 hn hD h hd j hj
 obtain⟨k1,k2,k3⟩:=mL hn a
 have hz:=hD.zero _ (nK hn k1)
 have hb:D.getD ((gP aA n (aV D) s j).1*MM+(gP aA n (aV D) s j).2) 0=(d:Int)-j:=b
 rw[hb,iT]at hz
 constructor
 ·intro h0
  have:=hz.2 (by
   rw[h0,Nat.zero_mul,Nat.zero_add]
   exact⟨a.set,by have:=a.occ;rw[h0]at this;exact this,a.many⟩)
  omega
 ·intro e
  have h1:=(hz.1 (by omega)).1
  have hp:=gX hn
  have h2:=Nat.div_eq_of_lt (Nat.lt_of_lt_of_le h1 hp)
  rw[k2]at h2
  exact h2
theorem wK (hn0:4≤n)(hn:n≤12){E:List Int}(hD:eO aA n many D)(hE:eO aA n many E){s:Nat×Nat}(h:nD n many s)(h0:0<aV D s.1 s.2):lA aA n (aV D) s=lA aA n (aV E) s:=by
 unfold lA
 have c: ∀s:Nat×Nat,nD n many s→(0≤aV D s.1 s.2↔0≤aV E s.1 s.2)∧(0≤aV D s.1 s.2→aV D s.1 s.2=aV E s.1 s.2):=fun s hs=>xD hD hE (nK hn (mL hn hs).1)
 have h1:=(c s h).2 (by omega)
 have d: ∀l:List (Nat×Nat),(∀e∈l,e∈eC aA n s.2)→l.find? (fun e=>decide (aV D (dK s.1 e.1 e.2) (cX s.2 e.1 e.2)=aV D s.1 s.2-1))=l.find? (fun e=>decide (aV E (dK s.1 e.1 e.2) (cX s.2 e.1 e.2)=aV E s.1 s.2-1)):=by
  intro l
  induction l with
  |nil=>intro _;rfl
  |cons e l ih=>
   intro hl
   have hp:=(yF hn h (hl e (by simp))).2
   obtain⟨a,b⟩:=c _ hp
   have hh:decide (aV D (dK s.1 e.1 e.2) (cX s.2 e.1 e.2)=aV D s.1 s.2-1)=decide (aV E (dK s.1 e.1 e.2) (cX s.2 e.1 e.2)=aV E s.1 s.2-1):=by
    have a':0≤aV D (dK s.1 e.1 e.2) (cX s.2 e.1 e.2)↔0≤aV E (dK s.1 e.1 e.2) (cX s.2 e.1 e.2):=a
    have b':0≤aV D (dK s.1 e.1 e.2) (cX s.2 e.1 e.2)→aV D (dK s.1 e.1 e.2) (cX s.2 e.1 e.2)=aV E (dK s.1 e.1 e.2) (cX s.2 e.1 e.2):=b
    rw[←h1]
    by_cases hc:0≤aV D (dK s.1 e.1 e.2) (cX s.2 e.1 e.2)
    ·rw[b' hc]
    ·have f: ¬0≤aV E (dK s.1 e.1 e.2) (cX s.2 e.1 e.2):=fun x=>hc (a'.2 x)
     have d1: ¬(aV D (dK s.1 e.1 e.2) (cX s.2 e.1 e.2)=aV D s.1 s.2-1):=by omega
     have d2: ¬(aV E (dK s.1 e.1 e.2) (cX s.2 e.1 e.2)=aV D s.1 s.2-1):=by omega
     simp only[d1,d2]
   rw[List.find?_cons,List.find?_cons,hh,ih (fun x hx=>hl x (by simp[hx]))]
 exact d _ (fun e he=>he)
theorem aKv (hn0:4≤n)(hn:n≤12){E:List Int}(hD:eO aA n many D)(hE:eO aA n many E){s:Nat×Nat}(h:nD n many s){d:Nat}(hd:aV D s.1 s.2=d): ∀j,j≤d→gP aA n (aV D) s j=gP aA n (aV E) s j:=by
 intro j
 induction j with
 |zero=>intro _;rfl
 |succ j ih=>
  intro hj
  have e:=ih (by omega)
  obtain⟨a,b⟩:=iV hn0 hn hD h hd j (by omega)
  have p:=wK hn0 hn hD hE a (by rw[b];omega)
  rw[gP,gP,←e,p]
theorem aE4 (hn0:4≤n)(hn:n≤12){E:List Int}(hD:eO aA n many D)(hE:eO aA n many E){s:Nat×Nat}(h:nD n many s){d:Nat}(hd:aV D s.1 s.2=d){j:Nat}(hj:j<d):fU aA n (aV D) s j=fU aA n (aV E) s j:=by
 obtain⟨a,b⟩:=iV hn0 hn hD h hd j (by omega)
 unfold fU
 rw[←aKv hn0 hn hD hE h hd j (by omega),wK hn0 hn hD hE a (by rw[b];omega)]
end
end Go.Proofs.YtgnkoffndhmhpaaGreatDoor
