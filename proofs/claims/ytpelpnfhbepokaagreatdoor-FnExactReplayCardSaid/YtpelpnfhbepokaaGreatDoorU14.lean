/-
  Texts of this proof, packed (@packed).
-/
import Derived.Test.YtpelpnfhbepokaaGreatDoorU1
import Derived.Test.YtpelpnfhbepokaaGreatDoorU13
namespace Go.Proofs.YtpelpnfhbepokaaGreatDoor
open Go.RowKit
set_option linter.unusedVariables false
set_option linter.unusedSimpArgs false
def dS (aA:Int)(n S:Nat):List (Nat×Nat):=(List.range n).flatMap fun f=>if S.testBit f then []else((aP aA n f).filter (fun t=>S.testBit t)).map (fun t=>(f,t))
theorem eW {aA:Int}{n S:Nat}{e:Nat×Nat}:e∈dS aA n S↔e.1<n∧e.2<n∧e.2∈aP aA n e.1∧S.testBit e.1=false∧S.testBit e.2=true:=by
 obtain⟨f,t⟩:=e;simp only[dS,List.mem_flatMap,List.mem_range];constructor
 ·rintro⟨a,ha,hm⟩;cases hb:S.testBit a with
  |true=>rw[hb]at hm;simp at hm
  |false=>rw[hb]at hm;simp only[Bool.false_eq_true,if_false,List.mem_map,List.mem_filter]at hm;obtain⟨x,⟨h1,h2⟩,h3⟩:=hm;injection h3 with h3 h4;subst h3 h4;exact⟨ha,(bM.1 h1).1,h1,hb,h2⟩
 rintro⟨h1,h2,h3,h4,h5⟩;refine⟨f,h1,?_⟩;rw[h4];simp only[Bool.false_eq_true,if_false,List.mem_map,List.mem_filter];exact⟨t,⟨h3,h5⟩,rfl⟩
def dF (c f t:Nat):Nat:=if f=c then t else c
def fO (M c S f t:Nat):Nat:=dF c f t*M+cT S f t
def mY (aA:Int)(n M s:Nat):List Nat:=(dS aA n (s%M)).map (fun e=>fO M (s/M) (s%M) e.1 e.2)
def wB (aA:Int)(n M s:Nat):List Nat:=(List.range n).flatMap fun h=>if(s%M).testBit h then((aP aA n h).filter (fun f=> !(s%M).testBit f)).map (fun f=>fO M (s/M) (s%M) f h)else []
def pY (aA:Int)(n M s v:Nat):Prop:= ∃f t,f<n∧t<n∧t∈aP aA n f∧(s%M).testBit f=false∧(s%M).testBit t=true∧v=fO M (s/M) (s%M) f t
theorem oD {aA:Int}{n M s v:Nat}:v∈mY aA n M s↔pY aA n M s v:=by
 unfold mY pY;rw[List.mem_map];constructor
 ·rintro⟨⟨f,t⟩,h,rfl⟩;obtain⟨h1,h2,h3,h4,h5⟩:=eW.1 h;exact⟨f,t,h1,h2,h3,h4,h5,rfl⟩
 rintro⟨f,t,h1,h2,h3,h4,h5,rfl⟩;exact⟨(f,t),eW.2 ⟨h1,h2,h3,h4,h5⟩,rfl⟩
theorem mF {aA:Int}{n M s v:Nat}:v∈wB aA n M s↔pY aA n M s v:=by
 unfold wB pY;rw[List.mem_flatMap];constructor
 ·rintro⟨h,hh,hm⟩;rw[List.mem_range]at hh;cases hb:(s%M).testBit h with
  |false=>rw[hb]at hm;simp at hm
  |true=>rw[hb]at hm;simp only[if_true,List.mem_map,List.mem_filter,Bool.not_eq_true']at hm;obtain⟨f,⟨h1,h2⟩,rfl⟩:=hm;exact⟨f,h,(bM.1 h1).1,hh,fL hh h1,h2,hb,rfl⟩
 rintro⟨f,t,h1,h2,h3,h4,h5,rfl⟩;refine⟨t,List.mem_range.2 h2,?_⟩;rw[h5];simp only[if_true,List.mem_map,List.mem_filter,Bool.not_eq_true'];exact⟨f,⟨fL h1 h3,h4⟩,rfl⟩
structure xA (n M s:Nat):Prop where
 car:s/M<n
 set:s%M<2 ^ n
 occ:(s%M).testBit (s/M)=false
theorem lC {M c S:Nat}(h:S<M):(c*M+S)/M=c:=by rw[Nat.mul_comm,Nat.mul_add_div (by omega),Nat.div_eq_of_lt h,Nat.add_zero]
theorem fZ {M c S:Nat}(h:S<M):(c*M+S)%M=S:=by rw[Nat.mul_comm,Nat.mul_add_mod,Nat.mod_eq_of_lt h]
theorem aD6 {n c f t:Nat}(hc:c<n)(ht:t<n):dF c f t<n:=by unfold dF;split<;>omega
theorem kP {aA:Int}{n M s v:Nat}(hM:2 ^ n≤M)(hS:s%M<2 ^ n)(h:pY aA n M s v): ∃f t,f<n∧t<n∧t∈aP aA n f∧(s%M).testBit f=false∧(s%M).testBit t=true∧v/M=dF (s/M) f t∧v%M=cT (s%M) f t∧cT (s%M) f t<2 ^ n:=by obtain⟨f,t,h1,h2,h3,h4,h5,rfl⟩:=h;have hl:=qN hS h1 h5 h4;exact⟨f,t,h1,h2,h3,h4,h5,lC (by omega),fZ (by omega),hl⟩
theorem aG4 {aA:Int}{n M s v:Nat}(hM:2 ^ n≤M)(hc:s/M<n)(hS:s%M<2 ^ n)(h:pY aA n M s v):v/M<n∧v%M<2 ^ n:=by obtain⟨f,t,h1,h2,h3,h4,h5,h6,h7,h8⟩:=kP hM hS h;exact⟨by rw[h6];exact aD6 hc h2,by rw[h7];exact h8⟩
theorem qZ {aA:Int}{n M s v:Nat}(hM:2 ^ n≤M)(hs:xA n M s)(h:pY aA n M s v):xA n M v:=by
 obtain⟨a,b⟩:=aG4 hM hs.car hs.set h;obtain⟨f,t,h1,h2,h3,h4,h5,h6,h7,h8⟩:=kP hM hs.set h;refine⟨a,b,?_⟩;rw[h6,h7,eE h5 h4];unfold dF;have c:f≠t:=fun e=>by subst e;rw[h5]at h4;cases h4
 split
 ·simp[Ne.symm c]
 have:=hs.occ;have h9:s/M≠f:=fun e=>by omega
 simp[this,h9]
theorem oQ {aA:Int}{n M s v:Nat}(hM:2 ^ n≤M)(hS:s%M<2 ^ n)(h:pY aA n M s v):fV (v%M)=fV (s%M):=by obtain⟨f,t,h1,h2,h3,h4,h5,h6,h7,h8⟩:=kP hM hS h;rw[h7,aEf h5 h4]
theorem yO {aA:Int}{n M s v:Nat}(hM:2 ^ n≤M)(hs:xA n M s)(h:pY aA n M s v):pY aA n M v s:=by
 obtain⟨f,t,h1,h2,h3,h4,h5,h6,h7,h8⟩:=kP hM hs.set h;have b:f≠t:=fun e=>by subst e;rw[h5]at h4;cases h4
 refine⟨t,f,h2,h1,fL h1 h3,by rw[h7,eE h5 h4];simp[Ne.symm b],by rw[h7,eE h5 h4];simp,?_⟩;have a:dF (v/M) t f=s/M:=by
  rw[h6];unfold dF;by_cases hf:f=s/M
  ·simp[hf]
  have ht: ¬t=s/M:=fun e=>by have:=hs.occ;rw[←e,h5]at this;cases this
  simp[hf,ht]
 unfold fO;rw[a,h7,aEg h5 h4];rw[Nat.mul_comm];exact(Nat.div_add_mod s M).symm
def aMf:List ((Int×Nat)×List Nat):= [
 ((2,4),[0,0,0,0,1,0,2,3,1,2,0,3,5,4,4,0]),
 ((2,6),[0,0,0,0,0,0,1,0,2,3,3,4,1,2,0,3,5,4,5,4,4,0,5,6,7,8,6,7,0,8,9,8,8,7,9,0]),
 ((3,6),[0,0,0,0,0,0,1,0,5,2,3,4,7,6,0,8,7,8,1,2,3,0,3,4,5,4,5,4,0,6,9,8,9,8,7,0]),
 ((3,9),[0,0,0,0,0,0,0,0,0,1,0,5,2,3,4,3,4,5,7,6,0,8,7,8,9,8,9,1,2,3,0,3,4,5,4,5,5,4,5,4,0,6,5,6,7,9,8,9,8,7,0,9,8,9,7,8,9,6,7,8,0,8,9,9,8,9,8,7,8,9,0,9,13,12,11,12,11,10,11,10,0]),
 ((4,8),[0,0,0,0,0,0,0,0,1,0,5,6,2,3,4,5,7,6,0,10,8,7,8,9,13,12,11,0,14,13,12,13,1,2,3,4,0,3,4,5,5,4,5,6,4,0,6,7,9,8,9,10,8,7,0,11,15,14,13,14,14,13,12,0]),
 ((4,12),[0,0,0,0,0,0,0,0,0,0,0,0,1,0,5,6,2,3,4,5,3,4,5,6,7,6,0,10,8,7,8,9,9,8,9,10,13,12,11,0,14,13,12,13,15,14,13,14,1,2,3,4,0,3,4,5,5,4,5,6,5,4,5,6,4,0,6,7,5,6,7,8,9,8,9,10,8,7,0,11,9,8,9,10,15,14,13,14,14,13,12,0,15,14,13,14,7,8,9,10,6,7,8,9,0,8,9,10,9,8,9,10,8,7,8,9,9,0,9,10,13,12,11,12,12,11,10,11,11,10,0,12,17,16,15,16,16,15,14,15,15,14,13,0])]
def pot (aA:Int)(n c h:Nat):Nat:=((aMf.find? (fun g=>g.1==(aA,n))).map (fun g=>g.2.getD (c*n+h) 0)).getD 0
def aN6 (aA:Int)(n:Nat):Bool:=(List.range n).all fun c=>(List.range n).all fun h=>decide (pot aA n c h≤60)&&(c==0 || c==h || (aP aA n h).any fun t=>decide (pot aA n (if t=c then h else c) t<pot aA n c h))
theorem aLi:(iD.all fun g=>aN6 g.1 g.2)=true:=by decide+kernel
theorem uS {aA:Int}{n c h:Nat}(hg:(aA,n)∈iD)(hc:c<n)(hh:h<n):pot aA n c h≤60∧(c≠0→c≠h→ ∃t,t∈aP aA n h∧pot aA n (if t=c then h else c) t<pot aA n c h):=by
 have h1:=List.all_eq_true.1 aLi _ hg;have h2:=List.all_eq_true.1 (List.all_eq_true.1 h1 c (List.mem_range.2 hc)) h (List.mem_range.2 hh);simp only[Bool.and_eq_true,Bool.or_eq_true,decide_eq_true_eq,beq_iff_eq,List.any_eq_true]at h2;refine⟨h2.1,fun a b=> ?_⟩;rcases h2.2 with(h3|h3)|⟨t,h3,h4⟩
 ·exact absurd h3 a
 ·exact absurd h3 b
 exact⟨t,h3,h4⟩
def uF (n many:Nat):List Nat:=(List.range (2 ^ n)).filter (fun s=> !s.testBit 0&&decide (fV s=many))
theorem iX {n many s:Nat}:s∈uF n many↔s<2 ^ n∧s.testBit 0=false∧fV s=many:=by simp[uF]
section
variable {aA:Int} {n many:Nat} {D:List Int}
abbrev MM:Nat:=4096
abbrev NN:Nat:=49152
abbrev eK (aA:Int)(n many:Nat)(D:List Int):Prop:=rG (wB aA n MM) (uF n many) NN D
theorem iA (hn:n≤12):2 ^ n≤MM:=Nat.pow_le_pow_right (n:=2) (by omega) hn
theorem nQ (hn:n≤12){s:Nat}(h:xA n MM s):s<NN:=by have h1:=h.car;have h2:=Nat.div_add_mod s MM;have h3:s%MM<MM:=Nat.mod_lt _ (by decide);show s<49152;have:s/4096<n:=h1;omega
theorem aMi {s:Nat}(h:s<NN):s/MM<12:=by have:s<49152:=h;show s/4096<12;omega
theorem aG5 (c:4≤n)(hn:n≤12)(hD:eK aA n many D): ∀(k s:Nat),s<NN→D.getD s 0=k→xA n MM s∧fV (s%MM)=many:=by
 intro k;induction k with
 |zero=>intro s hs h0;have hm:=(hD.zero s hs).1 (by omega);obtain⟨h1,h2,h3⟩:=iX.1 hm;have h4:=iA hn;have h5:s%MM=s:=Nat.mod_eq_of_lt (by omega);have h6:s/MM=0:=Nat.div_eq_of_lt (by omega);exact⟨⟨by rw[h6];omega,by rw[h5];exact h1,by rw[h5,h6];exact h2⟩,by rw[h5];exact h3⟩
 |succ k ih=>intro s hs h0;obtain⟨u,hu,hv,hd⟩:=hD.back s hs (by omega);obtain⟨a,b⟩:=ih u hu (by omega);have he:=mF.1 hv;exact⟨qZ (iA hn) a he,by rw[oQ (iA hn) a.set he];exact b⟩
theorem yS (b:4≤n)(hn:n≤12)(hD:eK aA n many D){s v:Nat}(hs:xA n MM s)(he:pY aA n MM s v):(0≤D.getD s 0↔0≤D.getD v 0)∧(0≤D.getD s 0→D.getD s 0≤D.getD v 0+1∧D.getD v 0≤D.getD s 0+1):=by
 have hv:=qZ (iA hn) hs he;have a:=yO (iA hn) hs he;have l1:=nQ hn hs;have l2:=nQ hn hv;have e1:=fun h=>hD.edge s v l1 h (mF.2 he)
 have e2:=fun h=>hD.edge v s l2 h (mF.2 a)
 exact⟨⟨fun h=>(e1 h).1,fun h=>(e2 h).1⟩,fun h=>⟨(e2 (e1 h).1).2,(e1 h).2⟩⟩
theorem aKt (hg:(aA,n)∈iD)(i:4≤n)(hn:n≤12)(hD:eK aA n many D): ∀(P s h:Nat),pot aA n (s/MM) h≤P→xA n MM s→fV (s%MM)=many→(s%MM).testBit h=true→0≤D.getD s 0∧D.getD s 0≤pot aA n (s/MM) h:=by
 intro P;induction P with
 |zero=>
  intro s h hP hs hm hh;by_cases h0:s/MM=0
  ·have h1:s=s%MM:=by have:=Nat.div_add_mod s MM;rw[h0]at this;omega
   have:D.getD s 0=0:=(hD.zero s (nQ hn hs)).2 (iX.2 ⟨by rw[h1];exact hs.set,by rw[h1,←h0];exact hs.occ,by rw[h1];exact hm⟩);rw[this];exact⟨Int.le_refl _,by omega⟩
  have c:h<n:=by
   rcases Nat.lt_or_ge h n with h1|h1
   ·exact h1
   rw[sN hs.set h1]at hh;cases hh
  obtain⟨t,ht,d⟩:=(uS hg hs.car c).2 h0 (fun e=>by rw[←e,hs.occ]at hh;cases hh);omega
 |succ P ih=>
  intro s h hP hs hm hh;by_cases h0:s/MM=0
  ·have h1:s=s%MM:=by have:=Nat.div_add_mod s MM;rw[h0]at this;omega
   have:D.getD s 0=0:=(hD.zero s (nQ hn hs)).2 (iX.2 ⟨by rw[h1];exact hs.set,by rw[h1,←h0];exact hs.occ,by rw[h1];exact hm⟩);rw[this];exact⟨Int.le_refl _,by omega⟩
  have c:h<n:=by
   rcases Nat.lt_or_ge h n with h1|h1
   ·exact h1
   rw[sN hs.set h1]at hh;cases hh
  obtain⟨t,ht,d⟩:=(uS hg hs.car c).2 h0 (fun e=>by rw[←e,hs.occ]at hh;cases hh);have g:=(bM.1 ht).1;cases hb:(s%MM).testBit t with
  |true=>
   have f:t≠s/MM:=fun e=>by rw[e,hs.occ]at hb;cases hb
   rw[if_neg f]at d;obtain⟨a,b⟩:=ih s t (by omega) hs hm hb;exact⟨a,by omega⟩
  |false=>
   have he:pY aA n MM s (fO MM (s/MM) (s%MM) t h):=⟨t,h,g,c,fL c ht,hb,hh,rfl⟩
   obtain⟨f',t',k1,k2,k3,k4,k5,k6,k7,k8⟩:=kP (iA hn) hs.set he;have hl:=qN hs.set g hh hb;have e1:fO MM (s/MM) (s%MM) t h/MM=dF (s/MM) t h:=lC (Nat.lt_of_lt_of_le hl (iA hn));have e2:fO MM (s/MM) (s%MM) t h%MM=cT (s%MM) t h:=fZ (Nat.lt_of_lt_of_le hl (iA hn));have j:=qZ (iA hn) hs he;have k:=oQ (iA hn) hs.set he;have f:t≠h:=fun e=>by subst e;rw[hh]at hb;cases hb
   have hp:pot aA n (fO MM (s/MM) (s%MM) t h/MM) t=pot aA n (if t=s/MM then h else s/MM) t:=by rw[e1];rfl
   obtain⟨a,b⟩:=ih _ t (by rw[hp];omega) j (by rw[k];exact hm) (by rw[e2,eE hh hb];simp);rw[hp]at b;obtain⟨c1,c2⟩:=yS i hn hD hs he;have c3:=c1.2 a;have:=c2 c3;exact⟨c3,by omega⟩
theorem aM1 {adj:Nat→List Nat}{src:List Nat}{N:Nat}{D E:List Int}(hD:rG adj src N D)(hE:rG adj src N E): ∀(k v:Nat),v<N→D.getD v 0=k→0≤E.getD v 0∧E.getD v 0≤k:=by
 intro k;induction k with
 |zero=>intro v hv h;have:E.getD v 0=0:=(hE.zero v hv).2 ((hD.zero v hv).1 (by omega));rw[this];simp
 |succ k ih=>intro v hv h;obtain⟨u,hu,hm,hd⟩:=hD.back v hv (by omega);obtain⟨a,b⟩:=ih u hu (by omega);obtain⟨c,d⟩:=hE.edge u v hu a hm;exact⟨c,by omega⟩
theorem yQ {adj:Nat→List Nat}{src:List Nat}{N:Nat}{D E:List Int}(hD:rG adj src N D)(hE:rG adj src N E){v:Nat}(hv:v<N):(0≤D.getD v 0↔0≤E.getD v 0)∧(0≤D.getD v 0→D.getD v 0=E.getD v 0):=by
 have h1: ∀(A B:List Int),rG adj src N A→rG adj src N B→0≤A.getD v 0→0≤B.getD v 0∧B.getD v 0≤A.getD v 0:=by intro A B hA hB h;obtain⟨k,hk⟩:=Int.eq_ofNat_of_zero_le h;have:=aM1 hA hB k v hv hk;rw[hk];exact this
 refine⟨⟨fun h=>(h1 D E hD hE h).1,fun h=>(h1 E D hE hD h).1⟩,fun h=> ?_⟩;obtain⟨a,b⟩:=h1 D E hD hE h;obtain⟨c,d⟩:=h1 E D hE hD a;omega
def iL (N:Nat)(src:List Nat):List Int:=src.foldl (fun A v=>A.set v 0) (List.replicate N (-1))
theorem aE3 (N:Nat)(src:List Nat)(v:Nat):iL N (src++ [v])=(iL N src).set v 0:=by simp[iL]
theorem xO (N:Nat)(src:List Nat):(iL N src).length=N:=by
 unfold iL
 suffices h: ∀(l:List Nat) (A:List Int),(l.foldl (fun A v=>A.set v 0) A).length=A.length by rw[h];simp
 intro l;induction l with
 |nil=>intro A;rfl
 |cons x l ih=>intro A;simp only[List.foldl_cons];rw[ih];simp
theorem xP (N:Nat)(src:List Nat)(v:Nat)(hv:v<N):(v∈src→(iL N src).getD v 0=0)∧(v∉src→(iL N src).getD v 0= -1):=by
 unfold iL
 suffices h: ∀(l:List Nat) (A:List Int),A.length=N→(v∈l→(l.foldl (fun A v=>A.set v 0) A).getD v 0=0)∧(v∉l→(l.foldl (fun A v=>A.set v 0) A).getD v 0=A.getD v 0) by obtain⟨a,b⟩:=h src (List.replicate N (-1)) (by simp);exact⟨a,fun h=>by rw[b h];simp[List.getD,hv]⟩
 intro l;induction l with
 |nil=>intro A _;simp
 |cons x l ih=>
  intro A hA;simp only[List.foldl_cons];obtain⟨a,b⟩:=ih (A.set x 0) (by simpa using hA);constructor
  ·intro hm;by_cases hl:v∈l
   ·exact a hl
   have:v=x:=by simpa[hl]using hm
   subst this;rw[b hl,cC (by omega)]
  intro hm;have h1:v≠x:=fun e=>hm (by simp[e])
  have h2:v∉l:=fun e=>hm (by simp[e])
  rw[b h2,bW (Ne.symm h1)]
theorem Inv.begin {adj:Nat→List Nat}{src:List Nat}{N:Nat}(hb: ∀v∈src,v<N)(a:src.Nodup):Inv adj src N 0 (iL N src,src):=by
 have h0: ∀v∈src,(iL N src).getD v 0=0:=fun v hv=>(xP N src v (hb v hv)).1 hv
 refine⟨xO _ _,hb,fun v hv=> ?_,a,?_,?_,?_,fun v hv=>⟨hv,h0 v hv⟩,fun i u hi=>absurd hi (by omega)⟩
 ·by_cases hm:v∈src
  ·rw[h0 v hm];simp[hm]
  rw[(xP N src v hv).2 hm];simp[hm]
 ·refine List.pairwise_iff_getElem.2 fun i j hi hj _=> ?_
  dsimp only;rw[h0 _ (List.getElem_mem hi),h0 _ (List.getElem_mem hj)];exact Int.le_refl _
 ·intro u hu v hv;dsimp only;rw[h0 v hv,h0 u (List.mem_of_getElem? hu)];omega
 intro v hv;dsimp only;rw[h0 v hv];exact hv
theorem rF (hn:n≤12): ∀u v,u<NN→v∈wB aA n MM u→v<NN:=by
 intro u v hu hv;obtain⟨f,t,h1,h2,h3,h4,h5,rfl⟩:=mF.1 hv;have hc:dF (u/MM) f t<12:=aD6 (aMi hu) (by omega);have hS:u%MM<2 ^ 12:=Nat.mod_lt _ (by decide);have:=qN hS (by omega:f<12) h5 h4;show dF (u/MM) f t*4096+cT (u%MM) f t<49152;have a:(2:Nat) ^ 12=4096:=by decide
 omega
theorem aFr (hn:n≤12): ∀v∈uF n many,v<NN:=fun v hv=>by
 have:=(iX.1 hv).1;have h:=iA hn;have h2:(MM:Nat)<NN:=by decide
 omega
theorem uE:(uF n many).Nodup:=List.Pairwise.filter _ List.nodup_range
end
end Go.Proofs.YtpelpnfhbepokaaGreatDoor
namespace Go.Proofs.YtpelpnfhbepokaaGreatDoor
open Go.RowKit
set_option linter.unusedVariables false
set_option linter.unusedSimpArgs false
theorem aLf (m:Nat→Bool)(f k:Nat):nL m f k=((List.range k).filter m).map (fun(t:Nat)=>((f:Int),(t:Int))):=by
 induction k with
 |zero=>rfl
 |succ k ih=>rw[List.range_succ,List.filter_append,List.map_append,show nL m f (k+1)=nL m f k++(if m k then [((f:Int),(k:Int))]else [])from rfl,ih];cases h:m k<;>simp[h]
theorem aJf (m:Nat→Nat→Bool)(n k:Nat):fU m n k=(List.range k).flatMap (fun f=>((List.range n).filter (m f)).map (fun(t:Nat)=>((f:Int),(t:Int)))):=by
 induction k with
 |zero=>rfl
 |succ k ih=>rw[List.range_succ,List.flatMap_append,show fU m n (k+1)=fU m n k++nL (m k) k n from rfl,ih,aLf];simp
theorem fH {xs:List Int}{k:Nat}(hk:k<xs.length):cV xs k=decide (xs.getD k 0=0):=by unfold cV;rw[List.getD_eq_getElem?_getD,List.getElem?_eq_getElem hk];simp;rfl
theorem aBz {aA aB:Int}{xs:List Int}(h:aN aA aB xs=true){f t:Nat}(hf:f<xs.length)(ht:t<xs.length):
  aZ aA aB xs (f:Int) (t:Int)=(!(aM xs).testBit f&&(decide (t∈aP aA xs.length f)&&(aM xs).testBit t)):=by
 have h1:dC aA aB xs (f:Int) (t:Int)=aX aA f t:=by unfold dC;rw[if_pos ⟨h,⟨by omega,by omega⟩,by omega,by omega⟩]
 have h2:=nW h f;unfold aZ;rw[h1,eB,eB,fH hf,fH ht];simp only[Int.toNat_natCast];have h3:decide (t∈aP aA xs.length f)=decide (aX aA f t=1):=by
  have:t∈aP aA xs.length f↔aX aA f t=1:=by rw[bM];exact⟨fun h=>h.2,fun h=>⟨ht,h⟩⟩
  simp[this]
 have h4:decide (0<xs.getD f 0)= !decide (xs.getD f 0=0):=by
  by_cases h0:xs.getD f 0=0
  ·rw[h0];rfl
  have:0<xs.getD f 0:=by omega
  simp only[h0,this];rfl
 rw[h3,h4];cases decide (aX aA f t=1)<;>cases decide (xs.getD f 0=0)<;>rfl
theorem zX {aA aB:Int}{xs:List Int}(h:aN aA aB xs=true):kM aA aB xs=(dS aA xs.length (aM xs)).map (fun e=>((e.1:Int),(e.2:Int))):=by
 unfold kM dS;rw[aJf,List.map_flatMap];have b: ∀l:List Nat,(∀f∈l,f<xs.length)→l.flatMap (fun(f:Nat)=>((List.range xs.length).filter (fun(t:Nat)=>aZ aA aB xs f t)).map (fun(t:Nat)=>((f:Int),(t:Int))))=l.flatMap (fun a=>(if(aM xs).testBit a then []else((aP aA xs.length a).filter (fun t=>(aM xs).testBit t)).map (fun t=>(a,t))).map (fun e=>((e.1:Int),(e.2:Int)))):=by
  intro l;induction l with
  |nil=>intro _;rfl
  |cons f l ih=>
   intro hl;have hf:=hl f (by simp);rw[List.flatMap_cons,List.flatMap_cons,ih (fun x hx=>hl x (by simp[hx]))];congr 1
   have e1:(List.range xs.length).filter (fun(t:Nat)=>aZ aA aB xs f t)=(List.range xs.length).filter (fun(t:Nat)=>(!(aM xs).testBit f&&(decide (t∈aP aA xs.length f)&&(aM xs).testBit t))):=
    List.filter_congr (fun t ht=>aBz h hf (List.mem_range.1 ht))
   rw[e1];cases hb:(aM xs).testBit f with
   |true=>simp
   |false=>
    simp only[Bool.not_false,Bool.true_and,Bool.false_eq_true,if_false,List.map_map];have e2:(List.range xs.length).filter (fun(t:Nat)=>decide (t∈aP aA xs.length f)&&(aM xs).testBit t)=(aP aA xs.length f).filter (fun t=>(aM xs).testBit t):=by
     have:aP aA xs.length f=(List.range xs.length).filter (fun t=>decide (t∈aP aA xs.length f)):=by
      conv=>lhs;unfold aP
      refine List.filter_congr (fun t ht=> ?_);have:t∈aP aA xs.length f↔aX aA f t=1:=by rw[bM];exact⟨fun h=>h.2,fun h=>⟨List.mem_range.1 ht,h⟩⟩
      simp[this]
     conv=>rhs;rw[this]
     rw[List.filter_filter];refine List.filter_congr (fun t _=> ?_);rw[Bool.and_comm]
    rw[e2];rfl
 exact b _ (fun f hf=>List.mem_range.1 hf)
theorem sJ {aA aB:Int}{xs:List Int}(h:aN aA aB xs=true){f t:Nat}(he:(f,t)∈dS aA xs.length (aM xs)):
  aZ aA aB xs (f:Int) (t:Int)=true∧bC aA aB xs (f:Int) (t:Int)=(xs.set t (xs.getD f 0)).set f 0∧aM (bC aA aB xs (f:Int) (t:Int))=cT (aM xs) f t∧ ∀c id,xs[c]? =some id→id≠0→(bC aA aB xs (f:Int) (t:Int))[dF c f t]? =some id:=by
 obtain⟨h1,h2,h3,h4,h5⟩:=eW.1 he;dsimp only at h1 h2 h3 h4 h5;have hm:aZ aA aB xs (f:Int) (t:Int)=true:=by rw[aBz h h1 h2,h4,h5];simp[h3]
 have hd:bC aA aB xs (f:Int) (t:Int)=(xs.set t (xs.getD f 0)).set f 0:=by unfold bC;rw[if_pos hm];simp only[Int.toNat_natCast]
 have j:f≠t:=fun e=>by subst e;rw[h5]at h4;cases h4
 have b:xs.getD f 0≠0:=by intro e;rw[eB,fH h1,e]at h4;simp at h4
 refine⟨hm,hd,?_,?_⟩
 ·refine aG8 fun k=> ?_
  rw[eE h5 h4,eB,eB,hd];by_cases hk:k<xs.length
  ·rw[fH (by simpa using hk),fH hk];by_cases k1:k=f
   ·subst k1;rw[List.getD_eq_getElem?_getD,List.getElem?_set_self (by simpa using hk)];simp
   by_cases k2:k=t
   ·subst k2;rw[List.getD_eq_getElem?_getD,List.getElem?_set_ne (Ne.symm k1),List.getElem?_set_self hk];have e:(some (xs.getD f 0)).getD 0=xs.getD f 0:=rfl;rw[e];have d: ¬xs[f]?.getD 0=0:=by rw[←List.getD_eq_getElem?_getD];exact b
    simp[d,k1]
   rw[List.getD_eq_getElem?_getD,List.getElem?_set_ne (Ne.symm k1),List.getElem?_set_ne (Ne.symm k2),←List.getD_eq_getElem?_getD];simp[k1,k2]
  have e1:cV ((xs.set t (xs.getD f 0)).set f 0) k=false:=by unfold cV;rw[List.getElem?_eq_none (by simp;omega)];rfl
  have e2:cV xs k=false:=by unfold cV;rw[List.getElem?_eq_none (by omega)];rfl
  rw[e1,e2];have:k≠f:=by omega
  simp[this]
 intro c id hc h0;rw[hd];obtain⟨i,g⟩:=List.getElem?_eq_some_iff.1 hc;unfold dF;by_cases hcf:f=c
 ·rw[if_pos hcf,List.getElem?_set_ne (by omega),List.getElem?_set_self h2,hcf,List.getD_eq_getElem?_getD,hc];rfl
 rw[if_neg hcf];have a:t≠c:=by rintro rfl;rw[eB,fH h2,List.getD_eq_getElem?_getD,hc]at h5;simp at h5;exact h0 h5
 rw[List.getElem?_set_ne hcf,List.getElem?_set_ne a,hc]
def lH (aA:Int)(n:Nat)(dd:Nat→Nat→Int)(s:Nat×Nat):Option (Nat×Nat):=(dS aA n s.2).find? (fun e=>decide (dd (dF s.1 e.1 e.2) (cT s.2 e.1 e.2)=dd s.1 s.2-1))
def jI (s e:Nat×Nat):Nat×Nat:=(dF s.1 e.1 e.2,cT s.2 e.1 e.2)
def gP (aA:Int)(n:Nat)(dd:Nat→Nat→Int)(s:Nat×Nat):Nat→Nat×Nat
 |0=>s
 |j+1=>match lH aA n dd (gP aA n dd s j)with
  |none=>gP aA n dd s j
  |some e=>jI (gP aA n dd s j) e
def fP (aA:Int)(n:Nat)(dd:Nat→Nat→Int)(s:Nat×Nat)(j:Nat):Nat×Nat:=(lH aA n dd (gP aA n dd s j)).getD (0,0)
def aT (D:List Int)(c S:Nat):Int:=D.getD (c*MM+S) 0
structure nG (n many:Nat) (s:Nat×Nat):Prop where
 car:s.1<n
 set:s.2<2 ^ n
 occ:s.2.testBit s.1=false
 many:fV s.2=many
section
variable {aA:Int} {n many:Nat} {D:List Int}
theorem mN (hn:n≤12){s:Nat×Nat}(h:nG n many s):xA n MM (s.1*MM+s.2)∧(s.1*MM+s.2)/MM=s.1∧(s.1*MM+s.2)%MM=s.2:=by have hl:s.2<MM:=Nat.lt_of_lt_of_le h.set (iA hn);have e1:(s.1*MM+s.2)/MM=s.1:=lC hl;have e2:(s.1*MM+s.2)%MM=s.2:=fZ hl;exact⟨⟨by rw[e1];exact h.car,by rw[e2];exact h.set,by rw[e1,e2];exact h.occ⟩,e1,e2⟩
theorem zZ (hn:n≤12){s e:Nat×Nat}(h:nG n many s)(he:e∈dS aA n s.2):pY aA n MM (s.1*MM+s.2) ((jI s e).1*MM+(jI s e).2)∧nG n many (jI s e):=by
 obtain⟨h1,h2,h3,h4,h5⟩:=eW.1 he;obtain⟨a,b,c⟩:=mN hn h;have hE:pY aA n MM (s.1*MM+s.2) ((jI s e).1*MM+(jI s e).2):=⟨e.1,e.2,h1,h2,h3,by rw[c];exact h4,by rw[c];exact h5,by rw[b,c];rfl⟩
 have hl:=qN h.set h1 h5 h4;have k:=qZ (iA hn) a hE;have k2:=oQ (iA hn) a.set hE;have d:(jI s e).2<MM:=Nat.lt_of_lt_of_le hl (iA hn);have e1:=k.car;have e2:=k.set;have e3:=k.occ;rw[lC d]at e1;rw[fZ d]at e2;rw[lC d,fZ d]at e3;rw[fZ d,c,h.many]at k2;exact⟨hE,e1,e2,e3,k2⟩
theorem rW (g:4≤n)(hn:n≤12)(hD:eK aA n many D){s:Nat×Nat}(h:nG n many s)(h0:0<aT D s.1 s.2): ∃e,lH aA n (aT D) s=some e∧e∈dS aA n s.2∧aT D (jI s e).1 (jI s e).2=aT D s.1 s.2-1∧nG n many (jI s e):=by
 obtain⟨a,b,c⟩:=mN hn h;obtain⟨u,hu,hm,hd⟩:=hD.back _ (nQ hn a) h0;have d:D.getD (s.1*MM+s.2) 0=aT D s.1 s.2:=rfl;obtain⟨k,hk⟩:=Int.eq_ofNat_of_zero_le (show 0≤D.getD u 0 by rw[hd,d];omega);obtain⟨u1,u2⟩:=aG5 g hn hD k u hu hk;obtain⟨f,t,h1,h2,h3,h4,h5,h6⟩:=yO (iA hn) u1 (mF.1 hm);rw[b,c]at h6;rw[c]at h4 h5;have he:(f,t)∈dS aA n s.2:=eW.2 ⟨h1,h2,h3,h4,h5⟩;have hp:(fun e:Nat×Nat=>decide (aT D (dF s.1 e.1 e.2) (cT s.2 e.1 e.2)=aT D s.1 s.2-1)) (f,t)=true:=by simp only[decide_eq_true_eq];show D.getD (fO MM s.1 s.2 f t) 0=_;rw[←h6,hd,d]
 cases hf:lH aA n (aT D) s with
 |none=>unfold lH at hf;have:=List.find?_eq_none.1 hf _ he;exact absurd hp this
 |some e=>unfold lH at hf;have h7:=List.find?_some hf;have h8:=List.mem_of_find?_eq_some hf;simp only[decide_eq_true_eq]at h7;exact⟨e,rfl,h8,h7,(zZ hn h h8).2⟩
theorem aFy {dd:Nat→Nat→Int}{s:Nat×Nat}{j:Nat}{e:Nat×Nat}(h:lH aA n dd (gP aA n dd s j)=some e):gP aA n dd s (j+1)=jI (gP aA n dd s j) e:=by rw[gP,h]
theorem jB (c:4≤n)(hn:n≤12)(hD:eK aA n many D){s:Nat×Nat}(h:nG n many s){d:Nat}(hd:aT D s.1 s.2=d): ∀j,j≤d→nG n many (gP aA n (aT D) s j)∧aT D (gP aA n (aT D) s j).1 (gP aA n (aT D) s j).2=(d:Int)-j:=by
 intro j;induction j with
 |zero=>intro _;exact⟨h,by show aT D s.1 s.2=_;rw[hd];simp⟩
 |succ j ih=>intro hj;obtain⟨a,b⟩:=ih (by omega);obtain⟨e,h1,h2,h3,h4⟩:=rW c hn hD a (by rw[b];omega);rw[aFy h1];exact⟨h4,by rw[h3,b];omega⟩
theorem jW (c:4≤n)(hn:n≤12)(hD:eK aA n many D){s:Nat×Nat}(h:nG n many s){d:Nat}(hd:aT D s.1 s.2=d){j:Nat}(hj:j<d):lH aA n (aT D) (gP aA n (aT D) s j)=some (fP aA n (aT D) s j)∧fP aA n (aT D) s j∈dS aA n (gP aA n (aT D) s j).2∧gP aA n (aT D) s (j+1)=jI (gP aA n (aT D) s j) (fP aA n (aT D) s j):=by
 obtain⟨a,b⟩:=jB c hn hD h hd j (by omega);obtain⟨e,h1,h2,h3,h4⟩:=rW c hn hD a (by rw[b];omega);have he:fP aA n (aT D) s j=e:=by unfold fP;rw[h1];rfl
 rw[he];exact⟨h1,h2,aFy h1⟩
theorem aKi (c:4≤n)(hn:n≤12)(hD:eK aA n many D){s:Nat×Nat}(h:nG n many s){d:Nat}(hd:aT D s.1 s.2=d){j:Nat}(hj:j≤d):(gP aA n (aT D) s j).1=0↔j=d:=by
 obtain⟨a,b⟩:=jB c hn hD h hd j hj;obtain⟨k1,k2,k3⟩:=mN hn a;have hz:=hD.zero _ (nQ hn k1);have hb:D.getD ((gP aA n (aT D) s j).1*MM+(gP aA n (aT D) s j).2) 0=(d:Int)-j:=b;rw[hb,iX]at hz;constructor
 ·intro h0
  have:=hz.2 (by
   rw[h0,Nat.zero_mul,Nat.zero_add]
   exact⟨a.set,by have:=a.occ;rw[h0]at this;exact this,a.many⟩)
  omega
 intro e;have h1:=(hz.1 (by omega)).1;have hp:=iA hn;have h2:=Nat.div_eq_of_lt (Nat.lt_of_lt_of_le h1 hp);rw[k2]at h2;exact h2
theorem xV (g:4≤n)(hn:n≤12){E:List Int}(hD:eK aA n many D)(hE:eK aA n many E){s:Nat×Nat}(h:nG n many s)(h0:0<aT D s.1 s.2):lH aA n (aT D) s=lH aA n (aT E) s:=by
 unfold lH;have c: ∀s:Nat×Nat,nG n many s→(0≤aT D s.1 s.2↔0≤aT E s.1 s.2)∧(0≤aT D s.1 s.2→aT D s.1 s.2=aT E s.1 s.2):=fun s hs=>yQ hD hE (nQ hn (mN hn hs).1)
 have h1:=(c s h).2 (by omega);have d: ∀l:List (Nat×Nat),(∀e∈l,e∈dS aA n s.2)→l.find? (fun e=>decide (aT D (dF s.1 e.1 e.2) (cT s.2 e.1 e.2)=aT D s.1 s.2-1))=l.find? (fun e=>decide (aT E (dF s.1 e.1 e.2) (cT s.2 e.1 e.2)=aT E s.1 s.2-1)):=by
  intro l;induction l with
  |nil=>intro _;rfl
  |cons e l ih=>
   intro hl;have hp:=(zZ hn h (hl e (by simp))).2;obtain⟨a,b⟩:=c _ hp;have hh:decide (aT D (dF s.1 e.1 e.2) (cT s.2 e.1 e.2)=aT D s.1 s.2-1)=decide (aT E (dF s.1 e.1 e.2) (cT s.2 e.1 e.2)=aT E s.1 s.2-1):=by
    have a':0≤aT D (dF s.1 e.1 e.2) (cT s.2 e.1 e.2)↔0≤aT E (dF s.1 e.1 e.2) (cT s.2 e.1 e.2):=a;have b':0≤aT D (dF s.1 e.1 e.2) (cT s.2 e.1 e.2)→aT D (dF s.1 e.1 e.2) (cT s.2 e.1 e.2)=aT E (dF s.1 e.1 e.2) (cT s.2 e.1 e.2):=b;rw[←h1];by_cases hc:0≤aT D (dF s.1 e.1 e.2) (cT s.2 e.1 e.2)
    ·rw[b' hc]
    have f: ¬0≤aT E (dF s.1 e.1 e.2) (cT s.2 e.1 e.2):=fun x=>hc (a'.2 x)
    have d1: ¬(aT D (dF s.1 e.1 e.2) (cT s.2 e.1 e.2)=aT D s.1 s.2-1):=by omega
    have d2: ¬(aT E (dF s.1 e.1 e.2) (cT s.2 e.1 e.2)=aT D s.1 s.2-1):=by omega
    simp only[d1,d2]
   rw[List.find?_cons,List.find?_cons,hh,ih (fun x hx=>hl x (by simp[hx]))]
 exact d _ (fun e he=>he)
theorem aLx (c:4≤n)(hn:n≤12){E:List Int}(hD:eK aA n many D)(hE:eK aA n many E){s:Nat×Nat}(h:nG n many s){d:Nat}(hd:aT D s.1 s.2=d): ∀j,j≤d→gP aA n (aT D) s j=gP aA n (aT E) s j:=by
 intro j;induction j with
 |zero=>intro _;rfl
 |succ j ih=>intro hj;have e:=ih (by omega);obtain⟨a,b⟩:=jB c hn hD h hd j (by omega);have p:=xV c hn hD hE a (by rw[b];omega);rw[gP,gP,←e,p]
theorem aFd (c:4≤n)(hn:n≤12){E:List Int}(hD:eK aA n many D)(hE:eK aA n many E){s:Nat×Nat}(h:nG n many s){d:Nat}(hd:aT D s.1 s.2=d){j:Nat}(hj:j<d):fP aA n (aT D) s j=fP aA n (aT E) s j:=by obtain⟨a,b⟩:=jB c hn hD h hd j (by omega);unfold fP;rw[←aLx c hn hD hE h hd j (by omega),xV c hn hD hE a (by rw[b];omega)]
end
end Go.Proofs.YtpelpnfhbepokaaGreatDoor
namespace Go.Proofs.YtpelpnfhbepokaaGreatDoor
set_option linter.unusedVariables false
structure nB (adj:Nat→List Nat) (D:Nat→Int) (g:Nat→Nat) (d start:Nat):Prop where
 zero:g 0=start
 dist: ∀j,j≤d→D (g j)=d-j
 next: ∀j,j<d→(adj (g j)).find? (fun v=>decide (D v=D (g j)-1))=some (g (j+1))
structure aDb (adj:Nat→List Nat) (D:Nat→Int) (N:Nat):Prop where
 edge: ∀u v,u<N→v∈adj u→0≤D u→0≤D v∧D u≤D v+1
 bd: ∀u v,u<N→v∈adj u→v<N
structure Fwd (adj:Nat→List Nat) (D:Nat→Int) (g:Nat→Nat) (d N start k:Nat) (B A:List Int) (Q:List Nat):Prop where
 inv:Inv adj [start] N k (A,Q)
 blen:B.length=N
 bmem: ∀v,v<N→(0≤B.getD v 0↔v∈Q)
 ngoal: ∀(i u:Nat),i<k→Q[i]? =some u→D u≠0
 tri: ∀v∈Q,0≤D v∧(d:Int)≤A.getD v 0+D v
 chain: ∀j:Nat,j<d→g (j+1)∈Q→A.getD (g (j+1)) 0=j+1→B.getD (g (j+1)) 0=g j
 tight: ∀(i v:Nat),Q[i]? =some v→A.getD v 0+D v=d→ ∃i',i'≤i∧Q[i']? =some (g (A.getD v 0).toNat)
structure FMid (adj:Nat→List Nat) (D:Nat→Int) (g:Nat→Nat) (d N start k u:Nat) (ws:List Nat) (A0:List Int) (Q0:List Nat) (B A:List Int) (Q:List Nat):Prop where
 mid:Mid adj [start] N k u ws (A0,Q0) (A,Q)
 blen:B.length=N
 bmem: ∀v,v<N→(0≤B.getD v 0↔v∈Q)
 tri: ∀v∈Q,0≤D v∧(d:Int)≤A.getD v 0+D v
 chain: ∀j:Nat,j<d→g (j+1)∈Q→A.getD (g (j+1)) 0=j+1→B.getD (g (j+1)) 0=g j
 tight: ∀(i v:Nat),Q[i]? =some v→A.getD v 0+D v=d→ ∃i',i'≤i∧Q[i']? =some (g (A.getD v 0).toNat)
theorem FMid.step {adj:Nat→List Nat}{D:Nat→Int}{g:Nat→Nat}{d N c k u w:Nat}{ws af:List Nat}{B0 A0:List Int}{Q0:List Nat}{B A:List Int}{Q:List Nat}
  (hG:nB adj D g d c)(hD:aDb adj D N)(h0:Fwd adj D g d N c k B0 A0 Q0)(hu:Q0[k]? =some u) (h:FMid adj D g d N c k u ws A0 Q0 B A Q) (p:adj u=ws++w::af):
  ∃B' A' Q',eA (u:Int) (B,Q) w=(B',Q')∧eA (A0.getD u 0+1) (A,Q) w=(A',Q')∧FMid adj D g d N c k u (ws++ [w]) A0 Q0 B' A' Q':=by
 have o:u∈Q0:=List.mem_of_getElem? hu;have s:u<N:=h0.inv.bd u o;have hw:w∈adj u:=by rw[p];simp
 have n:w<N:=hD.bd u w s hw;have q:A0.getD u 0=A.getD u 0:=(h.mid.same u o).symm;have m:=h.mid.step o hw n q;obtain⟨r,hr⟩:=h.mid.pre;dsimp only at hr;have ab:u∈Q:=by rw[hr];exact List.mem_append_left _ o
 have y:Q[k]? =some u:=by have hk:k<Q0.length:=(List.getElem?_eq_some_iff.1 hu).1;rw[hr,List.getElem?_append_left hk];exact hu
 have ap:0≤A.getD u 0:=(h.mid.mem u s).2 ab;by_cases hc:w∈Q
 ·have hB: ¬B.getD w 0<0:=by have:=(h.bmem w n).2 hc;omega
  have hA: ¬A.getD w 0<0:=by have:=(h.mid.mem w n).2 hc;dsimp only at this;omega
  refine⟨B,A,Q,by unfold eA;rw[if_neg hB],by unfold eA;rw[if_neg hA],?_⟩;have e:eA (A0.getD u 0+1) (A,Q) w=(A,Q):=by unfold eA;rw[if_neg hA]
  rw[e]at m;exact⟨m,h.blen,h.bmem,h.tri,h.chain,h.tight⟩
 have hB:B.getD w 0<0:=by
  by_cases hh:B.getD w 0<0
  ·exact hh
  exact absurd ((h.bmem w n).1 (by omega)) hc
 have hA:A.getD w 0<0:=by
  by_cases hh:A.getD w 0<0
  ·exact hh
  exact absurd ((h.mid.mem w n).1 (by dsimp only;omega)) hc
 have aa: ∀v∈Q,w≠v:=fun v hv e=>hc (by rw[e];exact hv)
 refine⟨B.set w u,A.set w (A0.getD u 0+1),Q++ [w],by unfold eA;rw[if_pos hB],by unfold eA;rw[if_pos hA],?_⟩;have e:eA (A0.getD u 0+1) (A,Q) w=(A.set w (A0.getD u 0+1),Q++ [w]):=by unfold eA;rw[if_pos hA]
 rw[e]at m;have al:w<B.length:=by rw[h.blen];exact n
 have ak:w<A.length:=by have:=h.mid.len;dsimp only at this;omega
 have sB:(B.set w (u:Int)).getD w 0=u:=cC al;have sA:(A.set w (A0.getD u 0+1)).getD w 0=A.getD u 0+1:=by rw[cC ak,q]
 obtain⟨am,aq⟩:=h.tri u ab;obtain⟨e1,e2⟩:=hD.edge u w s hw am
 -- if w is tight, then so is u; and the step that is first is there
 have ae:A.getD u 0+1+D w=d→ ∃i',i'≤k∧Q[i']? =some (g (A.getD u 0).toNat)∧(i'<k→g ((A.getD u 0).toNat+1)∈Q)∧(i'=k→u=g (A.getD u 0).toNat):=by
  intro ht;obtain⟨i',l,hq⟩:=h.tight k u y (by omega);refine⟨i',l,hq,fun hlt=> ?_,fun he=> ?_⟩
  ·have hk:k<Q0.length:=(List.getElem?_eq_some_iff.1 hu).1;have ai:Q0[i']? =some (g (A.getD u 0).toNat):=by rw[hr,List.getElem?_append_left (by omega)]at hq;exact hq
   have f:(A.getD u 0).toNat<d:=by omega
   have z:g ((A.getD u 0).toNat+1)∈adj (g (A.getD u 0).toNat):=List.mem_of_find?_eq_some (hG.next _ f);have:=(h0.inv.done i' _ hlt ai _ z).1;rw[hr];exact List.mem_append_left _ this
  subst he;rw[y]at hq;injection hq
 have first:A.getD u 0+1+D w=d→g ((A.getD u 0).toNat+1)∈Q∨g ((A.getD u 0).toNat+1)=w:=by
  intro ht;obtain⟨i',l,hq,k1,k2⟩:=ae ht;by_cases he:i'=k
  ·have ad:=k2 he;have f:(A.getD u 0).toNat<d:=by omega
   have hn:=hG.next _ f;rw[←ad,p]at hn;have an:D u=d-(A.getD u 0).toNat:=by have:=hG.dist _ (Nat.le_of_lt f);rw[←ad]at this;exact this
   rw[List.find?_append]at hn;cases hf:ws.find? (fun v=>decide (D v=D u-1))with
   |some x=>rw[hf,Option.some_or]at hn;injection hn with hn;left;rw[←hn];exact h.mid.seen x (List.mem_of_find?_eq_some hf)
   |none=>rw[hf]at hn;right;rw[Option.none_or,List.find?_cons_of_pos (by simp;omega)]at hn;injection hn with hn;exact hn.symm
  exact .inl (k1 (by omega))
 refine⟨m,by simp[h.blen],?_,?_,?_,?_⟩
 ·intro v hv;by_cases ev:w=v
  ·subst ev;rw[sB];exact⟨fun _=>by simp,fun _=>by omega⟩
  rw[bW ev,h.bmem v hv];simp;intro e2;exact absurd e2.symm ev
 ·intro v hv;rcases List.mem_append.1 hv with hv|hv
  ·rw[bW (aa v hv)];exact h.tri v hv
  simp at hv;subst hv;rw[sA];exact⟨e1,by omega⟩
 ·intro j hj hm ha;by_cases ev:w=g (j+1)
  ·rw[←ev]at ha⊢;rw[sA]at ha;rw[sB];have ao:D w=d-(j+1:Nat):=by rw[ev];exact hG.dist (j+1) (by omega)
   have ht:A.getD u 0+1+D w=d:=by omega
   obtain⟨i',l,hq,k1,k2⟩:=ae ht;have t:(A.getD u 0).toNat=j:=by omega
   by_cases he:i'=k
   ·have:=k2 he;rw[t]at this;rw[this]
   have:=k1 (by omega);rw[t,←ev]at this;exact absurd this hc
  rcases List.mem_append.1 hm with hm|hm
  ·rw[bW ev]at ha⊢;exact h.chain j hj hm ha
  simp at hm;exact absurd hm.symm ev
 intro i v hi ht;by_cases hiQ:i<Q.length
 ·rw[List.getElem?_append_left hiQ]at hi;have aj:v∈Q:=List.mem_of_getElem? hi;rw[bW (aa v aj)]at ht⊢;obtain⟨i',a,b⟩:=h.tight i v hi ht;exact⟨i',a,by rw[List.getElem?_append_left (by omega)];exact b⟩
 have ah:i<(Q++ [w]).length:=(List.getElem?_eq_some_iff.1 hi).1;have ag:i=Q.length:=by simp at ah;omega
 subst ag;simp at hi;subst hi;rw[sA]at ht⊢;have e3:(A.getD u 0+1).toNat=(A.getD u 0).toNat+1:=by omega
 rw[e3];rcases first ht with hm|hm
 ·obtain⟨i',l,ei⟩:=List.getElem_of_mem hm;exact⟨i',by omega,by rw[List.getElem?_append_left l,List.getElem?_eq_getElem l,ei]⟩
 exact⟨Q.length,Nat.le_refl _,by rw[hm,List.getElem?_append_right (Nat.le_refl _)];simp⟩
theorem Fwd.mid {adj:Nat→List Nat}{D:Nat→Int}{g:Nat→Nat}{d N a k u:Nat}{B A:List Int}{Q:List Nat}(h:Fwd adj D g d N a k B A Q)(hu:Q[k]? =some u):FMid adj D g d N a k u [] A Q B A Q:=
 ⟨h.inv.mid hu,h.blen,h.bmem,h.tri,h.chain,h.tight⟩
theorem FMid.many {adj:Nat→List Nat}{D:Nat→Int}{g:Nat→Nat}{d N a k u:Nat}{B0 A0:List Int}{Q0:List Nat}
  (hG:nB adj D g d a)(hD:aDb adj D N)(h0:Fwd adj D g d N a k B0 A0 Q0)(hu:Q0[k]? =some u):
  ∀(vs ws:List Nat) (B A:List Int) (Q:List Nat),FMid adj D g d N a k u ws A0 Q0 B A Q→adj u=ws++vs→(bF (A0.getD u 0+1) (A,Q) vs).2=(bF (u:Int) (B,Q) vs).2∧FMid adj D g d N a k u (ws++vs) A0 Q0 (bF (u:Int) (B,Q) vs).1 (bF (A0.getD u 0+1) (A,Q) vs).1 (bF (u:Int) (B,Q) vs).2:=by
 intro vs;induction vs with
 |nil=>intro ws B A Q h _;exact⟨rfl,by simpa[bF]using h⟩
 |cons v vs ih=>
  intro ws B A Q h e;obtain⟨B',A',Q',e1,e2,h1⟩:=h.step hG hD h0 hu e;have e3:bF (u:Int) (B,Q) (v::vs)=bF (u:Int) (B',Q') vs:=by show vs.foldl _ (eA (u:Int) (B,Q) v)=_;rw[e1];rfl
  have e4:bF (A0.getD u 0+1) (A,Q) (v::vs)=bF (A0.getD u 0+1) (A',Q') vs:=by show vs.foldl _ (eA (A0.getD u 0+1) (A,Q) v)=_;rw[e2];rfl
  have:=ih (ws++ [v]) B' A' Q' h1 (by rw[e];simp);rw[e3,e4];simpa using this
theorem Fwd.step {adj:Nat→List Nat}{D:Nat→Int}{g:Nat→Nat}{d N a k u:Nat}{B A:List Int}{Q:List Nat}(hG:nB adj D g d a)(hD:aDb adj D N)(h:Fwd adj D g d N a k B A Q)(hu:Q[k]? =some u) (hg:D u≠0):
  ∃A',Fwd adj D g d N a (k+1) (bF (u:Int) (B,Q) (adj u)).1 A' (bF (u:Int) (B,Q) (adj u)).2:=by
 have b:=h.inv.bd u (List.mem_of_getElem? hu);obtain⟨e,m⟩:=FMid.many hG hD h hu (adj u) [] B A Q (h.mid hu) rfl;have hi:=h.inv.step hu (fun v hv=>hD.bd u v b hv);have e2:bF (A.getD u 0+1) (A,Q) (adj u)=((bF (A.getD u 0+1) (A,Q) (adj u)).1,(bF (u:Int) (B,Q) (adj u)).2):=by rw[←e]
 dsimp only at hi;rw[e2]at hi;obtain⟨r,hr⟩:=m.mid.pre;dsimp only at hr;refine⟨_,hi,m.blen,m.bmem,?_,m.tri,m.chain,m.tight⟩;intro i v c hv;have hk:k<Q.length:=(List.getElem?_eq_some_iff.1 hu).1;by_cases he:i=k
 ·subst he;rw[hr,List.getElem?_append_left hk,hu]at hv;injection hv with hv;rw[←hv];exact hg
 rw[hr,List.getElem?_append_left (by omega)]at hv;exact h.ngoal i v (by omega) hv
theorem Fwd.way {adj:Nat→List Nat}{D:Nat→Int}{g:Nat→Nat}{d N c k:Nat}{B A:List Int}{Q:List Nat}(hG:nB adj D g d c)(h:Fwd adj D g d N c k B A Q)
  (hp: ∀(i v:Nat),Q[i]? =some v→A.getD v 0<d→i<k): ∀j,j≤d→g j∈Q∧A.getD (g j) 0=j:=by
 intro j;induction j with
 |zero=>intro _;obtain⟨a,b⟩:=h.inv.src c (by simp);rw[hG.zero];exact⟨a,by simpa using b⟩
 |succ j ih=>
  intro hj;obtain⟨a,b⟩:=ih (by omega);obtain⟨i,hi,e⟩:=List.getElem_of_mem a;have hq:Q[i]? =some (g j):=by rw[List.getElem?_eq_getElem hi,e]
  have f:=hp i (g j) hq (by omega);have hm:g (j+1)∈adj (g j):=List.mem_of_find?_eq_some (hG.next j (by omega));obtain⟨c1,c2⟩:=h.inv.done i (g j) f hq _ hm;have t:=(h.tri (g (j+1)) c1).2;have dd:=hG.dist (j+1) hj;dsimp only at c2;exact⟨c1,by omega⟩
theorem Fwd.goal {adj:Nat→List Nat}{D:Nat→Int}{g:Nat→Nat}{d N f k u:Nat}{B A:List Int}{Q:List Nat}(hG:nB adj D g d f)(h:Fwd adj D g d N f k B A Q)(hu:Q[k]? =some u) (hz:D u=0):
  u=g d∧ ∀j,j<d→B.getD (g (j+1)) 0=g j:=by
 have o:u∈Q:=List.mem_of_getElem? hu;have hk:k<Q.length:=(List.getElem?_eq_some_iff.1 hu).1;have n:Q[k]=u:=(List.getElem?_eq_some_iff.1 hu).2;have t:=(h.tri u o).2;have m:=List.pairwise_iff_getElem.1 h.inv.mono;have hp: ∀(i v:Nat),Q[i]? =some v→A.getD v 0<A.getD u 0→i<k:=by
  intro i v hv hlt;obtain⟨hi,e⟩:=List.getElem?_eq_some_iff.1 hv;by_cases hik:i<k
  ·exact hik
  exfalso;by_cases he:i=k
  ·subst he;rw[n]at e;subst e;omega
  have:=m k i hk hi (by omega);dsimp only at this;rw[n,e]at this;omega
 have hw:=h.way hG (fun i v hv hlt=>hp i v hv (by omega));obtain⟨w1,w2⟩:=hw d (Nat.le_refl _);have q:=hG.dist d (Nat.le_refl _);have l:D (g d)=0:=by omega
 obtain⟨i,hi,e⟩:=List.getElem_of_mem w1;have hq:Q[i]? =some (g d):=by rw[List.getElem?_eq_getElem hi,e]
 have p:A.getD u 0=d:=by
  by_cases hh:A.getD u 0=d
  ·exact hh
  exfalso;have:=hp i (g d) hq (by omega);exact h.ngoal i _ this hq l
 obtain⟨i',r,c⟩:=h.tight k u hu (by omega);have e1:(A.getD u 0).toNat=d:=by omega
 rw[e1]at c;have hik:i'=k:=by
  by_cases hh:i'=k
  ·exact hh
  exact absurd l (h.ngoal i' _ (by omega) c)
 subst hik;rw[hu]at c;injection c with c;refine⟨c,fun j hj=> ?_⟩;obtain⟨a,b⟩:=hw (j+1) (by omega);exact h.chain j hj a (by omega)
theorem Fwd.more {adj:Nat→List Nat}{D:Nat→Int}{g:Nat→Nat}{d N c k:Nat}{B A:List Int}{Q:List Nat}(hG:nB adj D g d c)(h:Fwd adj D g d N c k B A Q):k<Q.length:=by
 by_cases hk:k<Q.length
 ·exact hk
 exfalso;have hp: ∀(i v:Nat),Q[i]? =some v→i<k:=fun i v hv=>by have:=(List.getElem?_eq_some_iff.1 hv).1;omega
 obtain⟨a,b⟩:=h.way hG (fun i v hv _=>hp i v hv) d (Nat.le_refl _);obtain⟨i,hi,e⟩:=List.getElem_of_mem a;have hq:Q[i]? =some (g d):=by rw[List.getElem?_eq_getElem hi,e]
 have f:=hG.dist d (Nat.le_refl _);exact h.ngoal i _ (hp i _ hq) hq (by omega)
theorem Fwd.start {adj:Nat→List Nat}{D:Nat→Int}{g:Nat→Nat}{d N a:Nat}(hG:nB adj D g d a)(hs:a<N):
  Fwd adj D g d N a 0 ((List.replicate N (-1)).set a (a:Int)) ((List.replicate N (-1)).set a 0) [a]:=by
 have hl:a<(List.replicate N (-1:Int)).length:=by simpa using hs
 have b: ∀(x:Int) v,v<N→a≠v→((List.replicate N (-1:Int)).set a x).getD v 0= -1:=by intro x v hv e;rw[bW e];simp[List.getD,hv]
 refine⟨⟨by simp,by simpa using hs,?_,by simp,by simp,?_,?_,?_,fun i u hi=>by omega⟩,by simp,?_,fun i u hi=>by omega,?_,?_,?_⟩
 ·intro v hv;dsimp only;by_cases e:a=v
  ·subst e;rw[cC hl];simp
  rw[b 0 v hv e];simp;exact fun h=>e h.symm
 ·intro u hu v hv;simp at hu hv;subst hu hv;omega
 ·intro v hv;simp at hv;subst hv;dsimp only;rw[cC hl];simp[nE]
 ·intro v hv;simp at hv;subst hv;exact⟨by simp,cC hl⟩
 ·intro v hv;by_cases e:a=v
  ·subst e;rw[cC hl];simp
  rw[b _ v hv e];simp;exact fun h=>e h.symm
 ·intro v hv;simp at hv;subst hv;have:=hG.dist 0 (Nat.zero_le _);rw[hG.zero]at this;rw[cC hl];omega
 ·intro j hj hm ha;simp at hm;rw[hm,cC hl]at ha;omega
 intro i v hi ht;have c:i=0:=by have:=(List.getElem?_eq_some_iff.1 hi).1;simp at this;omega
 subst c;simp at hi;subst hi;rw[cC hl];exact⟨0,Nat.le_refl _,by simp[hG.zero]⟩
end Go.Proofs.YtpelpnfhbepokaaGreatDoor
