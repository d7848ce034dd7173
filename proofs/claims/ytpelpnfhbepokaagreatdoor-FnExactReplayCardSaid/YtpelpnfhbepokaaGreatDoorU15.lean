/-
  Texts of this proof, packed (@packed).
-/
import Derived.Test.YtpelpnfhbepokaaGreatDoorU13
import Derived.Test.YtpelpnfhbepokaaGreatDoorU14
namespace Go.Proofs.YtpelpnfhbepokaaGreatDoor
open Go.RowKit
set_option linter.unusedVariables false
set_option linter.unusedSimpArgs false
def aB0 (adj:Nat→List Nat):Nat→Nat→List Int×List Nat→List Int×List Nat
 |0,_,s=>s
 |m+1,k,s=>match s.2[k]? with
  |none=>s
  |some u=>aB0 adj m (k+1) (bF (s.1.getD u 0+1) s (adj u))
theorem aD7 {adj:Nat→List Nat}{src:List Nat}{N:Nat}(ha: ∀u v,u<N→v∈adj u→v<N): ∀(m k:Nat) (s:List Int×List Nat),Inv adj src N k s→N≤k+m→rG adj src N (aB0 adj m k s).1:=by
 intro m;induction m with
 |zero=>intro k s hI hk;exact hI.dist (Nat.le_trans hI.qlen (by omega))
 |succ m ih=>
  intro k s hI hk;rw[aB0];cases hu:s.2[k]? with
  |none=>exact hI.dist (by rw[List.getElem?_eq_none_iff]at hu;exact hu)
  |some u=>exact ih (k+1) _ (hI.step hu (fun v hv=>ha _ v (hI.bd _ (List.mem_of_getElem? hu)) hv)) (by omega)
def fR (aA:Int)(n many:Nat):List Int:=(aB0 (wB aA n MM) NN 0 (iL NN (uF n many),uF n many)).1
theorem lB {aA:Int}{n many:Nat}(hn:n≤12):eK aA n many (fR aA n many):=
 aD7 (rF hn) _ _ _ (Inv.begin (aFr hn) uE) (by omega)
abbrev iR (e:Nat×Nat):Sl2:=((e.1:Int),(e.2:Int))
def nF (aA:Int)(n:Nat)(dd:Nat→Nat→Int)(s:Nat×Nat)(j:Nat):List Sl2:=(List.range j).map (fun i=>iR (fP aA n dd s i))
theorem nH (aA:Int)(n:Nat)(dd:Nat→Nat→Int)(s:Nat×Nat)(j:Nat):(nF aA n dd s j).length=j:=by simp[nF]
theorem xF (aA:Int)(n:Nat)(dd:Nat→Nat→Int)(s:Nat×Nat)(j:Nat):nF aA n dd s (j+1)=nF aA n dd s j++ [iR (fP aA n dd s j)]:=by simp[nF,List.range_succ]
def ddH (aA:Int)(xs:List Int):Nat→Nat→Int:=aT (fR aA xs.length (bE xs).length)
def dH (aA:Int)(xs:List Int)(c:Nat):Option (List Sl2):=
 if ddH aA xs c (aM xs)<0 then none else some (nF aA xs.length (ddH aA xs) (c,aM xs) (ddH aA xs c (aM xs)).toNat)
theorem kJ {xs:List Int}{c:Nat}{id:Int}(hc:xs[c]? =some id) (h0:id≠0):nG xs.length (bE xs).length (c,aM xs):=by obtain⟨hl,he⟩:=List.getElem?_eq_some_iff.1 hc;refine⟨hl,mU xs,?_,aAs xs⟩;show(aM xs).testBit c=false;rw[eB,fH hl,List.getD_eq_getElem?_getD,hc];simpa using h0
section
variable {aA aB:Int} {xs:List Int} {c:Nat} {id:Int} {D:List Int}
theorem aIi (h:aN aA aB xs=true)(hc:xs[c]? =some id) (h0:id≠0) (hD:eK aA xs.length (bE xs).length D) {d:Nat} (hd:aT D c (aM xs)=d):
  ∀j,j≤d→ ∃ys,aY aA aB xs (nF aA xs.length (aT D) (c,aM xs) j)=(ys,j)∧aN aA aB ys=true∧ys.length=xs.length∧aM ys=(gP aA xs.length (aT D) (c,aM xs) j).2∧ys[(gP aA xs.length (aT D) (c,aM xs) j).1]? =some id:=by
 obtain⟨b1,b2,b3,b4,b5,b6,b7⟩:=cG (cK h);have hp:=kJ hc h0;intro j;induction j with
 |zero=>intro _;exact⟨xs,rfl,h,rfl,rfl,hc⟩
 |succ j ih=>
  intro hj;obtain⟨ys,h1,h2,h3,h4,h5⟩:=ih (by omega);obtain⟨e1,e2,e3⟩:=jW b5 b6 hD hp hd (show j<d by omega);have hw:=xF aA xs.length (aT D) (c,aM xs) j;generalize fP aA xs.length (aT D) (c,aM xs) j=e at*;obtain⟨f,t⟩:=e;rw[←h4,←h3]at e2;obtain⟨m1,m2,m3,m4⟩:=sJ h2 e2;refine⟨bC aA aB ys (f:Int) (t:Int),?_,iH _ _ h2,by rw[cS,h3],?_,?_⟩
  ·rw[hw,oZ _ _ _ (by rw[h1,nH]),h1,nH];dsimp only;rw[if_pos m1]
  ·rw[m3,e3,h4];rfl
  rw[e3];exact m4 _ _ h5 h0
theorem sL (h:aN aA aB xs=true)(hc:xs[c]? =some id) (h0:id≠0) (hD:eK aA xs.length (bE xs).length D):(bE xs≠ []→0≤aT D c (aM xs)∧aT D c (aM xs)≤60)∧(c=0→aT D c (aM xs)=0)∧(bE xs= []→c≠0→aT D c (aM xs)<0):=by
 obtain⟨b1,b2,b3,b4,b5,b6,b7⟩:=cG (cK h);have hp:=kJ hc h0;obtain⟨k1,k2,k3⟩:=mN b6 hp;refine⟨fun hf=> ?_,fun hc0=> ?_,fun hf hc0=> ?_⟩
 ·obtain⟨u,hu⟩:=List.exists_mem_of_ne_nil _ hf;obtain⟨u1,u2⟩:=jN hu;have hb:(aM xs).testBit u=true:=by rw[eB,fH u1,u2];rfl
  have hg:=jM h;obtain⟨a,b⟩:=aKt hg b5 b6 hD _ _ u (Nat.le_refl _) k1 (by rw[k3];exact hp.many) (by rw[k3];exact hb);rw[k2]at b;exact⟨a,Int.le_trans b (by have:=(uS hg hp.car u1).1;exact_mod_cast this)⟩
 ·subst hc0;refine(hD.zero _ (nQ b6 k1)).2 (iX.2 ?_);rw[Nat.zero_mul,Nat.zero_add];exact⟨hp.set,hp.occ,hp.many⟩
 rcases Int.lt_or_le (aT D c (aM xs)) 0 with f|d
 ·exact f
 exfalso;rcases Int.lt_or_eq_of_le d with h1|h1
 ·obtain⟨e,e1,e2,_⟩:=rW b5 b6 hD hp h1;obtain⟨_,g2,_,_,g5⟩:=eW.1 e2;have hm:e.2∈bE xs:=by
   unfold bE;rw[List.mem_filter];exact⟨List.mem_range.2 g2,by rw[←eB];exact g5⟩
  rw[hf]at hm;cases hm
 have hz:=(hD.zero _ (nQ b6 k1)).1 h1.symm;have h2:=(iX.1 hz).1;have h3:=Nat.div_eq_of_lt (Nat.lt_of_lt_of_le h2 (iA b6));rw[k2]at h3;exact hc0 h3
theorem aIf (h:aN aA aB xs=true)(hc:xs[c]? =some id) (h0:id≠0) (hD:eK aA xs.length (bE xs).length D):
  (0≤aT D c (aM xs)↔0≤ddH aA xs c (aM xs))∧(0≤aT D c (aM xs)→aT D c (aM xs)=ddH aA xs c (aM xs)∧nF aA xs.length (aT D) (c,aM xs) (aT D c (aM xs)).toNat=nF aA xs.length (ddH aA xs) (c,aM xs) (ddH aA xs c (aM xs)).toNat):=by
 obtain⟨b1,b2,b3,b4,b5,b6,b7⟩:=cG (cK h);have hp:=kJ hc h0;have hE:=lB (aA:=aA) (many:=(bE xs).length) b6;obtain⟨s1,s2⟩:=yQ hD hE (nQ b6 (mN b6 hp).1);refine⟨s1,fun h1=> ?_⟩;have e1:aT D c (aM xs)=ddH aA xs c (aM xs):=s2 h1;refine⟨e1,?_⟩;obtain⟨d,hd⟩:=Int.eq_ofNat_of_zero_le h1;rw[←e1,hd];unfold nF;refine List.map_congr_left fun i hi=> ?_
 have:=List.mem_range.1 hi;rw[aFd b5 b6 hD hE hp hd (show i<d by simpa using this)];rfl
theorem vX (h:aN aA aB xs=true)(hc:xs[c]? =some id) (h0:id≠0) (hD:eK aA xs.length (bE xs).length D):dH aA xs c=if aT D c (aM xs)<0 then none else some (nF aA xs.length (aT D) (c,aM xs) (aT D c (aM xs)).toNat):=by
 obtain⟨a,b⟩:=aIf h hc h0 hD;unfold dH;by_cases h1:0≤aT D c (aM xs)
 ·rw[if_neg (by have:=a.1 h1;omega),if_neg (by omega),(b h1).2]
 rw[if_pos (by have:=fun x=>h1 (a.2 x);omega),if_pos (by omega)]
theorem oC (h:aN aA aB xs=true)(hc:xs[c]? =some id) (h0:id≠0):(dH aA xs c=none↔bE xs= []∧c≠0)∧ ∀l,dH aA xs c=some l→l.length≤60∧ ∃ys,aY aA aB xs l=(ys,l.length)∧aN aA aB ys=true∧ys.length=xs.length∧ys[0]? =some id:=by
 obtain⟨b1,b2,b3,b4,b5,b6,b7⟩:=cG (cK h);have hE:=lB (aA:=aA) (many:=(bE xs).length) b6;obtain⟨n1,n2,n3⟩:=sL h hc h0 hE;have e:ddH aA xs c (aM xs)=aT (fR aA xs.length (bE xs).length) c (aM xs):=rfl;constructor
 ·unfold dH;rw[e];constructor
  ·intro hn;by_cases hf:bE xs= []
   ·refine⟨hf,fun hc0=> ?_⟩;rw[n2 hc0]at hn;simp at hn
   rw[if_neg (by have:=(n1 hf).1;omega)]at hn;cases hn
  rintro⟨hf,hc0⟩;rw[if_pos (n3 hf hc0)]
 intro l hl;unfold dH at hl;rw[e]at hl;by_cases h1:aT (fR aA xs.length (bE xs).length) c (aM xs)<0
 ·rw[if_pos h1]at hl;cases hl
 rw[if_neg h1]at hl;injection hl with hl;obtain⟨d,hd⟩:=Int.eq_ofNat_of_zero_le (show 0≤aT (fR aA xs.length (bE xs).length) c (aM xs) by omega);have a:l.length=d:=by rw[←hl,nH,hd];rfl
 have b:d≤60:=by
  by_cases hf:bE xs= []
  ·by_cases hc0:c=0
   ·have:=n2 hc0;omega
   exact absurd (n3 hf hc0) h1
  have:=(n1 hf).2;omega
 refine⟨by omega,?_⟩;obtain⟨ys,w1,w2,w3,w4,w5⟩:=aIi h hc h0 hE hd d (Nat.le_refl _);have hz:=(aKi b5 b6 hE (kJ hc h0) hd (Nat.le_refl d)).2 rfl;rw[hz]at w5;refine⟨ys,?_,w2,w3,w5⟩;rw[a,←w1,←hl,hd];rfl
end
def lM (aA aB:Int)(xs:List Int)(id:Int):Option (List Int×Nat):=
 if id<1∨id∉xs then none else(dH aA xs (oW xs id).toNat).map (fun l=>((aY aA aB xs l).1.set 0 0,l.length))
/-! the other search: its states, coded by 2^n -/
def eI (n:Nat)(s:Nat×Nat):Nat:=s.1*2 ^ n+s.2
def ddM (n:Nat)(dd:Nat→Nat→Int)(v:Nat):Int:=dd (v/2 ^ n) (v%2 ^ n)
theorem jY {n:Nat}{s:Nat×Nat}(h:s.2<2 ^ n):eI n s/2 ^ n=s.1∧eI n s%2 ^ n=s.2:=⟨lC h,fZ h⟩
theorem vT {n:Nat}{dd:Nat→Nat→Int}{s:Nat×Nat}(h:s.2<2 ^ n):ddM n dd (eI n s)=dd s.1 s.2:=by obtain⟨a,b⟩:=jY h;unfold ddM;rw[a,b]
section
variable {aA:Int} {n many:Nat} {D:List Int}
theorem aIc {s:Nat×Nat}(h:s.2<2 ^ n):mY aA n (2 ^ n) (eI n s)=(dS aA n s.2).map (fun e=>eI n (jI s e)):=by obtain⟨a,b⟩:=jY h;unfold mY;rw[a,b];rfl
theorem rC {s:Nat×Nat}(h1:s.1<n)(h2:s.2<2 ^ n):eI n s<n*2 ^ n:=by unfold eI;have:(s.1+1)*2 ^ n≤n*2 ^ n:=Nat.mul_le_mul_right _ h1;rw[Nat.succ_mul]at this;omega
theorem vN (c:4≤n)(hn:n≤12)(hD:eK aA n many D){s:Nat×Nat}(h:nG n many s){d:Nat}(hd:aT D s.1 s.2=d):
  nB (mY aA n (2 ^ n)) (ddM n (aT D)) (fun j=>eI n (gP aA n (aT D) s j)) d (eI n s):=by
 refine⟨rfl,fun j hj=> ?_,fun j hj=> ?_⟩
 ·obtain⟨a,b⟩:=jB c hn hD h hd j hj;show ddM n (aT D) (eI n (gP aA n (aT D) s j))=_;rw[vT a.set,b]
 obtain⟨a,b⟩:=jB c hn hD h hd j (by omega);obtain⟨e1,e2,e3⟩:=jW c hn hD h hd hj;rw[aIc a.set,vT a.set,e3];rw[List.find?_map];have f:(dS aA n (gP aA n (aT D) s j).2).find? ((fun v=>decide (ddM n (aT D) v=aT D (gP aA n (aT D) s j).1 (gP aA n (aT D) s j).2-1))∘fun e=>eI n (jI (gP aA n (aT D) s j) e))=lH aA n (aT D) (gP aA n (aT D) s j):=by
  unfold lH;have k2: ∀l:List (Nat×Nat),(∀e∈l,e∈dS aA n (gP aA n (aT D) s j).2)→l.find? ((fun v=>decide (ddM n (aT D) v=aT D (gP aA n (aT D) s j).1 (gP aA n (aT D) s j).2-1))∘fun e=>eI n (jI (gP aA n (aT D) s j) e))=l.find? (fun e=>decide (aT D (dF (gP aA n (aT D) s j).1 e.1 e.2) (cT (gP aA n (aT D) s j).2 e.1 e.2)=aT D (gP aA n (aT D) s j).1 (gP aA n (aT D) s j).2-1)):=by
   intro l;induction l with
   |nil=>intro _;rw[List.find?_nil,List.find?_nil]
   |cons e l ih=>intro hl;rw[List.find?_cons,List.find?_cons,ih (fun x hx=>hl x (by simp[hx]))];have hp:=(zZ hn a (hl e (by simp))).2;have:ddM n (aT D) (eI n (jI (gP aA n (aT D) s j) e))=aT D (dF (gP aA n (aT D) s j).1 e.1 e.2) (cT (gP aA n (aT D) s j).2 e.1 e.2):=vT hp.set;simp only[Function.comp_apply,this]
  exact k2 _ (fun e he=>he)
 rw[f,e1];rfl
theorem qV (e:4≤n)(hn:n≤12)(hD:eK aA n many D):aDb (mY aA n (2 ^ n)) (ddM n (aT D)) (n*2 ^ n):=by
 have c:0<2 ^ n:=Nat.two_pow_pos n;have bd: ∀u v,u<n*2 ^ n→v∈mY aA n (2 ^ n) u→v/2 ^ n<n∧v%2 ^ n<2 ^ n:=fun u v hu hv=>aG4 (Nat.le_refl _) ((Nat.div_lt_iff_lt_mul c).2 hu) (Nat.mod_lt _ c) (oD.1 hv)
 refine⟨fun u v hu hv h0=> ?_,fun u v hu hv=> ?_⟩
 ·obtain⟨f,t,h1,h2,h3,h4,h5,h6,h7,h8⟩:=kP (Nat.le_refl _) (Nat.mod_lt u c) (oD.1 hv);have hc:=(Nat.div_lt_iff_lt_mul c).2 hu;have hS:=Nat.mod_lt u c;have g:u/2 ^ n*MM+u%2 ^ n<NN:=by
   have:=iA hn;show u/2 ^ n*4096+u%2 ^ n<49152;have h4:(MM:Nat)=4096:=rfl;omega
  obtain⟨k,hk⟩:=Int.eq_ofNat_of_zero_le h0;obtain⟨u1,u2⟩:=aG5 e hn hD k _ g hk;have d:u%2 ^ n<MM:=Nat.lt_of_lt_of_le hS (iA hn);have hE:pY aA n MM (u/2 ^ n*MM+u%2 ^ n) (v/2 ^ n*MM+v%2 ^ n):=⟨f,t,h1,h2,h3,by rw[fZ d];exact h4,by rw[fZ d];exact h5,by rw[lC d,fZ d,h6,h7];rfl⟩
  obtain⟨a,b⟩:=yS e hn hD u1 hE;exact⟨a.1 h0,(b h0).1⟩
 obtain⟨a,b⟩:=bd u v hu hv;have:=rC (s:=(v/2 ^ n,v%2 ^ n)) a b;unfold eI at this;rw[Nat.mul_comm (v/2 ^ n),Nat.div_add_mod]at this;exact this
theorem aKw (b:4≤n)(hn:n≤12)(hD:eK aA n many D){v:Nat}(hv:v<n*2 ^ n)(a:xA n (2 ^ n) v)(hm:fV (v%2 ^ n)=many):ddM n (aT D) v=0↔v/2 ^ n=0:=by
 have hp:nG n many (v/2 ^ n,v%2 ^ n):=⟨a.car,a.set,a.occ,hm⟩
 obtain⟨k1,k2,k3⟩:=mN hn hp;have hz:=hD.zero _ (nQ hn k1);have e:ddM n (aT D) v=D.getD ((v/2 ^ n)*MM+v%2 ^ n) 0:=rfl;rw[e];constructor
 ·intro h;have h1:=(iX.1 (hz.1 h)).1;have h2:=Nat.div_eq_of_lt (Nat.lt_of_lt_of_le h1 (iA hn));rwa[k2]at h2
 intro h;refine hz.2 (iX.2 ?_);dsimp only;rw[h,Nat.zero_mul,Nat.zero_add];have:=a.occ;rw[h]at this;exact⟨a.set,this,hm⟩
theorem walk_ok (hn:n≤12){s:Nat×Nat}(h:nG n many s): ∀(k v:Nat),nE (mY aA n (2 ^ n)) [eI n s] k v→xA n (2 ^ n) v∧fV (v%2 ^ n)=many:=by
 intro k;induction k with
 |zero=>
  intro v hv;have:v=eI n s:=by simpa[nE]using hv
  subst this;obtain⟨a,b⟩:=jY (n:=n) h.set;exact⟨⟨by rw[a];exact h.car,by rw[b];exact h.set,by rw[a,b];exact h.occ⟩,by rw[b];exact h.many⟩
 |succ k ih=>rintro v ⟨u,hu,hv⟩;obtain⟨a,b⟩:=ih u hu;exact⟨qZ (Nat.le_refl _) a (oD.1 hv),by rw[oQ (Nat.le_refl _) a.set (oD.1 hv)];exact b⟩
end
end Go.Proofs.YtpelpnfhbepokaaGreatDoor
namespace Go.Proofs.YtpelpnfhbepokaaGreatDoor
open Go.RowKit
set_option linter.unusedVariables false
set_option linter.unusedSimpArgs false
set_option maxHeartbeats 8000000
set_option maxRecDepth 100000
theorem aEm (S:Nat)(w:World)(hS:S≤1099511627776):Calls Tryz.prog 206 #[(S:Int)] w fun e w'=>e= .returned (.int .i64 (fV S:Int))∧w=w':=by
 go_enter Tryz.func206,Tryz.ntmps206;go_wp2;go_loopw [0,3] (fun v i wr=> ∃(T c:Nat),v= .int .i64 (T:Int)∧i= .int .i64 (c:Int)∧c+fV T=fV S∧T≤S∧c+T≤2*S∧w=wr) (fun v _ _=>(intOf v).toNat)
 case atStart=>exact⟨S,0,rfl,rfl,by omega,Nat.le_refl _,by omega,rfl⟩
 case round=>
  obtain⟨T,c,rfl,rfl,h1,h2,h3,rfl⟩:=hrel;by_cases h0:0<T
  ·have t0:decide ((0:Int)<(T:Int))=true:=by simp;omega
   have t1:(T:Int).tmod 2=((T%2:Nat):Int):=rfl;have t2:(T:Int).tdiv 2=((T/2:Nat):Int):=rfl;have hp:=qL T;have hw:IntKind.i64.wrap ((c:Int)+((T%2:Nat):Int))=(c:Int)+((T%2:Nat):Int):=IntWalk.i64_in _ (by omega);have HP:=xQ hp;have H1:=xQ h1;clear hp h1;go_wp2;go_roundw
   case rel=>exact⟨T/2,c+T%2,by first|rfl|go_num,by first|rfl|go_num,by have:=HP.out;have:=H1.out;omega,by omega,by omega,by trivial⟩
   case measure=>simp[intOf];omega
  have t0:decide ((0:Int)<(T:Int))=false:=by simp;omega
  have hc:Hid (c=fV S):=by show _=_;rw[←h1,show T=0 by omega];simp[fV]
  clear h1;go_wp2;go_ret;exact⟨by rw[hc.out];rfl,rfl⟩
def aFz (fr:List Nat):Nat:=fr.foldl (fun a f=>a+2 ^ f) 0
theorem aLy: ∀(l:List Nat) (a:Nat),(∀f∈l,f<12)→l.foldl (fun a f=>a+2 ^ f) a≤a+l.length*4096:=by
 intro l;induction l with
 |nil=>intro a _;simp
 |cons f l ih=>intro a h;have h1:=ih (a+2 ^ f) (fun x hx=>h x (by simp[hx]));have h2:2 ^ f≤4096:=Nat.le_trans (Nat.pow_le_pow_right (by omega) (show f≤11 by have:=h f (by simp);omega)) (by decide);rw[List.foldl_cons,List.length_cons,Nat.succ_mul];omega
theorem aLz {fr:List Nat}(h: ∀f∈fr,f<12)(k:Nat):(fr.take k).foldl (fun a f=>a+2 ^ f) 0≤k*4096:=by
 have h1:=aLy (fr.take k) 0 (fun f hf=>h f (List.mem_of_mem_take hf));have h2:(fr.take k).length≤k:=by rw[List.length_take];omega
 have h3:=Nat.mul_le_mul_right 4096 h2;omega
theorem aKm (xs:List Int):aFz (bE xs)=aM xs:=by
 unfold aFz bE aM;generalize xs.length=k;induction k with
 |zero=>rfl
 |succ k ih=>rw[List.range_succ,List.filter_append,List.foldl_append,ih,show iS (cV xs) (k+1)=iS (cV xs) k+(if cV xs k then 2 ^ k else 0)from rfl];cases h:cV xs k<;>simp[h]
theorem aDw (aA aB:Int)(p:OA)(n cap:Nat)(fr:List Nat)(F:Nat)(w:World)(hF:Hid (fr.length=F))(l:F≤12)(d:Hid (∀x∈fr,x<12))
  (HF:xC 151 #[aH aA aB p n cap] w fun w' e w''=> ∃q c,e= .returned (.slice q F c)∧w''.ownsRow w'.heap.size TI 1 (.slice q F c) F (ivs (bA fr))∧Ext w' w''):
  Calls Tryz.prog 182 #[aH aA aB p n cap] w fun e w'=>e= .returned (.int .i64 (aFz fr:Int))∧Ext w w':=by
 go_enter Tryz.func182,Tryz.ntmps182;go_wp2_with fail;refine(HF _ ((Mem.start w).c0 TH3 #[aA,aB,.slice p n cap]).ext).mono ?_;rintro e w1 ⟨q1,c1,rfl,g,h⟩;have M1:=(((Mem.start w).c0 TH3 #[aA,aB,.slice p n cap]).call h g)
 have j:=M1.hi 1;clear h g;go_wp2;go_loopw [3,5] (fun v i wr=> ∃(k T:Nat),k≤F∧i= .int .i64 (k:Int)∧v= .int .i64 (T:Int)∧T=(fr.take k).foldl (fun a f=>a+2 ^ f) 0∧w1=wr) (fun _ i _=>F-(intOf i).toNat)
 case atStart=>exact⟨0,0,Nat.zero_le _,rfl,rfl,rfl,rfl⟩
 case round=>
  obtain⟨k,T,hk,rfl,rfl,hT,rfl⟩:=hrel;have HT:=xQ hT
  have o:T≤12*4096:=by have:=aLz d.out k;rw[hT];have:k≤12:=by omega
                       omega
  clear hT;by_cases hlt:k<F
  ·obtain⟨f,hf⟩: ∃f,fr[k]? =some f:=⟨_,List.getElem?_eq_getElem (by rw[hF.out];exact hlt)⟩
   have t:f<12:=d.out f (List.mem_of_getElem? hf);obtain⟨gf,rfl,r,s⟩:=M1.so 0;have cu:w1.cell? ⟨gf,k,none⟩=some (.int .i64 (f:Int)):=by have:=(M1.ow 0).cellAt k (by omega);rw[this];simp[ivs,bA,hf]
   have hn:=xQ (show(fr.take (k+1)).foldl (fun a f=>a+2 ^ f) 0=T+2 ^ f by rw[bI hf,List.foldl_append,←HT.out];rfl);clear hf;have i1:(0:Int)≤(k:Int):=by omega
   have i2:(k:Int)<(F:Int):=by omega
   obtain⟨P,hP⟩: ∃P:Nat,P=2 ^ f:=⟨_,rfl⟩
   have m:P≤2048:=by rw[hP];exact Nat.le_trans (Nat.pow_le_pow_right (by omega) (show f≤11 by omega)) (by decide)
   have u:(2:Int) ^ f=(P:Int):=by rw[hP];simp
   have y:IntKind.i64.wrap (P:Int)=(P:Int):=IntWalk.i64_in _ (by omega);have z:IntKind.i64.wrap ((T:Int)+(P:Int))=(T:Int)+(P:Int):=IntWalk.i64_in _ (by omega);rw[←hP]at hn;clear hP;go_wp2;go_roundw
   case rel=>exact⟨k+1,T+P,by omega,by go_num,by first|rfl|go_num,hn.out.symm,by trivial⟩
   case measure=>simp[intOf];omega
  obtain rfl:F=k:=by omega
  have b:Hid ((T:Int)=((aFz fr:Nat):Int)):=by show _=_;rw[HT.out,List.take_of_length_le (by rw[hF.out];omega)];rfl
  go_wp2;go_ret;exact⟨by rw[b.out];rfl,M1.ext⟩
theorem qU (aA aB:Int)(p:OA)(n cap:Nat)(xs:List Int)(w:World)(hS:Sl w p n cap 1 (ivs xs))(a:aN aA aB xs=true):
  Calls Tryz.prog 151 #[aH aA aB p n cap] w fun e w'=> ∃q c,e= .returned (.slice q (bE xs).length c)∧w'.ownsRow w.heap.size TI 1 (.slice q (bE xs).length c) (bE xs).length (ivs (bA (bE xs)))∧Ext w w':=by
 have:=aIz aA aB p n cap xs w hS;rw[a,if_pos rfl,vO]at this;refine this.mono fun e w'' h=> ?_
 obtain⟨q,c,h1,h2,h3⟩:=h;rw[List.length_map]at h1 h2;exact⟨q,c,h1,h2,h3⟩
theorem aKl {aA aB:Int}{xs:List Int}(a:aN aA aB xs=true):(bE xs).length≤12:=by obtain⟨g1,g2,g3,g4,g5,g6,g7⟩:=cG (cK a);unfold bE;exact Nat.le_trans (List.length_filter_le _ _) (by simp;omega)
theorem uZ (aA aB:Int)(p:OA)(n cap:Nat)(xs:List Int)(w:World)(hS:Sl w p n cap 1 (ivs xs))(a:aN aA aB xs=true):
  Calls Tryz.prog 182 #[aH aA aB p n cap] w fun e w'=>e= .returned (.int .i64 (aM xs:Int))∧Ext w w':=by
 have hl:=hS.ilen;obtain⟨g1,g2,g3,g4,g5,g6,g7⟩:=cG (cK a);rw[←aKm];exact aDw aA aB p n cap (bE xs) _ w rfl (aKl a) (fun x hx=>by have:=(jN hx).1;omega) (fun w' hy=>qU aA aB p n cap xs w' (hS.ext hy) a)
abbrev TSS:TypeId:=23
theorem aNg:ElT Tryz.prog 213 TSS 1:=
 ⟨Tryz.underlying213,by
  obtain⟨i,hi,h0,h1,h2⟩:=info_parts (show(Tryz.prog.info? TSS).map (fun i=>(i.zero,i.size,i.bytes))=some (some (.slice none 0 0),1,24) by kernel_rfl)
  exact⟨i,_,hi,h0,h1,by omega,rfl⟩,by omega⟩
def oU (aA:Int)(n k:Nat)(rows:List RowD):Prop:=rows.length=k∧ ∀(j:Nat) (r:RowD),rows[j]? =some r→r.n=(aP aA n j).length∧r.xs=ivs (bA (aP aA n j))
def aB1 (aA:Int)(n:Nat)(w:World)(e:Ending)(w':World):Prop:=
 ∃q c rows,e= .returned (.slice q n c)∧oU aA n n rows∧aB2 w.heap.size TSS TI 1 q c rows w'∧Ext w w'
theorem tG {aA:Int}{n k:Nat}{rows:List RowD}{q:OA}{c:Nat}(h:oU aA n k rows):oU aA n (k+1) (rows++ [⟨q,(aP aA n k).length,c,ivs (bA (aP aA n k))⟩]):=by
 refine⟨by rw[List.length_append,h.1];rfl,fun j r hj=> ?_⟩;by_cases hk:j<k
 ·rw[List.getElem?_append_left (by rw[h.1];exact hk)]at hj;exact h.2 j r hj
 have hl:=(List.getElem?_eq_some_iff.1 hj).1;rw[List.length_append,h.1]at hl;simp at hl;obtain rfl:j=k:=by omega
 rw[List.getElem?_append_right (by rw[h.1];exact Nat.le_refl _),h.1,Nat.sub_self]at hj;simp at hj;subst hj;exact⟨rfl,by simp[ivs,bA]⟩
theorem aGy (aA aB:Int)(p:OA)(n cap:Nat)(w:World)(hn:n≤12)
  (HC:Hid (∀(k:Nat),k<n→ ∀w',Ext w w'→Calls Tryz.prog 228 #[aH aA aB p n cap,(k:Int)] w' (bH (bA (aP aA n k)) w'))):
  Calls Tryz.prog 207 #[aH aA aB p n cap] w (aB1 aA n w):=by
 go_enter Tryz.func207,Tryz.ntmps207;have ME:=(((Mem.start w).c0 TH3 #[aA,aB,.slice p n cap]).made0 TSS 1 (w.heap.size+1) (by simp))
 go_wp2;go_loopw [3,4] (fun v i wr=> ∃(k:Nat) (q:OA) (c:Nat) (rows:List RowD),k≤n∧i= .int .i64 (k:Int)∧v= .slice q k c∧oU aA n k rows∧Mem w wr [gQ w.heap.size TI 1 rows,aI w.heap.size TSS 1 (q) (k) (c) (rows.map RowD.v),aJ w.heap.size (w.heap.size) TH3 #[aA,aB,.slice p n cap]]) (fun _ i _=>n-(intOf i).toNat)
 case atStart=>exact⟨0,some ⟨w.heap.size+1,0,none⟩,0,[],Nat.zero_le _,rfl,rfl,⟨rfl,fun j r h=>by simp at h⟩,ME.rows0 rfl⟩
 case round=>
  clear ME;obtain⟨k,q,c,rows,hk,rfl,rfl,a,hM⟩:=hrel;have HM:=hM;have HR:=xQ a;clear hM a;have f:=(HM.hi 2)
  obtain⟨c0,c1,c2⟩:=(HM.bk 2).tri;by_cases hlt:k<n
  ·go_wp2_with fail;clear c0 c1 c2;refine(HC k hlt _ HM.ext).mono ?_;rintro e w2 ⟨q2,c2,rfl,o2,b⟩;rw[List.length_map]at o2⊢;have M2:=(HM.call b o2)
   have M3:=(M2.rowsAdd rfl)
   have d:=xQ (tG (q:=q2) (c:=c2) HR.out);clear o2 b M2 HM HR;go_wp2_with (at_builtin;go_loud (refine cR aNg rfl _ _ rfl (M3.adv ((Ext.refl _).alloc (.cells #[.slice q2 (aP aA n k).length c2] TSS))) 1 rfl rfl [.slice q2 (aP aA n k).length c2] rfl (eU _ _ _ 1 1 _ (by first|rfl|simp) (by first|rfl|simp) (by simp[maxLen])) (fun u hu=>by obtain rfl:=List.mem_singleton.1 hu;rfl) (by omega) ?_;intro q7 c7 w6 M6));have M7:=(show Mem w w6 [gQ w.heap.size TI 1 (rows++ [⟨q2,(aP aA n k).length,c2,ivs (bA (aP aA n k))⟩]),aI w.heap.size TSS 1 q7 (k+1) c7 ((rows++ [⟨q2,(aP aA n k).length,c2,ivs (bA (aP aA n k))⟩]:List RowD).map RowD.v),aJ w.heap.size (w.heap.size) TH3 #[aA,aB,.slice p n cap]]from by rw[List.map_append];exact M6)
   clear M6 M3;go_wp2;go_roundw
   case rel=>exact⟨k+1,q7,c7,_,by omega,by go_num,rfl,d.out,M7⟩
   case measure=>simp[intOf];omega
  obtain rfl:n=k:=by omega
  go_wp2;go_ret;have hl:=HR.out.1;have h1:=HM.ow 1;refine⟨q,c,rows,rfl,HR.out,⟨?_,fun r hr=>HM.ok (gQ w.heap.size TI 1 rows) (by simp) r hr⟩,HM.ext⟩;rw[hl];exact h1
theorem aA4 (aA aB:Int)(p:OA)(n cap:Nat)(xs:List Int)(w:World)(hS:Sl w p n cap 1 (ivs xs))(a:aN aA aB xs=true):
  Calls Tryz.prog 207 #[aH aA aB p n cap] w (aB1 aA n w):=by
 have hl:=hS.ilen;obtain⟨g1,g2,g3,g4,g5,g6,g7⟩:=cG (cK a)
 exact aGy aA aB p n cap w (by omega) (fun k hk w' hx=>by
  have:=aE0 aA aB k p n cap xs w' (hS.ext hx) a (by omega) (by omega)
  rwa[kQ]at this)
end Go.Proofs.YtpelpnfhbepokaaGreatDoor
namespace Go.Proofs.YtpelpnfhbepokaaGreatDoor
open Go.RowKit
theorem aGa (S h:Nat):S.testBit h=decide (S/2 ^ h%2=1):=by exact Nat.testBit_eq_decide_div_mod_eq
def kD (k:Nat):List Int:=List.replicate k (-1)++List.replicate (NN-k) 0
theorem aEi {k:Nat}(h:k<NN):(kD k).set k (-1)=kD (k+1):=by
 unfold kD;obtain⟨m,hm⟩: ∃m,NN-k=m+1:=⟨NN-k-1,by omega⟩
 rw[hm,show NN-(k+1)=m by omega,List.replicate_succ];rw[List.set_append_right _ _ (by rw[List.length_replicate];exact Nat.le_refl _),List.length_replicate,Nat.sub_self,List.set_cons_zero,List.replicate_succ',List.append_assoc];rfl
theorem aEj {k:Nat}(h:k<NN):(kD k)[k]? =some 0:=by unfold kD;rw[List.getElem?_append_right (by rw[List.length_replicate];exact Nat.le_refl _),List.length_replicate,Nat.sub_self];rw[List.getElem?_replicate,if_pos (by omega)]
def eO (many m:Nat):List Nat:=(List.range m).filter (fun s=> !s.testBit 0&&decide (fV s=many))
theorem aEk (many:Nat):kD NN=iL NN (eO many 0):=by unfold kD iL eO;rw[Nat.sub_self,List.replicate_zero,List.append_nil];rfl
theorem aB8 {many m:Nat}(hm:m%2=0):eO many (m+2)=eO many m++(if fV m=many then [m]else []):=by
 unfold eO;rw[List.range_succ,List.range_succ,List.filter_append,List.filter_append,List.append_assoc];have h0:m.testBit 0=false:=by rw[Nat.testBit_zero];simp;omega
 have h1:(m+1).testBit 0=true:=by rw[Nat.testBit_zero];simp;omega
 congr 1;by_cases hp:fV m=many
 ·simp only[List.filter_cons,List.filter_nil,h0,h1];simp[hp]
 simp only[List.filter_cons,List.filter_nil,h0,h1];simp[hp]
theorem aB9 (many m:Nat):(eO many m).length≤m:=by unfold eO;exact Nat.le_trans (List.length_filter_le _ _) (by simp)
def fB (aA:Int)(n M s h:Nat):List Nat:=if(s%M).testBit h then((aP aA n h).filter (fun f=> !(s%M).testBit f)).map (fun f=>fO M (s/M) (s%M) f h)else []
def iN (aA:Int)(n M s h:Nat):List Nat:=(List.range h).flatMap (fB aA n M s)
def jH (aA:Int)(n M s h j:Nat):List Nat:=(((aP aA n h).take j).filter (fun f=> !(s%M).testBit f)).map (fun f=>fO M (s/M) (s%M) f h)
theorem rX (aA:Int)(n M s:Nat):iN aA n M s n=wB aA n M s:=rfl
theorem uU (aA:Int)(n M s h:Nat):iN aA n M s (h+1)=iN aA n M s h++fB aA n M s h:=by unfold iN;rw[List.range_succ,List.flatMap_append];simp
theorem aNe {aA:Int}{n M s h:Nat}(hb:(s%M).testBit h=false):fB aA n M s h= []:=by unfold fB;rw[hb];rfl
theorem aKp {aA:Int}{n M s h:Nat}(hb:(s%M).testBit h=true):fB aA n M s h=jH aA n M s h (aP aA n h).length:=by unfold fB jH;rw[if_pos hb,List.take_length]
theorem aEb (aA:Int)(n M s h:Nat):jH aA n M s h 0= []:=rfl
theorem aJm {aA:Int}{n M s h j f:Nat}(hj:(aP aA n h)[j]? =some f) (hb:(s%M).testBit f=true):jH aA n M s h (j+1)=jH aA n M s h j:=by unfold jH;rw[bI hj,List.filter_append];simp[hb]
theorem aH6 {aA:Int}{n M s h j f:Nat}(hj:(aP aA n h)[j]? =some f) (hb:(s%M).testBit f=false):jH aA n M s h (j+1)=jH aA n M s h j++ [fO M (s/M) (s%M) f h]:=by unfold jH;rw[bI hj,List.filter_append];simp[hb]
theorem aEc {aA:Int}{n M s h j:Nat}(hh:h<n)(hb:(s%M).testBit h=true): ∀v∈iN aA n M s h++jH aA n M s h j,v∈wB aA n M s:=by
 intro v hv;rw[←rX];unfold iN;rw[List.mem_flatMap];rcases List.mem_append.1 hv with hv|hv
 ·unfold iN at hv;obtain⟨a,ha,hm⟩:=List.mem_flatMap.1 hv;exact⟨a,List.mem_range.2 (by have:=List.mem_range.1 ha;omega),hm⟩
 refine⟨h,List.mem_range.2 hh,?_⟩;rw[aKp hb];unfold jH at hv⊢;obtain⟨f,hf,rfl⟩:=List.mem_map.1 hv;obtain⟨h1,h2⟩:=List.mem_filter.1 hf;exact List.mem_map.2 ⟨f,List.mem_filter.2 ⟨by rw[List.take_length];exact List.mem_of_mem_take h1,h2⟩,rfl⟩
theorem aH7 {aA:Int}{n M s h:Nat}(hh:h≤n): ∀v∈iN aA n M s h,v∈wB aA n M s:=by intro v hv;rw[←rX];unfold iN at hv⊢;obtain⟨a,ha,hm⟩:=List.mem_flatMap.1 hv;exact List.mem_flatMap.2 ⟨a,List.mem_range.2 (by have:=List.mem_range.1 ha;omega),hm⟩
theorem aBx {adj:Nat→List Nat}{src:List Nat}{N k u:Nat}{D:List Int}{Q:List Nat}(h:Inv adj src N k (D,Q))(hu:Q[k]? =some u) (ha: ∀v∈adj u,v<N) {vs:List Nat} (hv: ∀v∈vs,v∈adj u) {D2:List Int} {Q2:List Nat} (he:(D2,Q2)=bF (D.getD u 0+1) (D,Q) vs):
  Mid adj src N k u vs (D,Q) (D2,Q2):=by
 rw[he];have:=Mid.many (List.mem_of_getElem? hu) vs [] (D,Q) (h.mid hu) (fun v hv'=>⟨hv v hv',ha v (hv v hv')⟩);simpa using this
end Go.Proofs.YtpelpnfhbepokaaGreatDoor
