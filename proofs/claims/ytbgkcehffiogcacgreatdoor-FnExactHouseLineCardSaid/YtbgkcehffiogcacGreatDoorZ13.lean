/-
  Texts of this proof, packed (@packed).
-/
import Derived.Test.YtbgkcehffiogcacGreatDoorZ11
import Derived.Test.YtbgkcehffiogcacGreatDoorZ12
namespace Go.Proofs.YtbgkcehffiogcacGreatDoor
open Go.RowKit
set_option linter.unusedSimpArgs false
set_option linter.unusedVariables false
set_option maxHeartbeats 8000000
set_option maxRecDepth 100000
section
def aCb (adj:Nat→List Nat):Nat→Nat→List Int×List Nat→List Int×List Nat
 |0,_,s=>s
 |m+1,k,s=>match s.2[k]? with
  |none=>s
  |some u=>aCb adj m (k+1) (bQ (s.1.getD u 0+1) s (adj u))
theorem aEt {adj:Nat→List Nat}{src:List Nat}{N:Nat}(ha: ∀u v,u<N→v∈adj u→v<N): ∀(m k:Nat) (s:List Int×List Nat),Inv adj src N k s→N≤k+m→sU adj src N (aCb adj m k s).1:=by
 intro m;induction m with
 |zero=>intro k s hI hk;exact hI.dist (aQy hI.qlen (by omega))
 |succ m ih=>
  intro k s hI hk;rw[aCb];cases hu:s.2[k]? with
  |none=>exact hI.dist (by rw[List.getElem?_eq_none_iff]at hu;exact hu)
  |some u=>exact ih (k+1) _ (hI.step hu (fun v hv=>ha _ v (hI.bd _ (aQq hu)) hv)) (by omega)
def gJ (aA:Int)(n many:Nat):List Int:=(aCb (xZ aA n MM) NN 0 (iV NN (vY n many),vY n many)).1
theorem lU {aA:Int}{n many:Nat}(hn:n≤12):eX aA n many (gJ aA n many):=
 aEt (sS hn) _ _ _ (Inv.begin (aHk hn) vX) (by omega)
abbrev jE (e:Nat×Nat):Sl2:=((e.1:Int),(e.2:Int))
def oI (aA:Int)(n:Nat)(dd:Nat→Nat→Int)(s:Nat×Nat)(j:Nat):List Sl2:=(List.range j).map (fun i=>jE (gI aA n dd s i))
theorem oK (aA:Int)(n:Nat)(dd:Nat→Nat→Int)(s:Nat×Nat)(j:Nat):(oI aA n dd s j).length=j:=by simp[oI]
theorem zB (aA:Int)(n:Nat)(dd:Nat→Nat→Int)(s:Nat×Nat)(j:Nat):oI aA n dd s (j+1)=oI aA n dd s j++ [jE (gI aA n dd s j)]:=by simp[oI,aS7]
def ddH (aA:Int)(xs:List Int):Nat→Nat→Int:=aV (gJ aA xs.length (bP xs).length)
def dP (aA:Int)(xs:List Int)(c:Nat):Option (List Sl2):=
 if ddH aA xs c (aN xs)<0 then none else some (oI aA xs.length (ddH aA xs) (c,aN xs) (ddH aA xs c (aN xs)).toNat)
theorem kX {xs:List Int}{c:Nat}{id:Int}(hc:xs[c]? =some id) (h0:id≠0):oJ xs.length (bP xs).length (c,aN xs):=by obtain⟨hl,he⟩:=aQr.1 hc;refine⟨hl,nY xs,?_,aC2 xs⟩;show(aN xs).testBit c=false;rw[eQ,fS hl,aQs,hc];simpa using h0
section
variable {aA aB:Int} {xs:List Int} {c:Nat} {id:Int} {D:List Int}
theorem aKx (h:aO aA aB xs=true)(hc:xs[c]? =some id) (h0:id≠0) (hD:eX aA xs.length (bP xs).length D) {d:Nat} (hd:aV D c (aN xs)=d):
  ∀j,j≤d→ ∃ys,bA aA aB xs (oI aA xs.length (aV D) (c,aN xs) j)=(ys,j)∧aO aA aB ys=true∧ys.length=xs.length∧aN ys=(gP aA xs.length (aV D) (c,aN xs) j).2∧ys[(gP aA xs.length (aV D) (c,aN xs) j).1]? =some id:=by
 obtain⟨b1,b2,b3,b4,b5,b6,b7⟩:=cC (cP h);have hp:=kX hc h0;intro j;induction j with
 |zero=>intro _;exact⟨xs,rfl,h,rfl,rfl,hc⟩
 |succ j ih=>
  intro hj;obtain⟨ys,h1,h2,h3,h4,h5⟩:=ih (by omega);obtain⟨e1,e2,e3⟩:=kM b5 b6 hD hp hd (show j<d by omega);have hw:=zB aA xs.length (aV D) (c,aN xs) j;generalize gI aA xs.length (aV D) (c,aN xs) j=e at*;obtain⟨f,t⟩:=e;rw[←h4,←h3]at e2;obtain⟨m1,m2,m3,m4⟩:=tV h2 e2;refine⟨bH aA aB ys (f:Int) (t:Int),?_,iP _ _ h2,by rw[cZ,h3],?_,?_⟩
  ·rw[hw,qI _ _ _ (by rw[h1,oK]),h1,oK];dsimp only;rw[if_pos m1]
  ·rw[m3,e3,h4];rfl
  rw[e3];exact m4 _ _ h5 h0
theorem tY (h:aO aA aB xs=true)(hc:xs[c]? =some id) (h0:id≠0) (hD:eX aA xs.length (bP xs).length D):(bP xs≠ []→0≤aV D c (aN xs)∧aV D c (aN xs)≤60)∧(c=0→aV D c (aN xs)=0)∧(bP xs= []→c≠0→aV D c (aN xs)<0):=by
 obtain⟨b1,b2,b3,b4,b5,b6,b7⟩:=cC (cP h);have hp:=kX hc h0;obtain⟨k1,k2,k3⟩:=nP b6 hp;refine⟨fun hf=> ?_,fun hc0=> ?_,fun hf hc0=> ?_⟩
 ·obtain⟨u,hu⟩:=List.exists_mem_of_ne_nil _ hf;obtain⟨u1,u2⟩:=kD hu;have hb:(aN xs).testBit u=true:=by rw[eQ,fS u1,u2];rfl
  have hg:=kA h;obtain⟨a,b⟩:=aNk hg b5 b6 hD _ _ u (aQn _) k1 (by rw[k3];exact hp.many) (by rw[k3];exact hb);rw[k2]at b;exact⟨a,Int.le_trans b (by have:=(wK hg hp.car u1).1;exact_mod_cast this)⟩
 ·subst hc0;refine(hD.zero _ (oR b6 k1)).2 (jJ.2 ?_);rw[Nat.zero_mul,aRq];exact⟨hp.set,hp.occ,hp.many⟩
 rcases Int.lt_or_le (aV D c (aN xs)) 0 with f|d
 ·exact f
 exfalso;rcases Int.lt_or_eq_of_le d with h1|h1
 ·obtain⟨e,e1,e2,_⟩:=tK b5 b6 hD hp h1;obtain⟨_,g2,_,_,g5⟩:=fJ.1 e2;have hm:e.2∈bP xs:=by
   unfold bP;rw[aRf];exact⟨aR3.2 g2,by rw[←eQ];exact g5⟩
  rw[hf]at hm;cases hm
 have hz:=(hD.zero _ (oR b6 k1)).1 h1.symm;have h2:=(jJ.1 hz).1;have h3:=Nat.div_eq_of_lt (aQm h2 (iJ b6));rw[k2]at h3;exact hc0 h3
theorem aKu (h:aO aA aB xs=true)(hc:xs[c]? =some id) (h0:id≠0) (hD:eX aA xs.length (bP xs).length D):
  (0≤aV D c (aN xs)↔0≤ddH aA xs c (aN xs))∧(0≤aV D c (aN xs)→aV D c (aN xs)=ddH aA xs c (aN xs)∧oI aA xs.length (aV D) (c,aN xs) (aV D c (aN xs)).toNat=oI aA xs.length (ddH aA xs) (c,aN xs) (ddH aA xs c (aN xs)).toNat):=by
 obtain⟨b1,b2,b3,b4,b5,b6,b7⟩:=cC (cP h);have hp:=kX hc h0;have hE:=lU (aA:=aA) (many:=(bP xs).length) b6;obtain⟨s1,s2⟩:=aAa hD hE (oR b6 (nP b6 hp).1);refine⟨s1,fun h1=> ?_⟩;have e1:aV D c (aN xs)=ddH aA xs c (aN xs):=s2 h1;refine⟨e1,?_⟩;obtain⟨d,hd⟩:=aSh h1;rw[←e1,hd];unfold oI;refine List.map_congr_left fun i hi=> ?_
 have:=aR3.1 hi;rw[aH9 b5 b6 hD hE hp hd (show i<d by simpa using this)];rfl
theorem xW (h:aO aA aB xs=true)(hc:xs[c]? =some id) (h0:id≠0) (hD:eX aA xs.length (bP xs).length D):dP aA xs c=if aV D c (aN xs)<0 then none else some (oI aA xs.length (aV D) (c,aN xs) (aV D c (aN xs)).toNat):=by
 obtain⟨a,b⟩:=aKu h hc h0 hD;unfold dP;by_cases h1:0≤aV D c (aN xs)
 ·rw[if_neg (by have:=a.1 h1;omega),if_neg (by omega),(b h1).2]
 rw[if_pos (by have:=fun x=>h1 (a.2 x);omega),if_pos (by omega)]
theorem pJ (h:aO aA aB xs=true)(hc:xs[c]? =some id) (h0:id≠0):(dP aA xs c=none↔bP xs= []∧c≠0)∧ ∀l,dP aA xs c=some l→l.length≤60∧ ∃ys,bA aA aB xs l=(ys,l.length)∧aO aA aB ys=true∧ys.length=xs.length∧ys[0]? =some id:=by
 obtain⟨b1,b2,b3,b4,b5,b6,b7⟩:=cC (cP h);have hE:=lU (aA:=aA) (many:=(bP xs).length) b6;obtain⟨n1,n2,n3⟩:=tY h hc h0 hE;have e:ddH aA xs c (aN xs)=aV (gJ aA xs.length (bP xs).length) c (aN xs):=rfl;constructor
 ·unfold dP;rw[e];constructor
  ·intro hn;by_cases hf:bP xs= []
   ·refine⟨hf,fun hc0=> ?_⟩;rw[n2 hc0]at hn;simp at hn
   rw[if_neg (by have:=(n1 hf).1;omega)]at hn;cases hn
  rintro⟨hf,hc0⟩;rw[if_pos (n3 hf hc0)]
 intro l hl;unfold dP at hl;rw[e]at hl;by_cases h1:aV (gJ aA xs.length (bP xs).length) c (aN xs)<0
 ·rw[if_pos h1]at hl;cases hl
 rw[if_neg h1]at hl;injection hl with hl;obtain⟨d,hd⟩:=aSh (show 0≤aV (gJ aA xs.length (bP xs).length) c (aN xs) by omega);have a:l.length=d:=by rw[←hl,oK,hd];rfl
 have b:d≤60:=by
  by_cases hf:bP xs= []
  ·by_cases hc0:c=0
   ·have:=n2 hc0;omega
   exact absurd (n3 hf hc0) h1
  have:=(n1 hf).2;omega
 refine⟨by omega,?_⟩;obtain⟨ys,w1,w2,w3,w4,w5⟩:=aKx h hc h0 hE hd d (aQn _);have hz:=(aN5 b5 b6 hE (kX hc h0) hd (aQn d)).2 rfl;rw[hz]at w5;refine⟨ys,?_,w2,w3,w5⟩;rw[a,←w1,←hl,hd];rfl
end
def mI (aA aB:Int)(xs:List Int)(id:Int):Option (List Int×Nat):=
 if id<1∨id∉xs then none else(dP aA xs (qF xs id).toNat).map (fun l=>((bA aA aB xs l).1.set 0 0,l.length))
/-! the other search: its states, coded by 2^n -/
def eV (n:Nat)(s:Nat×Nat):Nat:=s.1*2 ^ n+s.2
def ddM (n:Nat)(dd:Nat→Nat→Int)(v:Nat):Int:=dd (v/2 ^ n) (v%2 ^ n)
theorem kO {n:Nat}{s:Nat×Nat}(h:s.2<2 ^ n):eV n s/2 ^ n=s.1∧eV n s%2 ^ n=s.2:=⟨lV h,gY h⟩
theorem xT {n:Nat}{dd:Nat→Nat→Int}{s:Nat×Nat}(h:s.2<2 ^ n):ddM n dd (eV n s)=dd s.1 s.2:=by obtain⟨a,b⟩:=kO h;unfold ddM;rw[a,b]
section
variable {aA:Int} {n many:Nat} {D:List Int}
theorem aKq {s:Nat×Nat}(h:s.2<2 ^ n):oB aA n (2 ^ n) (eV n s)=(eJ aA n s.2).map (fun e=>eV n (jT s e)):=by obtain⟨a,b⟩:=kO h;unfold oB;rw[a,b];rfl
theorem sP {s:Nat×Nat}(h1:s.1<n)(h2:s.2<2 ^ n):eV n s<n*2 ^ n:=by unfold eV;have:(s.1+1)*2 ^ n≤n*2 ^ n:=aRg _ h1;rw[aRz]at this;omega
theorem xL (c:4≤n)(hn:n≤12)(hD:eX aA n many D){s:Nat×Nat}(h:oJ n many s){d:Nat}(hd:aV D s.1 s.2=d):
  oD (oB aA n (2 ^ n)) (ddM n (aV D)) (fun j=>eV n (gP aA n (aV D) s j)) d (eV n s):=by
 refine⟨rfl,fun j hj=> ?_,fun j hj=> ?_⟩
 ·obtain⟨a,b⟩:=jN c hn hD h hd j hj;show ddM n (aV D) (eV n (gP aA n (aV D) s j))=_;rw[xT a.set,b]
 obtain⟨a,b⟩:=jN c hn hD h hd j (by omega);obtain⟨e1,e2,e3⟩:=kM c hn hD h hd hj;rw[aKq a.set,xT a.set,e3];rw[List.find?_map];have f:(eJ aA n (gP aA n (aV D) s j).2).find? ((fun v=>decide (ddM n (aV D) v=aV D (gP aA n (aV D) s j).1 (gP aA n (aV D) s j).2-1))∘fun e=>eV n (jT (gP aA n (aV D) s j) e))=mB aA n (aV D) (gP aA n (aV D) s j):=by
  unfold mB;have k2: ∀l:List (Nat×Nat),(∀e∈l,e∈eJ aA n (gP aA n (aV D) s j).2)→l.find? ((fun v=>decide (ddM n (aV D) v=aV D (gP aA n (aV D) s j).1 (gP aA n (aV D) s j).2-1))∘fun e=>eV n (jT (gP aA n (aV D) s j) e))=l.find? (fun e=>decide (aV D (dN (gP aA n (aV D) s j).1 e.1 e.2) (dA (gP aA n (aV D) s j).2 e.1 e.2)=aV D (gP aA n (aV D) s j).1 (gP aA n (aV D) s j).2-1)):=by
   intro l;induction l with
   |nil=>intro _;rw[List.find?_nil,List.find?_nil]
   |cons e l ih=>intro hl;rw[List.find?_cons,List.find?_cons,ih (fun x hx=>hl x (by simp[hx]))];have hp:=(aB8 hn a (hl e (by simp))).2;have:ddM n (aV D) (eV n (jT (gP aA n (aV D) s j) e))=aV D (dN (gP aA n (aV D) s j).1 e.1 e.2) (dA (gP aA n (aV D) s j).2 e.1 e.2):=xT hp.set;simp only[Function.comp_apply,this]
  exact k2 _ (fun e he=>he)
 rw[f,e1];rfl
theorem sJ (e:4≤n)(hn:n≤12)(hD:eX aA n many D):aEy (oB aA n (2 ^ n)) (ddM n (aV D)) (n*2 ^ n):=by
 have c:0<2 ^ n:=aT3 n;have bd: ∀u v,u<n*2 ^ n→v∈oB aA n (2 ^ n) u→v/2 ^ n<n∧v%2 ^ n<2 ^ n:=fun u v hu hv=>aHx (aQn _) ((Nat.div_lt_iff_lt_mul c).2 hu) (Nat.mod_lt _ c) (pK.1 hv)
 refine⟨fun u v hu hv h0=> ?_,fun u v hu hv=> ?_⟩
 ·obtain⟨f,t,h1,h2,h3,h4,h5,h6,h7,h8⟩:=lF (aQn _) (Nat.mod_lt u c) (pK.1 hv);have hc:=(Nat.div_lt_iff_lt_mul c).2 hu;have hS:=Nat.mod_lt u c;have g:u/2 ^ n*MM+u%2 ^ n<NN:=by
   have:=iJ hn;show u/2 ^ n*4096+u%2 ^ n<49152;have h4:(MM:Nat)=4096:=rfl;omega
  obtain⟨k,hk⟩:=aSh h0;obtain⟨u1,u2⟩:=aHz e hn hD k _ g hk;have d:u%2 ^ n<MM:=aQm hS (iJ hn);have hE:rC aA n MM (u/2 ^ n*MM+u%2 ^ n) (v/2 ^ n*MM+v%2 ^ n):=⟨f,t,h1,h2,h3,by rw[gY d];exact h4,by rw[gY d];exact h5,by rw[lV d,gY d,h6,h7];rfl⟩
  obtain⟨a,b⟩:=aAc e hn hD u1 hE;exact⟨a.1 h0,(b h0).1⟩
 obtain⟨a,b⟩:=bd u v hu hv;have:=sP (s:=(v/2 ^ n,v%2 ^ n)) a b;unfold eV at this;rw[Nat.mul_comm (v/2 ^ n),aSz]at this;exact this
theorem aNn (b:4≤n)(hn:n≤12)(hD:eX aA n many D){v:Nat}(hv:v<n*2 ^ n)(a:zA n (2 ^ n) v)(hm:gQ (v%2 ^ n)=many):ddM n (aV D) v=0↔v/2 ^ n=0:=by
 have hp:oJ n many (v/2 ^ n,v%2 ^ n):=⟨a.car,a.set,a.occ,hm⟩
 obtain⟨k1,k2,k3⟩:=nP hn hp;have hz:=hD.zero _ (oR hn k1);have e:ddM n (aV D) v=D.getD ((v/2 ^ n)*MM+v%2 ^ n) 0:=rfl;rw[e];constructor
 ·intro h;have h1:=(jJ.1 (hz.1 h)).1;have h2:=Nat.div_eq_of_lt (aQm h1 (iJ hn));rwa[k2]at h2
 intro h;refine hz.2 (jJ.2 ?_);dsimp only;rw[h,Nat.zero_mul,aRq];have:=a.occ;rw[h]at this;exact⟨a.set,this,hm⟩
theorem walk_ok (hn:n≤12){s:Nat×Nat}(h:oJ n many s): ∀(k v:Nat),oH (oB aA n (2 ^ n)) [eV n s] k v→zA n (2 ^ n) v∧gQ (v%2 ^ n)=many:=by
 intro k;induction k with
 |zero=>
  intro v hv;have:v=eV n s:=by simpa[oH]using hv
  subst this;obtain⟨a,b⟩:=kO (n:=n) h.set;exact⟨⟨by rw[a];exact h.car,by rw[b];exact h.set,by rw[a,b];exact h.occ⟩,by rw[b];exact h.many⟩
 |succ k ih=>rintro v ⟨u,hu,hv⟩;obtain⟨a,b⟩:=ih u hu;exact⟨sM (aQn _) a (pK.1 hv),by rw[qA (aQn _) a.set (pK.1 hv)];exact b⟩
end
end
section
open Go.Proofs.Tryz
theorem aGe (S:Nat)(w:World)(hS:S≤1099511627776):U 171 #[S] w fun e w'=>e= .returned (I (gQ S))∧w=w':=by
 go_enter func171,ntmps171;go_wp2;go_loopw [0,3] (fun v i wr=> ∃(T c:Nat),v=I T∧i=I c∧c+gQ T=gQ S∧T≤S∧c+T≤2*S∧w=wr) (fun v _ _=>(intOf v).toNat)
 case atStart=>exact⟨S,0,rfl,rfl,by omega,aQn _,by omega,rfl⟩
 case round=>
  obtain⟨T,c,rfl,rfl,h1,h2,h3,rfl⟩:=hrel;by_cases h0:0<T
  ·have t1:(T:Int).tmod 2=((T%2:Nat):Int):=rfl;have t2:(T:Int).tdiv 2=((T/2:Nat):Int):=rfl;have hp:=rR T;have hw:IntKind.i64.wrap ((c:Int)+((T%2:Nat):Int))=(c:Int)+((T%2:Nat):Int):=aQp _ (by omega);have HP:=xQ hp;have H1:=xQ h1;clear hp h1;go_wp2;go_roundw
   case rel=>exact⟨T/2,c+T%2,by first|rfl|go_num,by first|rfl|go_num,by have:=HP.out;have:=H1.out;omega,by omega,by omega,by trivial⟩
   case measure=>simp[intOf];omega
  have hc:Hid (c=gQ S):=by show _=_;rw[←h1,show T=0 by omega];simp[gQ]
  clear h1;go_wp2;go_ret;exact⟨by rw[hc.out];rfl,rfl⟩
def aHs (fr:List Nat):Nat:=fr.foldl (fun a f=>a+2 ^ f) 0
theorem aOz: ∀(l:List Nat) (a:Nat),(∀f∈l,f<12)→l.foldl (fun a f=>a+2 ^ f) a≤a+l.length*4096:=by
 intro l;induction l with
 |nil=>intro a _;simp
 |cons f l ih=>intro a h;have h1:=ih (a+2 ^ f) (fun x hx=>h x (by simp[hx]));have h2:2 ^ f≤4096:=aQy (aQx (by omega) (show f≤11 by have:=h f (by simp);omega)) (by decide);rw[List.foldl_cons,aRm,aRz];omega
theorem aP0 {fr:List Nat}(h: ∀f∈fr,f<12)(k:Nat):(fr.take k).foldl (fun a f=>a+2 ^ f) 0≤k*4096:=by
 have h1:=aOz (fr.take k) 0 (fun f hf=>h f (aSc hf));have h2:(fr.take k).length≤k:=by rw[aRc];omega
 omega
theorem aN9 (xs:List Int):aHs (bP xs)=aN xs:=by
 unfold aHs bP aN;generalize xs.length=k;induction k with
 |zero=>rfl
 |succ k ih=>rw[aS7,aRj,List.foldl_append,ih,show jF (cV xs) (k+1)=jF (cV xs) k+(if cV xs k then 2 ^ k else 0)from rfl];cases h:cV xs k<;>simp[h]
theorem aFl (aA aB:Int)(p:OA)(n cap:Nat)(fr:List Nat)(F:Nat)(w:World)(hF:Hid (fr.length=F))(j:F≤12)(d:Hid (∀x∈fr,x<12))
  (HF:xC 144 #[aH aA aB p n cap] w fun w' e w''=> ∃q c,e= .returned (.slice q F c)∧w''.ownsRow w' TI 1 (.slice q F c) F (ivs (bF fr))∧Ext w' w''):
  U 141 #[aH aA aB p n cap] w (O (I (aHs fr)) w):=by
 go_enter func141,ntmps141;go_wp2_with fail;refine(HF _ ((Mem.start w).c0 TH3 #[aA,aB,.slice p n cap]).ext).mono ?_;rintro e w1 ⟨q1,c1,rfl,g,h⟩;have M1:=(((Mem.start w).c0 TH3 #[aA,aB,.slice p n cap]).call h g)
 clear h g;go_wp2;go_loopw [3,5] (fun v i wr=> ∃(k T:Nat),k≤F∧i=I k∧v=I T∧T=(fr.take k).foldl (fun a f=>a+2 ^ f) 0∧w1=wr) (fun _ i _=>F-(intOf i).toNat)
 case atStart=>exact⟨0,0,aQt _,rfl,rfl,rfl,rfl⟩
 case round=>
  obtain⟨k,T,hk,rfl,rfl,hT,rfl⟩:=hrel;have HT:=xQ hT
  have m:T≤12*4096:=by have:=aP0 d.out k;rw[hT];have:k≤12:=by omega
                       omega
  clear hT;by_cases hlt:k<F
  ·obtain⟨f,hf⟩: ∃f,fr[k]? =some f:=⟨_,aQo (by rw[hF.out];exact hlt)⟩
   have s:f<12:=d.out f (aQq hf);obtain⟨gf,rfl,o,r⟩:=M1.so 0;have cu:w1.cell? ⟨gf,k,none⟩=some (I f):=by have:=(M1.ow 0).cellAt k (by omega);rw[this];simp[ivs,bF,hf]
   have hn:=xQ (show(fr.take (k+1)).foldl (fun a f=>a+2 ^ f) 0=T+2 ^ f by rw[bC hf,List.foldl_append,←HT.out];rfl);clear hf;have i1:(0:Int)≤(k:Int):=by omega
   have i2:(k:Int)<(F:Int):=by omega
   obtain⟨P,hP⟩: ∃P:Nat,P=2 ^ f:=⟨_,rfl⟩
   have l:P≤2048:=by rw[hP];exact aQy (aQx (by omega) (show f≤11 by omega)) (by decide)
   have t:(2:Int) ^ f=(P:Int):=by rw[hP];simp
   have u:IntKind.i64.wrap (P:Int)=(P:Int):=aQp _ (by omega);have y:IntKind.i64.wrap ((T:Int)+(P:Int))=(T:Int)+(P:Int):=aQp _ (by omega);rw[←hP]at hn;clear hP;go_wp2;go_roundw
   case rel=>exact⟨k+1,T+P,by omega,by go_num,by first|rfl|go_num,hn.out.symm,by trivial⟩
   case measure=>simp[intOf];omega
  obtain rfl:F=k:=by omega
  have b:Hid ((T:Int)=((aHs fr:Nat):Int)):=by show _=_;rw[HT.out,aQu (by rw[hF.out];omega)];rfl
  go_wp2;go_ret;exact⟨by rw[b.out];rfl,M1.ext⟩
theorem sI (aA aB:Int)(p:OA)(n cap:Nat)(xs:List Int)(w:World)(hS:Sl w p n cap 1 (ivs xs))(a:aO aA aB xs=true):
  U 144 #[aH aA aB p n cap] w fun e w'=> ∃q c,e= .returned (.slice q (bP xs).length c)∧w'.ownsRow w TI 1 (.slice q (bP xs).length c) (bP xs).length (ivs (bF (bP xs)))∧Ext w w':=by
 have:=aFi aA aB p n cap xs w hS;rw[a,if_pos rfl,xM]at this;refine this.mono fun e w'' h=> ?_
 obtain⟨q,c,h1,h2,h3⟩:=h;rw[aRb]at h1 h2;exact⟨q,c,h1,h2,h3⟩
theorem aN8 {aA aB:Int}{xs:List Int}(a:aO aA aB xs=true):(bP xs).length≤12:=by obtain⟨g1,g2,g3,g4,g5,g6,g7⟩:=cC (cP a);unfold bP;exact aQy (aRr _ _) (by simp;omega)
theorem wS (aA aB:Int)(p:OA)(n cap:Nat)(xs:List Int)(w:World)(hS:Sl w p n cap 1 (ivs xs))(a:aO aA aB xs=true):
  U 141 #[aH aA aB p n cap] w (O (I (aN xs)) w):=by
 have hl:=hS.ilen;obtain⟨g1,g2,g3,g4,g5,g6,g7⟩:=cC (cP a);rw[←aN9];exact aFl aA aB p n cap (bP xs) _ w rfl (aN8 a) (fun x hx=>by have:=(kD hx).1;omega) (fun w' hy=>sI aA aB p n cap xs w' (hS.ext hy) a)
abbrev TSS:TypeId:=22
theorem aQk:ElT prog 183 TSS 1:=
 ⟨underlying183,by
  obtain⟨i,hi,h0,h1,h2⟩:=info_parts (show(prog.info? TSS).map (fun i=>(i.zero,i.size,i.bytes))=some (some (.slice none 0 0),1,24) by kernel_rfl)
  exact⟨i,_,hi,h0,h1,by omega,rfl⟩,by omega⟩
def qE (aA:Int)(n k:Nat)(rows:List RowD):Prop:=rows.length=k∧ ∀(j:Nat) (r:RowD),rows[j]? =some r→r.n=(aR aA n j).length∧r.xs=ivs (bF (aR aA n j))
def aCd (aA:Int)(n:Nat)(w:World)(e:Ending)(w':World):Prop:=
 ∃q c rows,e= .returned (.slice q n c)∧qE aA n n rows∧aCe w.heap.size TSS TI 1 q c rows w'∧Ext w w'
theorem uY {aA:Int}{n k:Nat}{rows:List RowD}{q:OA}{c:Nat}(h:qE aA n k rows):qE aA n (k+1) (rows++ [⟨q,(aR aA n k).length,c,ivs (bF (aR aA n k))⟩]):=by
 refine⟨by rw[aQw,h.1];rfl,fun j r hj=> ?_⟩;by_cases hk:j<k
 ·rw[aR4 (by rw[h.1];exact hk)]at hj;exact h.2 j r hj
 have hl:=(aQr.1 hj).1;rw[aQw,h.1]at hl;simp at hl;obtain rfl:j=k:=by omega
 rw[aR2 (by rw[h.1];exact aQn _),h.1,aSg]at hj;simp at hj;subst hj;exact⟨rfl,by simp[ivs,bF]⟩
theorem aJ0 (aA aB:Int)(p:OA)(n cap:Nat)(w:World)(hn:n≤12)
  (HC:Hid (∀(k:Nat),k<n→ ∀w',Ext w w'→U 207 #[aH aA aB p n cap,k] w' (aY (bF (aR aA n k)) w'))):
  U 172 #[aH aA aB p n cap] w (aCd aA n w):=by
 go_enter func172,ntmps172;have ME:=(((Mem.start w).c0 TH3 #[aA,aB,.slice p n cap]).made0 TSS 1 (w.heap.size+1) (by simp))
 go_wp2;go_loopw [3,4] (fun v i wr=> ∃(k:Nat) (q:OA) (c:Nat) (rows:List RowD),k≤n∧i=I k∧v= .slice q k c∧qE aA n k rows∧Mem w wr [iE w TI 1 rows,aI w TSS 1 (q) (k) (c) (rows.map RowD.v),aJ w w TH3 #[aA,aB,.slice p n cap]]) (fun _ i _=>n-(intOf i).toNat)
 case atStart=>exact⟨0,some ⟨w.heap.size+1,0,none⟩,0,[],aQt _,rfl,rfl,⟨rfl,fun j r h=>by simp at h⟩,ME.rows0 rfl⟩
 case round=>
  clear ME;obtain⟨k,q,c,rows,hk,rfl,rfl,a,hM⟩:=hrel;have HM:=hM;have HR:=xQ a;clear hM a;obtain⟨c0,c1,c2⟩:=(HM.bk 2).tri;by_cases hlt:k<n
  ·go_wp2_with fail;clear c0 c1 c2;refine(HC k hlt _ HM.ext).mono ?_;rintro e w2 ⟨q2,c2,rfl,o2,b⟩;rw[aRb]at o2⊢;have M2:=(HM.call b o2)
   have M3:=(M2.rowsAdd rfl)
   have d:=xQ (uY (q:=q2) (c:=c2) HR.out);clear o2 b M2 HM HR;go_wp2_with (at_builtin;go_loud (refine cH aQk rfl _ _ rfl (M3.adv ((Ext.refl _).alloc (.cells #[.slice q2 (aR aA n k).length c2] TSS))) 1 rfl rfl [.slice q2 (aR aA n k).length c2] rfl (eH _ _ _ 1 1 _ (by first|rfl|simp) (by first|rfl|simp) (by simp[maxLen])) (fun u hu=>by obtain rfl:=aRd.1 hu;rfl) (by omega) ?_;intro q7 c7 w6 M6));have M7:=(show Mem w w6 [iE w TI 1 (rows++ [⟨q2,(aR aA n k).length,c2,ivs (bF (aR aA n k))⟩]),aI w TSS 1 q7 (k+1) c7 ((rows++ [⟨q2,(aR aA n k).length,c2,ivs (bF (aR aA n k))⟩]:List RowD).map RowD.v),aJ w w TH3 #[aA,aB,.slice p n cap]]from by rw[aRp];exact M6)
   clear M6 M3;go_wp2;go_roundw
   case rel=>exact⟨k+1,q7,c7,_,by omega,by go_num,rfl,d.out,M7⟩
   case measure=>simp[intOf];omega
  obtain rfl:n=k:=by omega
  go_wp2;go_ret;have hl:=HR.out.1;have h1:=HM.ow 1;refine⟨q,c,rows,rfl,HR.out,⟨?_,fun r hr=>HM.ok (iE w TI 1 rows) (by simp) r hr⟩,HM.ext⟩;rw[hl];exact h1
theorem aBe (aA aB:Int)(p:OA)(n cap:Nat)(xs:List Int)(w:World)(hS:Sl w p n cap 1 (ivs xs))(a:aO aA aB xs=true):
  U 172 #[aH aA aB p n cap] w (aCd aA n w):=by
 have hl:=hS.ilen;obtain⟨g1,g2,g3,g4,g5,g6,g7⟩:=cC (cP a)
 exact aJ0 aA aB p n cap w (by omega) (fun k hk w' hx=>by
  have:=aFp aA aB k p n cap xs w' (hS.ext hx) a (by omega) (by omega)
  rwa[lH]at this)
end
theorem aI4 (S h:Nat):S.testBit h=decide (S/2 ^ h%2=1):=by exact Nat.testBit_eq_decide_div_mod_eq
def kT (k:Nat):List Int:=List.replicate k (-1)++List.replicate (NN-k) 0
theorem aGa {k:Nat}(h:k<NN):(kT k).set k (-1)=kT (k+1):=by
 unfold kT;obtain⟨m,hm⟩: ∃m,NN-k=m+1:=⟨NN-k-1,by omega⟩
 rw[hm,show NN-(k+1)=m by omega,aSe];rw[aS5 _ _ (by rw[List.length_replicate];exact aQn _),List.length_replicate,aSg,aQz,List.replicate_succ',aRe];rfl
theorem aGb {k:Nat}(h:k<NN):(kT k)[k]? =some 0:=by unfold kT;rw[aR2 (by rw[List.length_replicate];exact aQn _),List.length_replicate,aSg];rw[aSi,if_pos (by omega)]
def eZ (many m:Nat):List Nat:=(List.range m).filter (fun s=> !s.testBit 0&&decide (gQ s=many))
theorem aGc (many:Nat):kT NN=iV NN (eZ many 0):=by unfold kT iV eZ;rw[aSg,List.replicate_zero,aRi];rfl
theorem aCm {many m:Nat}(hm:m%2=0):eZ many (m+2)=eZ many m++(if gQ m=many then [m]else []):=by
 unfold eZ;rw[aS7,aS7,aRj,aRj,aRe];have h0:m.testBit 0=false:=by rw[aSm];simp;omega
 have h1:(m+1).testBit 0=true:=by rw[aSm];simp;omega
 congr 1;by_cases hp:gQ m=many
 ·simp only[List.filter_cons,List.filter_nil,h0,h1];simp[hp]
 simp only[List.filter_cons,List.filter_nil,h0,h1];simp[hp]
theorem aCn (many m:Nat):(eZ many m).length≤m:=by unfold eZ;exact aQy (aRr _ _) (by simp)
def fB (aA:Int)(n M s h:Nat):List Nat:=if(s%M).testBit h then((aR aA n h).filter (fun f=> !(s%M).testBit f)).map (fun f=>gH M (s/M) (s%M) f h)else []
def iX (aA:Int)(n M s h:Nat):List Nat:=(List.range h).flatMap (fB aA n M s)
def jS (aA:Int)(n M s h j:Nat):List Nat:=(((aR aA n h).take j).filter (fun f=> !(s%M).testBit f)).map (fun f=>gH M (s/M) (s%M) f h)
theorem tL (aA:Int)(n M s:Nat):iX aA n M s n=xZ aA n M s:=rfl
theorem wN (aA:Int)(n M s h:Nat):iX aA n M s (h+1)=iX aA n M s h++fB aA n M s h:=by unfold iX;rw[aS7,aRh];simp
theorem aQf {aA:Int}{n M s h:Nat}(hb:(s%M).testBit h=false):fB aA n M s h= []:=by unfold fB;rw[hb];rfl
theorem aNc {aA:Int}{n M s h:Nat}(hb:(s%M).testBit h=true):fB aA n M s h=jS aA n M s h (aR aA n h).length:=by unfold fB jS;rw[if_pos hb,aS9]
theorem aG3 (aA:Int)(n M s h:Nat):jS aA n M s h 0= []:=rfl
theorem aM4 {aA:Int}{n M s h j f:Nat}(hj:(aR aA n h)[j]? =some f) (hb:(s%M).testBit f=true):jS aA n M s h (j+1)=jS aA n M s h j:=by unfold jS;rw[bC hj,aRj];simp[hb]
theorem aJc {aA:Int}{n M s h j f:Nat}(hj:(aR aA n h)[j]? =some f) (hb:(s%M).testBit f=false):jS aA n M s h (j+1)=jS aA n M s h j++ [gH M (s/M) (s%M) f h]:=by unfold jS;rw[bC hj,aRj];simp[hb]
theorem aG4 {aA:Int}{n M s h j:Nat}(hh:h<n)(hb:(s%M).testBit h=true): ∀v∈iX aA n M s h++jS aA n M s h j,v∈xZ aA n M s:=by
 intro v hv;rw[←tL];unfold iX;rw[List.mem_flatMap];rcases aR7.1 hv with hv|hv
 ·unfold iX at hv;obtain⟨a,ha,hm⟩:=List.mem_flatMap.1 hv;exact⟨a,aR3.2 (by have:=aR3.1 ha;omega),hm⟩
 refine⟨h,aR3.2 hh,?_⟩;rw[aNc hb];unfold jS at hv⊢;obtain⟨f,hf,rfl⟩:=List.mem_map.1 hv;obtain⟨h1,h2⟩:=aRf.1 hf;exact List.mem_map.2 ⟨f,aRf.2 ⟨by rw[aS9];exact aSc h1,h2⟩,rfl⟩
theorem aJd {aA:Int}{n M s h:Nat}(hh:h≤n): ∀v∈iX aA n M s h,v∈xZ aA n M s:=by intro v hv;rw[←tL];unfold iX at hv⊢;obtain⟨a,ha,hm⟩:=List.mem_flatMap.1 hv;exact List.mem_flatMap.2 ⟨a,aR3.2 (by have:=aR3.1 ha;omega),hm⟩
theorem aDg {adj:Nat→List Nat}{src:List Nat}{N k u:Nat}{D:List Int}{Q:List Nat}(h:Inv adj src N k (D,Q))(hu:Q[k]? =some u) (ha: ∀v∈adj u,v<N) {vs:List Nat} (hv: ∀v∈vs,v∈adj u) {D2:List Int} {Q2:List Nat} (he:(D2,Q2)=bQ (D.getD u 0+1) (D,Q) vs):
  Mid adj src N k u vs (D,Q) (D2,Q2):=by
 rw[he];have:=Mid.many (aQq hu) vs [] (D,Q) (h.mid hu) (fun v hv'=>⟨hv v hv',ha v (hv v hv')⟩);simpa using this
end Go.Proofs.YtbgkcehffiogcacGreatDoor
