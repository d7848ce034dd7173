/-
  Texts of this proof, packed (@packed).
-/
import Derived.Test.YtpelpnfhbepokaaGreatDoorU5
namespace Go.Proofs.YtpelpnfhbepokaaGreatDoor
open Go.RowKit
set_option linter.unusedVariables false
theorem aKv: ∀(k n:Nat),n≤k→(Lib.decDigits n).all dV=true∧(n≤9223372036854775807→kC (Lib.decDigits n)=n)∧(1≤n→(Lib.decDigits n).head? ≠some 48):=by
 intro k;induction k with
 |zero=>
  intro n h;obtain rfl:n=0:=by omega
  rw[fK 0 (by omega)];exact⟨by decide,fun _=>by decide,fun h=>by omega⟩
 |succ k ih=>
  intro n h;by_cases h10:n<10
  ·rw[fK n h10];have e:(UInt8.ofNat (48+n)).toNat=48+n:=by simp;omega
   refine⟨?_,fun _=> ?_,fun h1 hh=> ?_⟩
   ·simp[dV];omega
   ·simp[kC];omega
   simp at hh;have:=congrArg UInt8.toNat hh;simp at this;omega
  obtain⟨i1,i2,i3⟩:=ih (n/10) (by omega);rw[kK n h10];have e:(UInt8.ofNat (48+n%10)).toNat=48+n%10:=by simp;omega
  refine⟨?_,fun hb=> ?_,fun h1=> ?_⟩
  ·simp only[List.all_append,i1,List.all_cons,List.all_nil,Bool.and_true,Bool.true_and,dV,e];simp;omega
  ·rw[rZ,i2 (by omega),e];omega
  have hp:=pE (n/10);cases hd:Lib.decDigits (n/10)with
  |nil=>rw[hd]at hp;simp at hp
  |cons x xs=>have:=i3 (by omega);rw[hd]at this;simpa using this
theorem aN1: ∀(k n:Nat),n<10 ^ (k+1)→(Lib.decDigits n).length≤k+1:=by
 intro k;induction k with
 |zero=>intro n h;rw[fK n (by simpa using h)];simp
 |succ k ih=>
  intro n h;by_cases h10:n<10
  ·rw[fK n h10];simp
  rw[kK n h10,List.length_append];have:=ih (n/10) (by rw[Nat.pow_succ]at h;omega);simp;omega
theorem qH (m n:Nat)(h:n<10 ^ m)(hm:1≤m)(a:m≤5):dE m (Lib.decDigits n)=some (n:Int):=by
 obtain⟨k,rfl⟩: ∃k,m=k+1:=⟨m-1,by omega⟩
 have hb:n≤99999:=by have:10 ^ (k+1)≤10 ^ 5:=Nat.pow_le_pow_right (by omega) a;omega
 obtain⟨a1,a2,a3⟩:=aKv n n (Nat.le_refl _);rw[pK (pE n) (aN1 k n h) ?_ a1,a2 (by omega)];by_cases h0:n=0
 ·left;subst h0;rw[fK 0 (by omega)];simp
 right;exact a3 (by omega)
theorem lP (n:Nat)(c:UInt8)(hc:dV c=false):c∉Lib.decDigits n:=by intro h;have:=(aKv n n (Nat.le_refl _)).1;rw[List.all_eq_true]at this;rw[this c h]at hc;simp at hc
theorem oT (c:UInt8): ∀l:List UInt8,c∉l→cE c l= [l]:=by
 intro l;induction l with
 |nil=>intro _;rfl
 |cons x xs ih=>
  intro h;have e:cE c (x::xs)=match cE c xs with| []=> [[x]]|p::ps=>(x::p)::ps:=by rw[cE,if_neg (by intro e;exact h (by simp[e]))]<;>rfl
  rw[e,ih (by intro q;exact h (by simp[q]))]
theorem lQ (c:UInt8): ∀(a b:List UInt8),c∉a→cE c (a++c::b)=a::cE c b:=by
 intro a b;induction a with
 |nil=>intro _;simp[cE]
 |cons x xs ih=>
  intro h;have e:cE c (x::(xs++c::b))=match cE c (xs++c::b)with| []=> [[x]]|p::ps=>(x::p)::ps:=by rw[cE,if_neg (by intro e;exact h (by simp[e]))]<;>rfl
  rw[List.cons_append,e,ih (by intro q;exact h (by simp[q]))]
def hU (p:List UInt8):Option Int:=
 if p= [105,110]then some 0 else if p= [112,97,121]then some 1 else if p= [111,117,116]then some 2 else if p= [119,97,105,116]then some 3 else if p= [115,108,105,100,101]then some 4 else none
theorem lJ {p:List UInt8}{k:Int}(h:hU p=some k):0≤k∧k≤4∧p=aV k:=by
 unfold hU at h
 repeat' split at h
 all_goals simp at h
 all_goals subst h;simp_all [aV]
theorem lK (k:Int)(h:0≤k∧k≤4):hU (aV k)=some k:=by rcases(show k=0∨k=1∨k=2∨k=3∨k=4 by omega)with rfl|rfl|rfl|rfl|rfl<;>decide
def bO (l:List UInt8):Option (Int×Int×Int):=
 match cE 32 l with
 | [p,q]=>match hU p,dE 4 q with
   |some k,some a=>if aS k a 0=l then some (k,a,0)else none
   |_,_=>none
 | [p,q,r]=>match hU p,dE 4 q,dE 4 r with
   |some k,some a,some b=>if aS k a b=l then some (k,a,b)else none
   |_,_,_=>none
 |_=>none
def iJ (ps:List (List UInt8)):Int×Int×Int:=
 match ps with
 | []=>(-1,0,0)
 | [p]=>((hU p).getD (-1),0,0)
 | [p,q]=>((hU p).getD (-1),(dE 4 q).getD (-1),0)
 |p::q::r::_=>((hU p).getD (-1),(dE 4 q).getD (-1),(dE 4 r).getD (-1))
def kU (l:List UInt8):Option (Int×Int×Int):=
 if l≠ []∧aS (iJ (cE 32 l)).1 (iJ (cE 32 l)).2.1 (iJ (cE 32 l)).2.2=l then some (iJ (cE 32 l))else none
theorem rA {k a b:Int}(h:eL k a b=true):0≤k∧k≤4∧0≤a∧a≤9999∧0≤b∧b≤9999∧(gK k=true∨b=0):=by simp[eL]at h;obtain⟨⟨h1,h2,h3,h4,h5,h6⟩,h7⟩:=h;exact⟨h1,h2,h3,h4,h5,h6,by cases hk:gK k<;>simp_all⟩
theorem nZ {k a b:Int}(h:aS k a b≠ []):eL k a b=true:=by
 unfold aS at h;split at h
 ·assumption
 simp at h
theorem yA (k:Int):(32:UInt8)∉aV k:=by
 unfold aV
 repeat' split
 all_goals decide
theorem aD3 {k a b:Int}(h:eL k a b=true):cE 32 (aS k a b)=if gK k then [aV k,Lib.decDigits a.toNat,Lib.decDigits b.toNat]else [aV k,Lib.decDigits a.toNat]:=by
 unfold aS;rw[if_pos h];split
 ·have e:aV k++ [32]++Lib.decDigits a.toNat++([32]++Lib.decDigits b.toNat)=aV k++32::(Lib.decDigits a.toNat++32::Lib.decDigits b.toNat):=by simp
  rw[e,lQ _ _ _ (yA k),lQ _ _ _ (lP _ _ (by decide)),oT _ _ (lP _ _ (by decide))]
 have e:aV k++ [32]++Lib.decDigits a.toNat++ []=aV k++32::Lib.decDigits a.toNat:=by simp
 rw[e,lQ _ _ _ (yA k),oT _ _ (lP _ _ (by decide))]
theorem rU {a:Int}(h0:0≤a)(h1:a≤9999):dE 4 (Lib.decDigits a.toNat)=some a:=by rw[qH 4 a.toNat (by omega) (by omega) (by omega)];congr 1;omega
theorem lS {k a b:Int}(h:eL k a b=true):bO (aS k a b)=some (k,a,b):=by
 obtain⟨h1,h2,h3,h4,h5,h6,h7⟩:=rA h;unfold bO;rw[aD3 h];cases hk:gK k with
 |true=>simp[lK k ⟨h1,h2⟩,rU h3 h4,rU h5 h6]
 |false=>
  obtain rfl:b=0:=by simpa[hk]using h7
  simp[lK k ⟨h1,h2⟩,rU h3 h4]
theorem aD2 {k a b:Int}(h:eL k a b=true):aS k a b≠ []:=by unfold aS;rw[if_pos h];simp
theorem wD {k a b:Int}(h:eL k a b=true):kU (aS k a b)=some (k,a,b):=by
 obtain⟨h1,h2,h3,h4,h5,h6,h7⟩:=rA h;have e:iJ (cE 32 (aS k a b))=(k,a,b):=by
  rw[aD3 h];cases hk:gK k with
  |true=>simp[iJ,lK k ⟨h1,h2⟩,rU h3 h4,rU h5 h6]
  |false=>
   obtain rfl:b=0:=by simpa[hk]using h7
   simp[iJ,lK k ⟨h1,h2⟩,rU h3 h4]
 unfold kU;rw[e,if_pos ⟨aD2 h,rfl⟩]
theorem wQ {l:List UInt8}{k a b:Int}(h:bO l=some (k,a,b)):aS k a b=l∧eL k a b=true:=by
 have c:aS k a b=l∧0≤k∧k≤4∧l≠ []:=by
  have d: ∀p q,cE 32 l=p::q:: []∨(∃r,cE 32 l= [p,q,r])→l≠ []:=by rintro p q h rfl;rcases h with h|⟨r,h⟩<;>simp[cE]at h
  unfold bO at h;split at h
  ·rename_i p q hc;have:=d p q (.inl hc);split at h
   ·rename_i k' a' hk ha;split at h
    ·rename_i ht;simp only[Option.some.injEq,Prod.mk.injEq]at h;obtain⟨rfl,rfl,rfl⟩:=h;exact⟨ht,(lJ hk).1,(lJ hk).2.1,this⟩
    simp at h
   simp at h
  ·rename_i p q r hc;have:=d p q (.inr ⟨r,hc⟩);split at h
   ·rename_i k' a' b' hk ha hb;split at h
    ·rename_i ht;simp only[Option.some.injEq,Prod.mk.injEq]at h;obtain⟨rfl,rfl,rfl⟩:=h;exact⟨ht,(lJ hk).1,(lJ hk).2.1,this⟩
    simp at h
   simp at h
  simp at h
 exact⟨c.1,nZ (by rw[c.1];exact c.2.2.2)⟩
theorem aBb (l:List UInt8):kU l=bO l:=by
 cases h:kU l with
 |some d=>
  obtain⟨k,a,b⟩:=d;unfold kU at h;split at h
  ·rename_i hc;simp only[Option.some.injEq]at h;rw[h]at hc;have ho:=nZ (by rw[hc.2];exact hc.1);rw[←hc.2,lS ho]
  simp at h
 |none=>
  cases h2:bO l with
  |none=>rfl
  |some d=>obtain⟨k,a,b⟩:=d;obtain⟨e,ho⟩:=wQ h2;rw[←e,wD ho]at h;simp at h
def dA (c:UInt8):List UInt8→List UInt8
 | []=> []
 |x::xs=>if x=c then []else x::dA c xs
def fY (c:UInt8):List UInt8→List UInt8
 | []=> []
 |x::xs=>if x=c then xs else fY c xs
theorem eC (c:UInt8): ∀(a b:List UInt8),c∉a→dA c (a++c::b)=a∧fY c (a++c::b)=b:=by
 intro a b;induction a with
 |nil=>intro _;simp[dA,fY]
 |cons x xs ih=>
  intro h;obtain⟨i1,i2⟩:=ih (fun q=>h (by simp[q]));have hx:x≠c:=fun q=>h (by simp[q])
  simp[dA,fY,hx,i1,i2]
theorem yT (c:UInt8): ∀(l:List UInt8),(cE c l)[0]? =some (dA c l):=by
 intro l;induction l with
 |nil=>rfl
 |cons x xs ih=>
  by_cases h:x=c
  ·rw[cE,if_pos h,dA,if_pos h]<;>rfl
  have e:cE c (x::xs)=match cE c xs with| []=> [[x]]|p::ps=>(x::p)::ps:=by rw[cE,if_neg h]<;>rfl
  rw[e,dA,if_neg h];cases hq:cE c xs with
  |nil=>exact absurd hq (jS c xs)
  |cons p ps=>rw[hq]at ih;simpa using ih
theorem mX (c:UInt8): ∀(l:List UInt8),(dA c l).length≤l.length∧(fY c l).length≤l.length:=by
 intro l;induction l with
 |nil=>simp[dA,fY]
 |cons x xs ih=>simp only[dA,fY];split<;>simp<;>omega
def gS (c:UInt8)(l:List UInt8):Option Nat:=if c∈l then some (dA c l).length else none
theorem qK (c:UInt8)(a b:List UInt8)(h:c∉a):gS c (a++c::b)=some a.length:=by unfold gS;rw[if_pos (by simp),(eC c a b h).1]
theorem sM (c:UInt8): ∀(l:List UInt8),c∈l→ ∃a b,l=a++c::b∧c∉a:=by
 intro l;induction l with
 |nil=>intro h;simp at h
 |cons x xs ih=>
  intro h;by_cases hx:x=c
  ·exact⟨[],xs,by simp[hx],by simp⟩
  obtain⟨a,b,e,ha⟩:=ih (by rcases List.mem_cons.1 h with h|h;exact absurd h.symm hx;exact h);exact⟨x::a,b,by simp[e],by simp[ha];exact fun q=>hx q.symm⟩
theorem eP {c:UInt8}{l:List UInt8}{e:Nat}(h:gS c l=some e):e<l.length∧l[e]? =some c∧c∉l.take e:=by
 unfold gS at h;split at h
 ·rename_i hm;obtain⟨a,b,rfl,ha⟩:=sM c l hm;rw[(eC c a b ha).1]at h;simp only[Option.some.injEq]at h;subst h;simp[ha]
 simp at h
abbrev gY:=Int×Int×Int
def bZ (l:List UInt8):Option (Int×gY×Nat):=
 match gS 59 l with
 |none=>none
 |some e=>
  match dE 2 (dA 58 (dA 35 (l.take e))),bO (fY 58 (dA 35 (l.take e)))with
  |some n,some d=>if bG n d.1 d.2.1 d.2.2=l.take (e+1)then some (n,d,e+1)else none
  |_,_=>none
def eT (l:List UInt8):Option (Int×gY×Nat):=
 match gS 59 l with
 |none=>none
 |some e=>
  match cE 58 (dA 35 (l.take e))with
  | [f,r]=>match bO r with
    |some d=>if bG ((dE 4 f).getD (-1)) d.1 d.2.1 d.2.2=l.take (e+1)then some ((dE 4 f).getD (-1),d,e+1)else none
    |none=>none
  |_=>none
theorem vS {k a b:Int}(h:eL k a b=true):(35:UInt8)∉aS k a b∧(58:UInt8)∉aS k a b∧(59:UInt8)∉aS k a b:=by
 have hn: ∀c:UInt8,c=35∨c=58∨c=59→c∉aV k:=by
  intro c hc;unfold aV
  repeat' split
  all_goals rcases hc with rfl|rfl|rfl<;>decide
 have hd: ∀c:UInt8,c=35∨c=58∨c=59→ ∀n,c∉Lib.decDigits n:=by intro c hc n;exact lP n c (by rcases hc with rfl|rfl|rfl<;>decide)
 have d: ∀c:UInt8,c=35∨c=58∨c=59→c∉aS k a b:=by
  intro c hc;have h1:=hn c hc;have h2:=hd c hc;have h3:c≠32:=by rcases hc with rfl|rfl|rfl<;>decide
  unfold aS;rw[if_pos h];split
  ·simp[h1,h2,h3]
  simp[h1,h2,h3]
 exact⟨d _ (by simp),d _ (by simp),d _ (by simp)⟩
theorem jC {n k a b:Int}(h:bG n k a b≠ []):1≤n∧n≤99∧eL k a b=true∧
  bG n k a b=Lib.decDigits n.toNat++58::aS k a b++35::Lib.decDigits (kR (Lib.decDigits n.toNat++ [58]++aS k a b)).toNat++ [59]:=by
 unfold bG tU at h⊢;split at h
 ·rename_i hc;refine⟨hc.1,hc.2.1,nZ hc.2.2,?_⟩;rw[if_pos hc];simp[mH]
 simp at h
theorem aD0 {n k a b:Int}(h:bG n k a b≠ []): ∃F:List UInt8,bG n k a b=F++ [59]∧(59:UInt8)∉F∧dA 35 F=Lib.decDigits n.toNat++58::aS k a b:=by
 obtain⟨h1,h2,ho,e⟩:=jC h;obtain⟨d1,d2,d3⟩:=vS ho;refine⟨Lib.decDigits n.toNat++58::aS k a b++35::Lib.decDigits (kR (Lib.decDigits n.toNat++ [58]++aS k a b)).toNat,e,?_,?_⟩
 ·have q1:=lP n.toNat 59 (by decide);have q2:=lP (kR (Lib.decDigits n.toNat++ [58]++aS k a b)).toNat 59 (by decide);simp only[List.mem_append,List.mem_cons,not_or];exact⟨⟨q1,by decide,d3⟩,by decide,q2⟩
 refine(eC 35 _ _ ?_).1;have q1:=lP n.toNat 35 (by decide);simp only[List.mem_append,List.mem_cons,not_or];exact⟨q1,by decide,d1⟩
theorem xU (m:Nat)(hm:2≤m)(a:m≤5){n:Int}(h0:1≤n)(h1:n≤99):dE m (Lib.decDigits n.toNat)=some n:=by
 have:n.toNat<10 ^ m:=by have:10 ^ 2≤10 ^ m:=Nat.pow_le_pow_right (by omega) hm;omega
 rw[qH m n.toNat this (by omega) a];congr 1;omega
theorem nN {n k a b:Int}(h:bG n k a b≠ [])(R:List UInt8):bZ (bG n k a b++R)=some (n,(k,a,b),(bG n k a b).length)∧
  eT (bG n k a b++R)=some (n,(k,a,b),(bG n k a b).length):=by
 obtain⟨h1,h2,ho,_⟩:=jC h;obtain⟨F,e,hF,hc⟩:=aD0 h;obtain⟨d1,d2,d3⟩:=vS ho;have hp:gS 59 (bG n k a b++R)=some F.length:=by rw[e];simp only[List.append_assoc,List.singleton_append];exact qK 59 F R hF
 have ht:(bG n k a b++R).take F.length=F:=by rw[e];simp
 have d:(bG n k a b++R).take (F.length+1)=bG n k a b:=by
  have:F.length+1=(bG n k a b).length:=by rw[e];simp
  rw[this];simp
 have hl:F.length+1=(bG n k a b).length:=by rw[e];simp
 have c:=lP n.toNat 58 (by decide);constructor
 ·unfold bZ;rw[hp];simp only[ht,d,hc];rw[(eC 58 _ _ c).1,(eC 58 _ _ c).2,xU 2 (by omega) (by omega) h1 h2,lS ho];simp[hl]
 unfold eT;rw[hp];simp only[ht,d,hc];rw[lQ 58 _ _ c,oT 58 _ d2];simp only[lS ho,xU 4 (by omega) (by omega) h1 h2];simp[hl]
theorem aFp {l:List UInt8}{e:Nat}(h:gS 59 l=some e):l.take (e+1)≠ []:=by have:=eP h;intro q;have:=congrArg List.length q;rw[List.length_take,List.length_nil]at this;omega
theorem nO {l:List UInt8}{n k a b:Int}{m:Nat}(h:bZ l=some (n,(k,a,b),m)):bG n k a b≠ []∧l=bG n k a b++l.drop m∧m=(bG n k a b).length:=by
 unfold bZ at h;split at h
 ·simp at h
 rename_i e hp;split at h
 ·rename_i n' d hn hd;split at h
  ·rename_i ht;simp only[Option.some.injEq,Prod.mk.injEq]at h;obtain⟨rfl,rfl,rfl⟩:=h;have:=eP hp;refine⟨by rw[ht];exact aFp hp,by rw[ht];simp,by rw[ht];simp;omega⟩
  simp at h
 simp at h
theorem pJ {l:List UInt8}{n k a b:Int}{m:Nat}(h:eT l=some (n,(k,a,b),m)):bG n k a b≠ []∧l=bG n k a b++l.drop m∧m=(bG n k a b).length:=by
 unfold eT at h;split at h
 ·simp at h
 rename_i e hp;split at h
 ·split at h
  ·split at h
   ·rename_i ht;simp only[Option.some.injEq,Prod.mk.injEq]at h;obtain⟨rfl,rfl,rfl⟩:=h;have:=eP hp;refine⟨by rw[ht];exact aFp hp,by rw[ht];simp,by rw[ht];simp;omega⟩
   simp at h
  simp at h
 simp at h
theorem rO (l:List UInt8):eT l=bZ l:=by
 cases h:eT l with
 |some x=>obtain⟨n,⟨k,a,b⟩,m⟩:=x;obtain⟨h1,h2,h3⟩:=pJ h;rw[h2,(nN h1 _).1,h3]
 |none=>
  cases h2:bZ l with
  |none=>rfl
  |some x=>obtain⟨n,⟨k,a,b⟩,m⟩:=x;obtain⟨q1,q2,q3⟩:=nO h2;rw[q2,(nN q1 _).2]at h;simp at h
set_option maxHeartbeats 8000000
set_option maxRecDepth 100000
def rdV:Option (Int×Int×Int)→Value
 |some (k,a,b)=> .tuple #[cI k a b,.bool true]
 |none=> .tuple #[cI 0 0 0,.bool false]
def iE (o:Option (Int×Int×Int))(w:World)(e:Ending)(w':World):Prop:=e= .returned (rdV o)∧Ext w w'
theorem aU {w:World}{base g n cap:Nat}{e:TypeId}{ps:List (List UInt8)}(h:w.ownsRow base e 1 (.slice (some ⟨g,0,none⟩) n cap) n (eX ps))(j:Nat)(hj:j<n)(p:List UInt8)(hp:ps[j]? =some p):w.cell? ⟨g,j,none⟩=some (str p):=by rw[h.cellAt j (by omega)];simp[eX,hp]
theorem qR (l:List UInt8)(w:World)(ps:List (List UInt8))(b:0<ps.length)(hl:ps.length<2∨2≤ps.length∧3<ps.length)
  (HS:Hid (∀w,Env w→Calls Tryz.prog 175 #[str l,.string ⟨#[32]⟩] w fun e w'=> ∃v,e= .returned v∧w'.ownsRow w.heap.size 9 1 v ps.length (eX ps)∧Ext w w'))(HE:Hid (Env w)):
  Calls Tryz.prog 126 #[str l] w (iE none w):=by
 rcases hl with hl|⟨h,hl⟩
 all_goals
  go_enter Tryz.func126,Tryz.ntmps126;go_wp2_with fail;refine(HS _ (HE.out.ext xE)).mono ?_;rintro e w1 ⟨v,rfl,a,h1⟩;obtain⟨g,c,rfl⟩:=Joins.ownsRow_form a b;obtain⟨d,f⟩:=h1.cells;have i:w.heap.size<w1.heap.size:=Nat.lt_of_lt_of_le (by simp) h1.sz;clear a;go_wp2;exact bodyPost_ret (v:=rdV none) (by simp[results,Tryz.results126,go_sem, *];rfl) rfl ⟨rfl,xE⟩
theorem vE (l:List UInt8)(w:World)(p q:List UInt8)(n1:(p== [105,110])=false)(n2:(p== [112,97,121])=false)(n3:(p== [111,117,116])=false)(n4:(p== [119,97,105,116])=false)(n5:(p== [115,108,105,100,101])=false)
  (HS:Hid (∀w,Env w→Calls Tryz.prog 175 #[str l,.string ⟨#[32]⟩] w fun e w'=> ∃v,e= .returned v∧w'.ownsRow w.heap.size 9 1 v 2 (eX [p,q])∧Ext w w'))(HE:Hid (Env w)):
  Calls Tryz.prog 126 #[str l] w (iE none w):=by
 all_goals
  go_enter Tryz.func126,Tryz.ntmps126;go_wp2_with fail;refine(HS _ (HE.out.ext xE)).mono ?_;rintro e w1 ⟨v,rfl,a,h1⟩;obtain⟨g,b,rfl⟩:=Joins.ownsRow_form a (by omega);have e0:=aU a 0 (by omega) _ rfl;have e1:=aU a 1 (by omega) _ rfl;have hg:=(a.lt g rfl).2;obtain⟨c,d⟩:=h1.cells;have f:w.heap.size<w1.heap.size:=Nat.lt_of_lt_of_le (by simp) h1.sz;clear a;go_wp2;exact bodyPost_ret (v:=rdV none) (by simp[results,Tryz.results126,go_sem, *];rfl) rfl ⟨rfl,xE⟩
theorem aCg (l:List UInt8)(w:World)(p q:List UInt8)(k:Int)(hk:p= [105,110]∧k=0∨p= [112,97,121]∧k=1∨p= [111,117,116]∧k=2∨p= [119,97,105,116]∧k=3∨p= [115,108,105,100,101]∧k=4)
  (HS:Hid (∀w,Env w→Calls Tryz.prog 175 #[str l,.string ⟨#[32]⟩] w fun e w'=> ∃v,e= .returned v∧w'.ownsRow w.heap.size 9 1 v 2 (eX [p,q])∧Ext w w'))(HE:Hid (Env w))
  (HR:Hid (∀w,Calls Tryz.prog 125 #[str q,.int .i64 4] w fun e w'=>e= .returned (.tuple #[(),.bool false])∧w=w')):
  Calls Tryz.prog 126 #[str l] w (iE none w):=by
 rcases hk with⟨rfl,rfl⟩|⟨rfl,rfl⟩|⟨rfl,rfl⟩|⟨rfl,rfl⟩|⟨rfl,rfl⟩
 all_goals
  go_enter Tryz.func126,Tryz.ntmps126;go_wp2_with fail;refine(HS _ (HE.out.ext xE)).mono ?_;rintro e w1 ⟨v,rfl,a,h1⟩;obtain⟨g,b,rfl⟩:=Joins.ownsRow_form a (by omega);have e0:=aU a 0 (by omega) _ rfl;have e1:=aU a 1 (by omega) _ rfl;have hg:=(a.lt g rfl).2;obtain⟨c,d⟩:=h1.cells;have f:w.heap.size<w1.heap.size:=Nat.lt_of_lt_of_le (by simp) h1.sz;clear a;go_wp2_with fail;refine(HR _).mono ?_;rintro e w2 ⟨rfl,rfl⟩;go_wp2;exact bodyPost_ret (v:=rdV none) (by simp[results,Tryz.results126,go_sem, *];rfl) rfl ⟨rfl,xE⟩
theorem vD (l:List UInt8)(w:World)(p q r:List UInt8)(n1:(p== [105,110])=false)(n2:(p== [112,97,121])=false)(n3:(p== [111,117,116])=false)(n4:(p== [119,97,105,116])=false)(n5:(p== [115,108,105,100,101])=false)
  (HS:Hid (∀w,Env w→Calls Tryz.prog 175 #[str l,.string ⟨#[32]⟩] w fun e w'=> ∃v,e= .returned v∧w'.ownsRow w.heap.size 9 1 v 3 (eX [p,q,r])∧Ext w w'))(HE:Hid (Env w)):
  Calls Tryz.prog 126 #[str l] w (iE none w):=by
 all_goals
  go_enter Tryz.func126,Tryz.ntmps126;go_wp2_with fail;refine(HS _ (HE.out.ext xE)).mono ?_;rintro e w1 ⟨v,rfl,a,h1⟩;obtain⟨g,b,rfl⟩:=Joins.ownsRow_form a (by omega);have e0:=aU a 0 (by omega) _ rfl;have e1:=aU a 1 (by omega) _ rfl;have e2:=aU a 2 (by omega) _ rfl;have hg:=(a.lt g rfl).2;obtain⟨c,d⟩:=h1.cells;have f:w.heap.size<w1.heap.size:=Nat.lt_of_lt_of_le (by simp) h1.sz;clear a;go_wp2;exact bodyPost_ret (v:=rdV none) (by simp[results,Tryz.results126,go_sem, *];rfl) rfl ⟨rfl,xE⟩
theorem aCf (l:List UInt8)(w:World)(p q r:List UInt8)(k:Int)(hk:p= [105,110]∧k=0∨p= [112,97,121]∧k=1∨p= [111,117,116]∧k=2∨p= [119,97,105,116]∧k=3∨p= [115,108,105,100,101]∧k=4)
  (HS:Hid (∀w,Env w→Calls Tryz.prog 175 #[str l,.string ⟨#[32]⟩] w fun e w'=> ∃v,e= .returned v∧w'.ownsRow w.heap.size 9 1 v 3 (eX [p,q,r])∧Ext w w'))(HE:Hid (Env w))
  (HR:Hid (∀w,Calls Tryz.prog 125 #[str q,.int .i64 4] w fun e w'=>e= .returned (.tuple #[(),.bool false])∧w=w')):
  Calls Tryz.prog 126 #[str l] w (iE none w):=by
 rcases hk with⟨rfl,rfl⟩|⟨rfl,rfl⟩|⟨rfl,rfl⟩|⟨rfl,rfl⟩|⟨rfl,rfl⟩
 all_goals
  go_enter Tryz.func126,Tryz.ntmps126;go_wp2_with fail;refine(HS _ (HE.out.ext xE)).mono ?_;rintro e w1 ⟨v,rfl,a,h1⟩;obtain⟨g,b,rfl⟩:=Joins.ownsRow_form a (by omega);have e0:=aU a 0 (by omega) _ rfl;have e1:=aU a 1 (by omega) _ rfl;have e2:=aU a 2 (by omega) _ rfl;have hg:=(a.lt g rfl).2;obtain⟨c,d⟩:=h1.cells;have f:w.heap.size<w1.heap.size:=Nat.lt_of_lt_of_le (by simp) h1.sz;clear a;go_wp2_with fail;refine(HR _).mono ?_;rintro e w2 ⟨rfl,rfl⟩;go_wp2;exact bodyPost_ret (v:=rdV none) (by simp[results,Tryz.results126,go_sem, *];rfl) rfl ⟨rfl,xE⟩
theorem aCe (l:List UInt8)(w:World)(p q r:List UInt8)(k a:Int)(hk:p= [105,110]∧k=0∨p= [112,97,121]∧k=1∨p= [111,117,116]∧k=2∨p= [119,97,105,116]∧k=3∨p= [115,108,105,100,101]∧k=4)
  (HS:Hid (∀w,Env w→Calls Tryz.prog 175 #[str l,.string ⟨#[32]⟩] w fun e w'=> ∃v,e= .returned v∧w'.ownsRow w.heap.size 9 1 v 3 (eX [p,q,r])∧Ext w w'))(HE:Hid (Env w))
  (HR:Hid (∀w,Calls Tryz.prog 125 #[str q,.int .i64 4] w fun e w'=>e= .returned (.tuple #[a,.bool true])∧w=w'))
  (c:Hid (∀w,Calls Tryz.prog 125 #[str r,.int .i64 4] w fun e w'=>e= .returned (.tuple #[(),.bool false])∧w=w')):
  Calls Tryz.prog 126 #[str l] w (iE none w):=by
 rcases hk with⟨rfl,rfl⟩|⟨rfl,rfl⟩|⟨rfl,rfl⟩|⟨rfl,rfl⟩|⟨rfl,rfl⟩
 all_goals
  go_enter Tryz.func126,Tryz.ntmps126;go_wp2_with fail;refine(HS _ (HE.out.ext xE)).mono ?_;rintro e w1 ⟨v,rfl,b,h1⟩;obtain⟨g,d,rfl⟩:=Joins.ownsRow_form b (by omega);have e0:=aU b 0 (by omega) _ rfl;have e1:=aU b 1 (by omega) _ rfl;have e2:=aU b 2 (by omega) _ rfl;have hg:=(b.lt g rfl).2;obtain⟨f,h⟩:=h1.cells;have i:w.heap.size<w1.heap.size:=Nat.lt_of_lt_of_le (by simp) h1.sz;clear b;go_wp2_with fail;refine(HR _).mono ?_;rintro e w2 ⟨rfl,rfl⟩;go_wp2_with fail;refine(c _).mono ?_;rintro e w2 ⟨rfl,rfl⟩;go_wp2;exact bodyPost_ret (v:=rdV none) (by simp[results,Tryz.results126,go_sem, *];rfl) rfl ⟨rfl,xE⟩
theorem aAa (l:List UInt8)(w:World)(p q t:List UInt8)(k a:Int)(hk:p= [105,110]∧k=0∨p= [112,97,121]∧k=1∨p= [111,117,116]∧k=2∨p= [119,97,105,116]∧k=3∨p= [115,108,105,100,101]∧k=4)(ht:(t==l)=true)
  (HS:Hid (∀w,Env w→Calls Tryz.prog 175 #[str l,.string ⟨#[32]⟩] w fun e w'=> ∃v,e= .returned v∧w'.ownsRow w.heap.size 9 1 v 2 (eX [p,q])∧Ext w w'))(HE:Hid (Env w))
  (HR:Hid (∀w,Calls Tryz.prog 125 #[str q,.int .i64 4] w fun e w'=>e= .returned (.tuple #[a,.bool true])∧w=w'))
  (HD:Hid (∀w,Env w→Calls Tryz.prog 176 #[cI k a 0] w fun e w'=>e= .returned (str t)∧Ext w w')):
  Calls Tryz.prog 126 #[str l] w (iE (some (k,a,0)) w):=by
 rcases hk with⟨rfl,rfl⟩|⟨rfl,rfl⟩|⟨rfl,rfl⟩|⟨rfl,rfl⟩|⟨rfl,rfl⟩
 all_goals
  go_enter Tryz.func126,Tryz.ntmps126;go_wp2_with fail;refine(HS _ (HE.out.ext xE)).mono ?_;rintro e w1 ⟨v,rfl,b,h1⟩;obtain⟨g,f,rfl⟩:=Joins.ownsRow_form b (by omega);have e0:=aU b 0 (by omega) _ rfl;have e1:=aU b 1 (by omega) _ rfl;have hg:=(b.lt g rfl).2;obtain⟨h,m⟩:=h1.cells;have c:w.heap.size<w1.heap.size:=Nat.lt_of_lt_of_le (by simp) h1.sz;clear b;go_wp2_with fail;refine(HR _).mono ?_;rintro e w2 ⟨rfl,rfl⟩;go_wp2_with fail;refine(HD _ (HE.out.ext xE)).mono ?_;rintro e w2 ⟨rfl,h2⟩;obtain⟨i,n⟩:=h2.cells;have d:w1.heap.size<w2.heap.size:=Nat.lt_of_lt_of_le (by simp) h2.sz;have r:w.heap.size<w2.heap.size:=Nat.lt_trans c d;have hw:=(h1.alloc (.cells #[_,_,_] 44)).trans h2;obtain⟨j,o⟩:=hw.cells;go_wp2;exact bodyPost_ret (v:=rdV (some (_,a,0))) (by simp[results,Tryz.results126,go_sem, *];rfl) rfl ⟨rfl,xE⟩
theorem aAc (l:List UInt8)(w:World)(p q t:List UInt8)(k a:Int)(hk:p= [105,110]∧k=0∨p= [112,97,121]∧k=1∨p= [111,117,116]∧k=2∨p= [119,97,105,116]∧k=3∨p= [115,108,105,100,101]∧k=4)(ht:(t==l)=false)
  (HS:Hid (∀w,Env w→Calls Tryz.prog 175 #[str l,.string ⟨#[32]⟩] w fun e w'=> ∃v,e= .returned v∧w'.ownsRow w.heap.size 9 1 v 2 (eX [p,q])∧Ext w w'))(HE:Hid (Env w))
  (HR:Hid (∀w,Calls Tryz.prog 125 #[str q,.int .i64 4] w fun e w'=>e= .returned (.tuple #[a,.bool true])∧w=w'))
  (HD:Hid (∀w,Env w→Calls Tryz.prog 176 #[cI k a 0] w fun e w'=>e= .returned (str t)∧Ext w w')):
  Calls Tryz.prog 126 #[str l] w (iE (none) w):=by
 rcases hk with⟨rfl,rfl⟩|⟨rfl,rfl⟩|⟨rfl,rfl⟩|⟨rfl,rfl⟩|⟨rfl,rfl⟩
 all_goals
  go_enter Tryz.func126,Tryz.ntmps126;go_wp2_with fail;refine(HS _ (HE.out.ext xE)).mono ?_;rintro e w1 ⟨v,rfl,b,h1⟩;obtain⟨g,f,rfl⟩:=Joins.ownsRow_form b (by omega);have e0:=aU b 0 (by omega) _ rfl;have e1:=aU b 1 (by omega) _ rfl;have hg:=(b.lt g rfl).2;obtain⟨h,m⟩:=h1.cells;have c:w.heap.size<w1.heap.size:=Nat.lt_of_lt_of_le (by simp) h1.sz;clear b;go_wp2_with fail;refine(HR _).mono ?_;rintro e w2 ⟨rfl,rfl⟩;go_wp2_with fail;refine(HD _ (HE.out.ext xE)).mono ?_;rintro e w2 ⟨rfl,h2⟩;obtain⟨i,n⟩:=h2.cells;have d:w1.heap.size<w2.heap.size:=Nat.lt_of_lt_of_le (by simp) h2.sz;have r:w.heap.size<w2.heap.size:=Nat.lt_trans c d;have hw:=(h1.alloc (.cells #[_,_,_] 44)).trans h2;obtain⟨j,o⟩:=hw.cells;go_wp2;exact bodyPost_ret (v:=rdV none) (by simp[results,Tryz.results126,go_sem, *];rfl) rfl ⟨rfl,xE⟩
theorem aA9 (l:List UInt8)(w:World)(p q r t:List UInt8)(k a b:Int)(hk:p= [105,110]∧k=0∨p= [112,97,121]∧k=1∨p= [111,117,116]∧k=2∨p= [119,97,105,116]∧k=3∨p= [115,108,105,100,101]∧k=4)(ht:(t==l)=true)
  (HS:Hid (∀w,Env w→Calls Tryz.prog 175 #[str l,.string ⟨#[32]⟩] w fun e w'=> ∃v,e= .returned v∧w'.ownsRow w.heap.size 9 1 v 3 (eX [p,q,r])∧Ext w w'))(HE:Hid (Env w))
  (HR:Hid (∀w,Calls Tryz.prog 125 #[str q,.int .i64 4] w fun e w'=>e= .returned (.tuple #[a,.bool true])∧w=w'))
  (d:Hid (∀w,Calls Tryz.prog 125 #[str r,.int .i64 4] w fun e w'=>e= .returned (.tuple #[b,.bool true])∧w=w'))
  (HD:Hid (∀w,Env w→Calls Tryz.prog 176 #[cI k a b] w fun e w'=>e= .returned (str t)∧Ext w w')):
  Calls Tryz.prog 126 #[str l] w (iE (some (k,a,b)) w):=by
 rcases hk with⟨rfl,rfl⟩|⟨rfl,rfl⟩|⟨rfl,rfl⟩|⟨rfl,rfl⟩|⟨rfl,rfl⟩
 all_goals
  go_enter Tryz.func126,Tryz.ntmps126;go_wp2_with fail;refine(HS _ (HE.out.ext xE)).mono ?_;rintro e w1 ⟨v,rfl,c,h1⟩;obtain⟨g,i,rfl⟩:=Joins.ownsRow_form c (by omega);have e0:=aU c 0 (by omega) _ rfl;have e1:=aU c 1 (by omega) _ rfl;have e2:=aU c 2 (by omega) _ rfl;have hg:=(c.lt g rfl).2;obtain⟨j,o⟩:=h1.cells;have f:w.heap.size<w1.heap.size:=Nat.lt_of_lt_of_le (by simp) h1.sz;clear c;go_wp2_with fail;refine(HR _).mono ?_;rintro e w2 ⟨rfl,rfl⟩;go_wp2_with fail;refine(d _).mono ?_;rintro e w2 ⟨rfl,rfl⟩;go_wp2_with fail;refine(HD _ (HE.out.ext xE)).mono ?_;rintro e w2 ⟨rfl,h2⟩;obtain⟨m,s⟩:=h2.cells;have h:w1.heap.size<w2.heap.size:=Nat.lt_of_lt_of_le (by simp) h2.sz;have x:w.heap.size<w2.heap.size:=Nat.lt_trans f h;have hw:=(h1.alloc (.cells #[_,_,_] 44)).trans h2;obtain⟨n,u⟩:=hw.cells;go_wp2;exact bodyPost_ret (v:=rdV (some (_,a,b))) (by simp[results,Tryz.results126,go_sem, *];rfl) rfl ⟨rfl,xE⟩
theorem aAb (l:List UInt8)(w:World)(p q r t:List UInt8)(k a b:Int)(hk:p= [105,110]∧k=0∨p= [112,97,121]∧k=1∨p= [111,117,116]∧k=2∨p= [119,97,105,116]∧k=3∨p= [115,108,105,100,101]∧k=4)(ht:(t==l)=false)
  (HS:Hid (∀w,Env w→Calls Tryz.prog 175 #[str l,.string ⟨#[32]⟩] w fun e w'=> ∃v,e= .returned v∧w'.ownsRow w.heap.size 9 1 v 3 (eX [p,q,r])∧Ext w w'))(HE:Hid (Env w))
  (HR:Hid (∀w,Calls Tryz.prog 125 #[str q,.int .i64 4] w fun e w'=>e= .returned (.tuple #[a,.bool true])∧w=w'))
  (d:Hid (∀w,Calls Tryz.prog 125 #[str r,.int .i64 4] w fun e w'=>e= .returned (.tuple #[b,.bool true])∧w=w'))
  (HD:Hid (∀w,Env w→Calls Tryz.prog 176 #[cI k a b] w fun e w'=>e= .returned (str t)∧Ext w w')):
  Calls Tryz.prog 126 #[str l] w (iE (none) w):=by
 rcases hk with⟨rfl,rfl⟩|⟨rfl,rfl⟩|⟨rfl,rfl⟩|⟨rfl,rfl⟩|⟨rfl,rfl⟩
 all_goals
  go_enter Tryz.func126,Tryz.ntmps126;go_wp2_with fail;refine(HS _ (HE.out.ext xE)).mono ?_;rintro e w1 ⟨v,rfl,c,h1⟩;obtain⟨g,i,rfl⟩:=Joins.ownsRow_form c (by omega);have e0:=aU c 0 (by omega) _ rfl;have e1:=aU c 1 (by omega) _ rfl;have e2:=aU c 2 (by omega) _ rfl;have hg:=(c.lt g rfl).2;obtain⟨j,o⟩:=h1.cells;have f:w.heap.size<w1.heap.size:=Nat.lt_of_lt_of_le (by simp) h1.sz;clear c;go_wp2_with fail;refine(HR _).mono ?_;rintro e w2 ⟨rfl,rfl⟩;go_wp2_with fail;refine(d _).mono ?_;rintro e w2 ⟨rfl,rfl⟩;go_wp2_with fail;refine(HD _ (HE.out.ext xE)).mono ?_;rintro e w2 ⟨rfl,h2⟩;obtain⟨m,s⟩:=h2.cells;have h:w1.heap.size<w2.heap.size:=Nat.lt_of_lt_of_le (by simp) h2.sz;have x:w.heap.size<w2.heap.size:=Nat.lt_trans f h;have hw:=(h1.alloc (.cells #[_,_,_] 44)).trans h2;obtain⟨n,u⟩:=hw.cells;go_wp2;exact bodyPost_ret (v:=rdV none) (by simp[results,Tryz.results126,go_sem, *];rfl) rfl ⟨rfl,xE⟩
end Go.Proofs.YtpelpnfhbepokaaGreatDoor
namespace Go.Proofs.YtpelpnfhbepokaaGreatDoor
open Go.RowKit
set_option linter.unusedVariables false
theorem vU (c:UInt8): ∀(l:List UInt8),(∀p∈cE c l,p.length≤l.length)∧(cE c l).length≤l.length+1:=by
 intro l;induction l with
 |nil=>simp[cE]
 |cons x xs ih=>
  by_cases h:x=c
  ·have e:cE c (x::xs)= []::cE c xs:=by rw[cE,if_pos h]
   rw[e];refine⟨fun p hp=> ?_,by simp;exact ih.2⟩;rcases List.mem_cons.1 hp with rfl|hp
   ·simp
   have:=ih.1 p hp;simp;omega
  have e:cE c (x::xs)=match cE c xs with| []=> [[x]]|p::ps=>(x::p)::ps:=by rw[cE,if_neg h]<;>rfl
  rw[e];cases hq:cE c xs with
  |nil=>exact absurd hq (jS c xs)
  |cons q qs=>
   rw[hq]at ih;refine⟨fun p hp=> ?_,by have:=ih.2;simp at this⊢;omega⟩;rcases List.mem_cons.1 hp with rfl|hp
   ·have:=ih.1 q (by simp);simp;omega
   have:=ih.1 p (by simp[hp]);simp;omega
theorem nS {p:List UInt8}(h:hU p=none):(p== [105,110])=false∧(p== [112,97,121])=false∧(p== [111,117,116])=false∧(p== [119,97,105,116])=false∧(p== [115,108,105,100,101])=false:=by
 unfold hU at h
 repeat' split at h
 all_goals simp_all
theorem eQ {p:List UInt8}{k:Int}(h:hU p=some k):p= [105,110]∧k=0∨p= [112,97,121]∧k=1∨p= [111,117,116]∧k=2∨p= [119,97,105,116]∧k=3∨p= [115,108,105,100,101]∧k=4:=by
 unfold hU at h
 repeat' split at h
 all_goals simp_all
theorem sV (q:List UInt8)(m:Nat)(hm:1≤m∧m≤5)(hq:q.length≤maxLen)(w:World):Calls Tryz.prog 125 #[str q,m] w fun e w'=>e= .returned (.tuple #[((dE m q).getD 0:Int),.bool (dE m q).isSome])∧w=w':=
 uQ ⟨q.toArray⟩ m w hm (by simpa[ByteArray.size]using hq)
theorem aAf (l:List UInt8)(w:World)(hs:l.length<4294967281)(hE:Env w):Calls Tryz.prog 126 #[str l] w (iE (bO l) w):=by
 have hS: ∀w,Env w→Calls Tryz.prog 175 #[str l,.string ⟨#[32]⟩] w fun e w'=> ∃v,e= .returned v∧w'.ownsRow w.heap.size 9 1 v (cE 32 l).length (eX (cE 32 l))∧Ext w w':=
  fun w hE=>aGj ⟨l.toArray⟩ 32 w (by simpa[ByteArray.size]using hs) hE
 have d:=vU 32 l;have c: ∀q∈cE 32 l,∀o,dE 4 q=o→Hid (∀w,Calls Tryz.prog 125 #[str q,.int .i64 4] w fun e w'=>e= .returned (.tuple #[(o.getD 0:Int),.bool o.isSome])∧w=w'):=by intro q hq o ho w;subst ho;exact sV q 4 (by omega) (by have:=d.1 q hq;unfold maxLen;omega) w
 rcases hc:cE 32 l with _|⟨p,_|⟨q,_|⟨r,_|⟨x,rest⟩⟩⟩⟩
 ·exact absurd hc (jS 32 l)
 ·rw[hc]at hS;have e:bO l=none:=by unfold bO;rw[hc]
  rw[e];exact qR l w [p] (by simp) (.inl (by simp)) hS hE
 ·rw[hc]at hS c;cases hk:hU p with
  |none=>
   obtain⟨n1,n2,n3,n4,n5⟩:=nS hk;have e:bO l=none:=by unfold bO;rw[hc];simp[hk]
   rw[e];exact vE l w p q n1 n2 n3 n4 n5 hS hE
  |some k=>
   cases hq:dE 4 q with
   |none=>
    have e:bO l=none:=by unfold bO;rw[hc];simp[hk,hq]
    rw[e];exact aCg l w p q k (eQ hk) hS hE (c q (by simp) _ hq)
   |some a=>
    by_cases ht:aS k a 0=l
    ·skip;have e:bO l=some (k,a,0):=by unfold bO;rw[hc];simp[hk,hq,ht]
     rw[e];exact aAa l w p q (aS k a 0) k a (eQ hk) (by simp[ht]) hS hE (c q (by simp) _ hq) (fun w h=>mD k a 0 w h)
    skip;have e:bO l=none:=by unfold bO;rw[hc];simp[hk,hq,ht]
    rw[e];exact aAc l w p q (aS k a 0) k a (eQ hk) (by simp[ht]) hS hE (c q (by simp) _ hq) (fun w h=>mD k a 0 w h)
 ·rw[hc]at hS c;cases hk:hU p with
  |none=>
   obtain⟨n1,n2,n3,n4,n5⟩:=nS hk;have e:bO l=none:=by unfold bO;rw[hc];simp[hk]
   rw[e];exact vD l w p q r n1 n2 n3 n4 n5 hS hE
  |some k=>
   cases hq:dE 4 q with
   |none=>
    have e:bO l=none:=by unfold bO;rw[hc];simp[hk,hq]
    rw[e];exact aCf l w p q r k (eQ hk) hS hE (c q (by simp) _ hq)
   |some a=>
    cases hr:dE 4 r with
    |none=>
     have e:bO l=none:=by unfold bO;rw[hc];simp[hk,hq,hr]
     rw[e];exact aCe l w p q r k a (eQ hk) hS hE (c q (by simp) _ hq) (c r (by simp) _ hr)
    |some b=>
     by_cases ht:aS k a b=l
     ·skip;have e:bO l=some (k,a,b):=by unfold bO;rw[hc];simp[hk,hq,hr,ht]
      rw[e];exact aA9 l w p q r (aS k a b) k a b (eQ hk) (by simp[ht]) hS hE (c q (by simp) _ hq) (c r (by simp) _ hr) (fun w h=>mD k a b w h)
     skip;have e:bO l=none:=by unfold bO;rw[hc];simp[hk,hq,hr,ht]
     rw[e];exact aAb l w p q r (aS k a b) k a b (eQ hk) (by simp[ht]) hS hE (c q (by simp) _ hq) (c r (by simp) _ hr) (fun w h=>mD k a b w h)
 rw[hc]at hS;have e:bO l=none:=by unfold bO;rw[hc]
 rw[e];exact qR l w (p::q::r::x::rest) (by simp) (.inr (by simp)) hS hE
end Go.Proofs.YtpelpnfhbepokaaGreatDoor
