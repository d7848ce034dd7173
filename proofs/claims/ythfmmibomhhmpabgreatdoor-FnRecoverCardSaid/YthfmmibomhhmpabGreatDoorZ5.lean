/- Lemmas (@packed). -/
import Derived.Test.YthfmmibomhhmpabGreatDoorZ4
namespace Go.Proofs.YthfmmibomhhmpabGreatDoor
open Go.RowKit Go.Proofs.Tryz
set_option linter.all false
set_option maxHeartbeats 8000000
set_option maxRecDepth 100000
variable{first:Int}{bs:List Value}{B:Nat}{T:TypeId}{w':World}(m:Nat)(c:UInt8)(aA aB:Int)(p:OA)(l b b2 f r:List UInt8)(e:Nat)(n:Int)(w:World)(k a b0:Int)(t:List UInt8)(x y:Bool)
theorem aSu: ∀(k n:Nat),n≤k→(Lib.decDigits n).all dR=true∧(n≤9223372036854775807→jM (Lib.decDigits n)=n)∧(1≤n→(Lib.decDigits n).head? ≠some 48):=by
 intro k;induction k with
 |zero=>
  intro n h;obtain rfl:n=0:=by omega
  rw[iC 0 (by omega)];exact⟨by decide,fun _=>by decide,fun h=>by omega⟩
 |succ k ih=>
  intro n h;by_cases h10:n<10
  ·rw[iC n h10];have e:(UInt8.ofNat (48+n)).toNat=48+n:=by simp;omega
   refine⟨?_,fun _=> ?_,fun h1 hh=> ?_⟩
   ·simp[dR];omega
   ·simp[jM];omega
   simp at hh;have:=congrArg UInt8.toNat hh;simp at this;omega
  obtain⟨i1,i2,i3⟩:=ih (n/10) (by omega);rw[nQ n h10];have e:(UInt8.ofNat (48+n%10)).toNat=48+n%10:=by simp;omega
  refine⟨?_,fun hb=> ?_,fun h1=> ?_⟩
  ·simp only[List.all_append,i1,List.all_cons,List.all_nil,Bool.and_true,Bool.true_and,dR,e];simp;omega
  ·rw[tW,i2 (by omega),e];omega
  have hp:=vJ (n/10);cases hd:Lib.decDigits (n/10)with
  |nil=>rw[hd]at hp;simp at hp
  |cons x xs=>have:=i3 (by omega);rw[hd]at this;simpa using this
theorem aVf: ∀(k n:Nat),n<10 ^ (k+1)→(Lib.decDigits n).length≤k+1:=by
 intro k;induction k with
 |zero=>intro n h;rw[iC n (by simpa using h)];simp
 |succ k ih=>
  intro n h;by_cases h10:n<10
  ·rw[iC n h10];simp
  rw[nQ n h10,aW5];have:=ih (n/10) (by rw[Nat.pow_succ]at h;omega);simp;omega
theorem kA (n:Nat)(h:n<10 ^ m)(hm:1≤m)(a:m≤5):bK m (Lib.decDigits n)=some (n:Int):=by
 obtain⟨k,rfl⟩: ∃k,m=k+1:=⟨m-1,by omega⟩
 have hb:n≤99999:=by have:10 ^ (k+1)≤10 ^ 5:=aWi (by omega) a;omega
 obtain⟨a1,a2,a3⟩:=aSu n n (aVz _);rw[vQ (vJ n) (aVf k n h) ?_ a1,a2 (by omega)];by_cases h0:n=0
 ·left;subst h0;rw[iC 0 (by omega)];simp
 right;exact a3 (by omega)
theorem fJ (n:Nat)(c:UInt8)(hc:dR c=false):c∉Lib.decDigits n:=by intro h;have:=(aSu n n (aVz _)).1;rw[aWo]at this;rw[this c h]at hc;simp at hc
theorem lG: ∀l:List UInt8,c∉l→aL c l= [l]:=by
 intro l;induction l with
 |nil=>intro _;rfl
 |cons x xs ih=>
  intro h;have e:aL c (x::xs)=match aL c xs with| []=> [[x]]|p::ps=>(x::p)::ps:=by rw[aL,if_neg (by intro e;exact h (by simp[e]))]<;>rfl
  rw[e,ih (by intro q;exact h (by simp[q]))]
theorem iR: ∀(a b:List UInt8),c∉a→aL c (a++c::b)=a::aL c b:=by
 intro a b;induction a with
 |nil=>intro _;simp[aL]
 |cons x xs ih=>
  intro h;have e:aL c (x::(xs++c::b))=match aL c (xs++c::b)with| []=> [[x]]|p::ps=>(x::p)::ps:=by rw[aL,if_neg (by intro e;exact h (by simp[e]))]<;>rfl
  rw[aXs,e,ih (by intro q;exact h (by simp[q]))]
def kM (p:List UInt8):Option Int:=
 if p= [105,110]then some 0 else if p= [112,97,121]then some 1 else if p= [111,117,116]then some 2 else if p= [119,97,105,116]then some 3 else if p= [115,108,105,100,101]then some 4 else none
theorem oY {p:List UInt8}{k:Int}(h:kM p=some k):0≤k∧k≤4∧p=bZ k:=by
 unfold kM at h
 repeat' split at h
 all_goals simp at h
 all_goals subst h;simp_all [bZ]
theorem oZ (h:0≤k∧k≤4):kM (bZ k)=some k:=by rcases(show k=0∨k=1∨k=2∨k=3∨k=4 by omega)with rfl|rfl|rfl|rfl|rfl<;>decide
def cI (l:List UInt8):Option (Int×Int×Int):=
 match aL 32 l with
 | [p,q]=>match kM p,bK 4 q with
   |some k,some a=>if aZ k a 0=l then some (k,a,0)else none
   |_,_=>none
 | [p,q,r]=>match kM p,bK 4 q,bK 4 r with
   |some k,some a,some b=>if aZ k a b=l then some (k,a,b)else none
   |_,_,_=>none
 |_=>none
def kW (ps:List (List UInt8)):Int×Int×Int:=
 match ps with
 | []=>(-1,0,0)
 | [p]=>((kM p).getD (-1),0,0)
 | [p,q]=>((kM p).getD (-1),(bK 4 q).getD (-1),0)
 |p::q::r::_=>((kM p).getD (-1),(bK 4 q).getD (-1),(bK 4 r).getD (-1))
def oC (l:List UInt8):Option (Int×Int×Int):=
 if l≠ []∧aZ (kW (aL 32 l)).1 (kW (aL 32 l)).2.1 (kW (aL 32 l)).2.2=l then some (kW (aL 32 l))else none
theorem xX {k a b:Int}(h:gQ k a b=true):0≤k∧k≤4∧0≤a∧a≤9999∧0≤b∧b≤9999∧(kH k=true∨b=0):=by simp[gQ]at h;obtain⟨⟨h1,h2,h3,h4,h5,h6⟩,h7⟩:=h;exact⟨h1,h2,h3,h4,h5,h6,by cases hk:kH k<;>simp_all⟩
theorem tE {k a b:Int}(h:aZ k a b≠ []):gQ k a b=true:=by
 unfold aZ at h;split at h
 ·assumption
 simp at h
theorem aEf (k:Int):(32:UInt8)∉bZ k:=by
 unfold bZ
 repeat' split
 all_goals decide
theorem aJk {k a b:Int}(h:gQ k a b=true):aL 32 (aZ k a b)=if kH k then [bZ k,Lib.decDigits a.toNat,Lib.decDigits b.toNat]else [bZ k,Lib.decDigits a.toNat]:=by
 unfold aZ;rw[if_pos h];split
 ·have e:bZ k++ [32]++Lib.decDigits a.toNat++([32]++Lib.decDigits b.toNat)=bZ k++32::(Lib.decDigits a.toNat++32::Lib.decDigits b.toNat):=by simp
  rw[e,iR _ _ _ (aEf k),iR _ _ _ (fJ _ _ (by decide)),lG _ _ (fJ _ _ (by decide))]
 have e:bZ k++ [32]++Lib.decDigits a.toNat++ []=bZ k++32::Lib.decDigits a.toNat:=by simp
 rw[e,iR _ _ _ (aEf k),lG _ _ (fJ _ _ (by decide))]
theorem yS {a:Int}(h0:0≤a)(h1:a≤9999):bK 4 (Lib.decDigits a.toNat)=some a:=by rw[kA 4 a.toNat (by omega) (by omega) (by omega)];congr 1;omega
theorem pH {k a b:Int}(h:gQ k a b=true):cI (aZ k a b)=some (k,a,b):=by
 obtain⟨h1,h2,h3,h4,h5,h6,h7⟩:=xX h;unfold cI;rw[aJk h];cases hk:kH k with
 |true=>simp[oZ k ⟨h1,h2⟩,yS h3 h4,yS h5 h6]
 |false=>
  obtain rfl:b=0:=by simpa[hk]using h7
  simp[oZ k ⟨h1,h2⟩,yS h3 h4]
theorem aJj {k a b:Int}(h:gQ k a b=true):aZ k a b≠ []:=by unfold aZ;rw[if_pos h];simp
theorem aCx {k a b:Int}(h:gQ k a b=true):oC (aZ k a b)=some (k,a,b):=by
 obtain⟨h1,h2,h3,h4,h5,h6,h7⟩:=xX h;have e:kW (aL 32 (aZ k a b))=(k,a,b):=by
  rw[aJk h];cases hk:kH k with
  |true=>simp[kW,oZ k ⟨h1,h2⟩,yS h3 h4,yS h5 h6]
  |false=>
   obtain rfl:b=0:=by simpa[hk]using h7
   simp[kW,oZ k ⟨h1,h2⟩,yS h3 h4]
 unfold oC;rw[e,if_pos ⟨aJj h,rfl⟩]
theorem aDa {l:List UInt8}{k a b:Int}(h:cI l=some (k,a,b)):aZ k a b=l∧gQ k a b=true:=by
 have c:aZ k a b=l∧0≤k∧k≤4∧l≠ []:=by
  have d: ∀p q,aL 32 l=p::q:: []∨(∃r,aL 32 l= [p,q,r])→l≠ []:=by rintro p q h rfl;rcases h with h|⟨r,h⟩<;>simp[aL]at h
  unfold cI at h;split at h
  ·rename_i p q hc;have:=d p q (.inl hc);split at h
   ·rename_i k' a' hk ha;split at h
    ·rename_i ht;simp only[aX3,aX5]at h;obtain⟨rfl,rfl,rfl⟩:=h;exact⟨ht,(oY hk).1,(oY hk).2.1,this⟩
    simp at h
   simp at h
  ·rename_i p q r hc;have:=d p q (.inr ⟨r,hc⟩);split at h
   ·rename_i k' a' b' hk ha hb;split at h
    ·rename_i ht;simp only[aX3,aX5]at h;obtain⟨rfl,rfl,rfl⟩:=h;exact⟨ht,(oY hk).1,(oY hk).2.1,this⟩
    simp at h
   simp at h
  simp at h
 exact⟨c.1,tE (by rw[c.1];exact c.2.2.2)⟩
theorem aHn:oC l=cI l:=by
 cases h:oC l with
 |some d=>
  obtain⟨k,a,b⟩:=d;unfold oC at h;split at h
  ·rename_i hc;simp only[aX3]at h;rw[h]at hc;have ho:=tE (by rw[hc.2];exact hc.1);rw[←hc.2,pH ho]
  simp at h
 |none=>
  cases h2:cI l with
  |none=>rfl
  |some d=>obtain⟨k,a,b⟩:=d;obtain⟨e,ho⟩:=aDa h2;rw[←e,aCx ho]at h;simp at h
def dD (c:UInt8):List UInt8→List UInt8
 | []=> []
 |x::xs=>if x=c then []else x::dD c xs
def fS (c:UInt8):List UInt8→List UInt8
 | []=> []
 |x::xs=>if x=c then xs else fS c xs
theorem eP: ∀(a b:List UInt8),c∉a→dD c (a++c::b)=a∧fS c (a++c::b)=b:=by
 intro a b;induction a with
 |nil=>intro _;simp[dD,fS]
 |cons x xs ih=>
  intro h;obtain⟨i1,i2⟩:=ih (fun q=>h (by simp[q]));have hx:x≠c:=fun q=>h (by simp[q])
  simp[dD,fS,hx,i1,i2]
theorem aF1: ∀(l:List UInt8),(aL c l)[0]? =some (dD c l):=by
 intro l;induction l with
 |nil=>rfl
 |cons x xs ih=>
  by_cases h:x=c
  ·rw[aL,if_pos h,dD,if_pos h]<;>rfl
  have e:aL c (x::xs)=match aL c xs with| []=> [[x]]|p::ps=>(x::p)::ps:=by rw[aL,if_neg h]<;>rfl
  rw[e,dD,if_neg h];cases hq:aL c xs with
  |nil=>exact absurd hq (eX c xs)
  |cons p ps=>rw[hq]at ih;simpa using ih
theorem rO: ∀(l:List UInt8),(dD c l).length≤l.length∧(fS c l).length≤l.length:=by
 intro l;induction l with
 |nil=>simp[dD,fS]
 |cons x xs ih=>simp only[dD,fS];split<;>simp<;>omega
def kJ (c:UInt8)(l:List UInt8):Option Nat:=if c∈l then some (dD c l).length else none
theorem wY (a b:List UInt8)(h:c∉a):kJ c (a++c::b)=some a.length:=by unfold kJ;rw[if_pos (by simp),(eP c a b h).1]
theorem uJ: ∀(l:List UInt8),c∈l→ ∃a b,l=a++c::b∧c∉a:=by
 intro l;induction l with
 |nil=>intro h;simp at h
 |cons x xs ih=>
  intro h;by_cases hx:x=c
  ·exact⟨[],xs,by simp[hx],by simp⟩
  obtain⟨a,b,e,ha⟩:=ih (by rcases aWd.1 h with h|h;exact absurd h.symm hx;exact h);exact⟨x::a,b,by simp[e],by simp[ha];exact fun q=>hx q.symm⟩
theorem gW {c:UInt8}{l:List UInt8}{e:Nat}(h:kJ c l=some e):e<l.length∧l[e]? =some c∧c∉l.take e:=by
 unfold kJ at h;split at h
 ·rename_i hm;obtain⟨a,b,rfl,ha⟩:=uJ c l hm;rw[(eP c a b ha).1]at h;simp only[aX3]at h;subst h;simp[ha]
 simp at h
abbrev fH:=Int×Int×Int
def cV (l:List UInt8):Option (Int×fH×Nat):=
 match kJ 59 l with
 |none=>none
 |some e=>
  match bK 2 (dD 58 (dD 35 (l.take e))),cI (fS 58 (dD 35 (l.take e)))with
  |some n,some d=>if bN n d.1 d.2.1 d.2.2=l.take (e+1)then some (n,d,e+1)else none
  |_,_=>none
def iE (l:List UInt8):Option (Int×fH×Nat):=
 match kJ 59 l with
 |none=>none
 |some e=>
  match aL 58 (dD 35 (l.take e))with
  | [f,r]=>match cI r with
    |some d=>if bN ((bK 4 f).getD (-1)) d.1 d.2.1 d.2.2=l.take (e+1)then some ((bK 4 f).getD (-1),d,e+1)else none
    |none=>none
  |_=>none
theorem aCk {k a b:Int}(h:gQ k a b=true):(35:UInt8)∉aZ k a b∧(58:UInt8)∉aZ k a b∧(59:UInt8)∉aZ k a b:=by
 have hn: ∀c:UInt8,c=35∨c=58∨c=59→c∉bZ k:=by
  intro c hc;unfold bZ
  repeat' split
  all_goals rcases hc with rfl|rfl|rfl<;>decide
 have hd: ∀c:UInt8,c=35∨c=58∨c=59→ ∀n,c∉Lib.decDigits n:=by intro c hc n;exact fJ n c (by rcases hc with rfl|rfl|rfl<;>decide)
 have d: ∀c:UInt8,c=35∨c=58∨c=59→c∉aZ k a b:=by
  intro c hc;have h1:=hn c hc;have h2:=hd c hc;have h3:c≠32:=by rcases hc with rfl|rfl|rfl<;>decide
  unfold aZ;rw[if_pos h];split
  ·simp[h1,h2,h3]
  simp[h1,h2,h3]
 exact⟨d _ (by simp),d _ (by simp),d _ (by simp)⟩
theorem jS {n k a b:Int}(h:bN n k a b≠ []):1≤n∧n≤99∧gQ k a b=true∧
  bN n k a b=Lib.decDigits n.toNat++58::aZ k a b++35::Lib.decDigits (mD (Lib.decDigits n.toNat++ [58]++aZ k a b)).toNat++ [59]:=by
 unfold bN aAr at h⊢;split at h
 ·rename_i hc;refine⟨hc.1,hc.2.1,tE hc.2.2,?_⟩;rw[if_pos hc];simp[jH]
 simp at h
theorem aJg {n k a b:Int}(h:bN n k a b≠ []): ∃F:List UInt8,bN n k a b=F++ [59]∧(59:UInt8)∉F∧dD 35 F=Lib.decDigits n.toNat++58::aZ k a b:=by
 obtain⟨h1,h2,ho,e⟩:=jS h;obtain⟨d1,d2,d3⟩:=aCk ho;refine⟨Lib.decDigits n.toNat++58::aZ k a b++35::Lib.decDigits (mD (Lib.decDigits n.toNat++ [58]++aZ k a b)).toNat,e,?_,?_⟩
 ·have q1:=fJ n.toNat 59 (by decide);have q2:=fJ (mD (Lib.decDigits n.toNat++ [58]++aZ k a b)).toNat 59 (by decide);simp only[aWh,aWd,not_or];exact⟨⟨q1,by decide,d3⟩,by decide,q2⟩
 refine(eP 35 _ _ ?_).1;have q1:=fJ n.toNat 35 (by decide);simp only[aWh,aWd,not_or];exact⟨q1,by decide,d1⟩
theorem aE9 (hm:2≤m)(a:m≤5){n:Int}(h0:1≤n)(h1:n≤99):bK m (Lib.decDigits n.toNat)=some n:=by
 have:n.toNat<10 ^ m:=by have:10 ^ 2≤10 ^ m:=aWi (by omega) hm;omega
 rw[kA m n.toNat this (by omega) a];congr 1;omega
theorem sN {n k a b:Int}(h:bN n k a b≠ [])(R:List UInt8):cV (bN n k a b++R)=some (n,(k,a,b),(bN n k a b).length)∧
  iE (bN n k a b++R)=some (n,(k,a,b),(bN n k a b).length):=by
 obtain⟨h1,h2,ho,_⟩:=jS h;obtain⟨F,e,hF,hc⟩:=aJg h;obtain⟨d1,d2,d3⟩:=aCk ho;have hp:kJ 59 (bN n k a b++R)=some F.length:=by rw[e];simp only[aWu,List.singleton_append];exact wY 59 F R hF
 have ht:(bN n k a b++R).take F.length=F:=by rw[e];simp
 have d:(bN n k a b++R).take (F.length+1)=bN n k a b:=by
  have:F.length+1=(bN n k a b).length:=by rw[e];simp
  rw[this];simp
 have hl:F.length+1=(bN n k a b).length:=by rw[e];simp
 have c:=fJ n.toNat 58 (by decide);constructor
 ·unfold cV;rw[hp];simp only[ht,d,hc];rw[(eP 58 _ _ c).1,(eP 58 _ _ c).2,aE9 2 (by omega) (by omega) h1 h2,pH ho];simp[hl]
 unfold iE;rw[hp];simp only[ht,d,hc];rw[iR 58 _ _ c,lG 58 _ d2];simp only[pH ho,aE9 4 (by omega) (by omega) h1 h2];simp[hl]
theorem aMl {l:List UInt8}{e:Nat}(h:kJ 59 l=some e):l.take (e+1)≠ []:=by have:=gW h;intro q;have:=congrArg List.length q;rw[aWn,List.length_nil]at this;omega
theorem sO {l:List UInt8}{n k a b:Int}{m:Nat}(h:cV l=some (n,(k,a,b),m)):bN n k a b≠ []∧l=bN n k a b++l.drop m∧m=(bN n k a b).length:=by
 unfold cV at h;split at h
 ·simp at h
 rename_i e hp;split at h
 ·rename_i n' d hn hd;split at h
  ·rename_i ht;simp only[aX3,aX5]at h;obtain⟨rfl,rfl,rfl⟩:=h;have:=gW hp;refine⟨by rw[ht];exact aMl hp,by rw[ht];simp,by rw[ht];simp;omega⟩
  simp at h
 simp at h
theorem vO {l:List UInt8}{n k a b:Int}{m:Nat}(h:iE l=some (n,(k,a,b),m)):bN n k a b≠ []∧l=bN n k a b++l.drop m∧m=(bN n k a b).length:=by
 unfold iE at h;split at h
 ·simp at h
 rename_i e hp;split at h
 ·split at h
  ·split at h
   ·rename_i ht;simp only[aX3,aX5]at h;obtain⟨rfl,rfl,rfl⟩:=h;have:=gW hp;refine⟨by rw[ht];exact aMl hp,by rw[ht];simp,by rw[ht];simp;omega⟩
   simp at h
  simp at h
 simp at h
theorem yM:iE l=cV l:=by
 cases h:iE l with
 |some x=>obtain⟨n,⟨k,a,b⟩,m⟩:=x;obtain⟨h1,h2,h3⟩:=vO h;rw[h2,(sN h1 _).1,h3]
 |none=>
  cases h2:cV l with
  |none=>rfl
  |some x=>obtain⟨n,⟨k,a,b⟩,m⟩:=x;obtain⟨q1,q2,q3⟩:=sO h2;rw[q2,(sN q1 _).2]at h;simp at h
def rdV:Option (Int×Int×Int)→Value
 |some (k,a,b)=> .tuple #[cS k a b,.bool true]
 |none=> .tuple #[cS 0 0 0,.bool false]
def oN (o:Option (Int×Int×Int))(w:World)(e:Ending)(w':World):Prop:=e= .returned (rdV o)∧Ext w w'
theorem aY {w:World}{base g n a:Nat}{e:TypeId}{ps:List (List UInt8)}(h:w.ownsRow base e 1 (.slice (some ⟨g,0,none⟩) n a) n (eY ps))(j:Nat)(hj:j<n)(p:List UInt8)(hp:ps[j]? =some p):w.cell? ⟨g,j,none⟩=some (str p):=by rw[h.cellAt j (by omega)];simp[eY,hp]
theorem xJ (w:World)(ps:List (List UInt8))(b:0<ps.length)(hl:ps.length<2∨2≤ps.length∧3<ps.length)(HS:Hid (∀w,Env w→U 98 #[str l,.string ⟨#[32]⟩] w (aYx 9 1 ps.length (eY ps) w)))(HE:Hid (Env w)):
  U 68 #[str l] w (oN none w):=by
 rcases hl with hl|⟨h,hl⟩
 all_goals
  go_enter func68,ntmps68;go_wp2_with fail;refine(HS _ (HE.out.ext xE)).mono ?_;rintro e w1 ⟨v,rfl,a,h1⟩;obtain⟨g,c,rfl⟩:=aWb a b;obtain⟨d,f⟩:=h1.cells;go_wp2;exact bodyPost_ret (v:=rdV none) (by simp[results,results68,go_sem, *];rfl) rfl ⟨rfl,xE⟩
theorem aC2 (w:World)(p q:List UInt8)(n1:(p== [105,110])=false)(n2:(p== [112,97,121])=false)(n3:(p== [111,117,116])=false)(n4:(p== [119,97,105,116])=false)(n5:(p== [115,108,105,100,101])=false)(HS:Hid (∀w,Env w→U 98 #[str l,.string ⟨#[32]⟩] w (aYx 9 1 2 (eY [p,q]) w)))(HE:Hid (Env w)):
  U 68 #[str l] w (oN none w):=by
 all_goals
  go_enter func68,ntmps68;go_wp2_with fail;refine(HS _ (HE.out.ext xE)).mono ?_;rintro e w1 ⟨v,rfl,a,h1⟩;obtain⟨g,b,rfl⟩:=aWb a (by omega);have e0:=aY a 0 (by omega) _ rfl;have hg:=(a.lt g rfl).2;obtain⟨c,d⟩:=h1.cells;have f:(w:Nat)<w1:=aVy (by simp) h1.sz;go_wp2;exact bodyPost_ret (v:=rdV none) (by simp[results,results68,go_sem, *];rfl) rfl ⟨rfl,xE⟩
theorem aIs (w:World)(p q:List UInt8)(k:Int)(hk:p= [105,110]∧k=0∨p= [112,97,121]∧k=1∨p= [111,117,116]∧k=2∨p= [119,97,105,116]∧k=3∨p= [115,108,105,100,101]∧k=4)(HS:Hid (∀w,Env w→U 98 #[str l,.string ⟨#[32]⟩] w (aYx 9 1 2 (eY [p,q]) w)))(HE:Hid (Env w))(HR:Hid (∀w,U 55 #[str q,I 4] w fun e w'=>e= .returned (.tuple #[(),.bool false])∧w=w')):
  U 68 #[str l] w (oN none w):=by
 rcases hk with⟨rfl,rfl⟩|⟨rfl,rfl⟩|⟨rfl,rfl⟩|⟨rfl,rfl⟩|⟨rfl,rfl⟩
 all_goals
  go_enter func68,ntmps68;go_wp2_with fail;refine(HS _ (HE.out.ext xE)).mono ?_;rintro e w1 ⟨v,rfl,a,h1⟩;obtain⟨g,b,rfl⟩:=aWb a (by omega);have e0:=aY a 0 (by omega) _ rfl;have e1:=aY a 1 (by omega) _ rfl;have hg:=(a.lt g rfl).2;obtain⟨c,d⟩:=h1.cells;have f:(w:Nat)<w1:=aVy (by simp) h1.sz;go_wp2_with fail;refine(HR _).mono ?_;rintro e w2 ⟨rfl,rfl⟩;go_wp2;exact bodyPost_ret (v:=rdV none) (by simp[results,results68,go_sem, *];rfl) rfl ⟨rfl,xE⟩
theorem aC1 (w:World)(p q r:List UInt8)(n1:(p== [105,110])=false)(n2:(p== [112,97,121])=false)(n3:(p== [111,117,116])=false)(n4:(p== [119,97,105,116])=false)(n5:(p== [115,108,105,100,101])=false)(HS:Hid (∀w,Env w→U 98 #[str l,.string ⟨#[32]⟩] w (aYx 9 1 3 (eY [p,q,r]) w)))(HE:Hid (Env w)):
  U 68 #[str l] w (oN none w):=by
 all_goals
  go_enter func68,ntmps68;go_wp2_with fail;refine(HS _ (HE.out.ext xE)).mono ?_;rintro e w1 ⟨v,rfl,a,h1⟩;obtain⟨g,b,rfl⟩:=aWb a (by omega);have e0:=aY a 0 (by omega) _ rfl;have hg:=(a.lt g rfl).2;obtain⟨c,d⟩:=h1.cells;have f:(w:Nat)<w1:=aVy (by simp) h1.sz;go_wp2;exact bodyPost_ret (v:=rdV none) (by simp[results,results68,go_sem, *];rfl) rfl ⟨rfl,xE⟩
theorem aIr (w:World)(p q r:List UInt8)(k:Int)(hk:p= [105,110]∧k=0∨p= [112,97,121]∧k=1∨p= [111,117,116]∧k=2∨p= [119,97,105,116]∧k=3∨p= [115,108,105,100,101]∧k=4)(HS:Hid (∀w,Env w→U 98 #[str l,.string ⟨#[32]⟩] w (aYx 9 1 3 (eY [p,q,r]) w)))(HE:Hid (Env w))(HR:Hid (∀w,U 55 #[str q,I 4] w fun e w'=>e= .returned (.tuple #[(),.bool false])∧w=w')):
  U 68 #[str l] w (oN none w):=by
 rcases hk with⟨rfl,rfl⟩|⟨rfl,rfl⟩|⟨rfl,rfl⟩|⟨rfl,rfl⟩|⟨rfl,rfl⟩
 all_goals
  go_enter func68,ntmps68;go_wp2_with fail;refine(HS _ (HE.out.ext xE)).mono ?_;rintro e w1 ⟨v,rfl,a,h1⟩;obtain⟨g,b,rfl⟩:=aWb a (by omega);have e0:=aY a 0 (by omega) _ rfl;have e1:=aY a 1 (by omega) _ rfl;have hg:=(a.lt g rfl).2;obtain⟨c,d⟩:=h1.cells;have f:(w:Nat)<w1:=aVy (by simp) h1.sz;go_wp2_with fail;refine(HR _).mono ?_;rintro e w2 ⟨rfl,rfl⟩;go_wp2;exact bodyPost_ret (v:=rdV none) (by simp[results,results68,go_sem, *];rfl) rfl ⟨rfl,xE⟩
theorem aIq (w:World)(p q r:List UInt8)(k a:Int)(hk:p= [105,110]∧k=0∨p= [112,97,121]∧k=1∨p= [111,117,116]∧k=2∨p= [119,97,105,116]∧k=3∨p= [115,108,105,100,101]∧k=4)(HS:Hid (∀w,Env w→U 98 #[str l,.string ⟨#[32]⟩] w (aYx 9 1 3 (eY [p,q,r]) w)))(HE:Hid (Env w))(HR:Hid (∀w,U 55 #[str q,I 4] w fun e w'=>e= .returned (.tuple #[a,.bool true])∧w=w'))(c:Hid (∀w,U 55 #[str r,I 4] w fun e w'=>e= .returned (.tuple #[(),.bool false])∧w=w')):
  U 68 #[str l] w (oN none w):=by
 rcases hk with⟨rfl,rfl⟩|⟨rfl,rfl⟩|⟨rfl,rfl⟩|⟨rfl,rfl⟩|⟨rfl,rfl⟩
 all_goals
  go_enter func68,ntmps68;go_wp2_with fail;refine(HS _ (HE.out.ext xE)).mono ?_;rintro e w1 ⟨v,rfl,b,h1⟩;obtain⟨g,d,rfl⟩:=aWb b (by omega);have e0:=aY b 0 (by omega) _ rfl;have e1:=aY b 1 (by omega) _ rfl;have e2:=aY b 2 (by omega) _ rfl;have hg:=(b.lt g rfl).2;obtain⟨f,h⟩:=h1.cells;have i:(w:Nat)<w1:=aVy (by simp) h1.sz;go_wp2_with fail;refine(HR _).mono ?_;rintro e w2 ⟨rfl,rfl⟩;go_wp2_with fail;refine(c _).mono ?_;rintro e w2 ⟨rfl,rfl⟩;go_wp2;exact bodyPost_ret (v:=rdV none) (by simp[results,results68,go_sem, *];rfl) rfl ⟨rfl,xE⟩
theorem aGc (w:World)(p q t:List UInt8)(k a:Int)(hk:p= [105,110]∧k=0∨p= [112,97,121]∧k=1∨p= [111,117,116]∧k=2∨p= [119,97,105,116]∧k=3∨p= [115,108,105,100,101]∧k=4)(ht:(t==l)=true)(HS:Hid (∀w,Env w→U 98 #[str l,.string ⟨#[32]⟩] w (aYx 9 1 2 (eY [p,q]) w)))(HE:Hid (Env w))(HR:Hid (∀w,U 55 #[str q,I 4] w fun e w'=>e= .returned (.tuple #[a,.bool true])∧w=w'))(HD:Hid (∀w,Env w→U 108 #[cS k a 0] w (Z (str t) w))):
  U 68 #[str l] w (oN (some (k,a,0)) w):=by
 rcases hk with⟨rfl,rfl⟩|⟨rfl,rfl⟩|⟨rfl,rfl⟩|⟨rfl,rfl⟩|⟨rfl,rfl⟩
 all_goals
  go_enter func68,ntmps68;go_wp2_with fail;refine(HS _ (HE.out.ext xE)).mono ?_;rintro e w1 ⟨v,rfl,b,h1⟩;obtain⟨g,c,rfl⟩:=aWb b (by omega);have e0:=aY b 0 (by omega) _ rfl;have e1:=aY b 1 (by omega) _ rfl;have hg:=(b.lt g rfl).2;obtain⟨d,i⟩:=h1.cells;have n:(w:Nat)<w1:=aVy (by simp) h1.sz;go_wp2_with fail;refine(HR _).mono ?_;rintro e w2 ⟨rfl,rfl⟩;go_wp2_with fail;refine Ω (HD _ (HE.out.ext xE)) fun w2 h2=>?_
  obtain⟨f,j⟩:=h2.cells;have hw:=(h1.alloc (.cells #[_,_,_] 70)).trans h2;obtain⟨h,m⟩:=hw.cells;go_wp2;exact bodyPost_ret (v:=rdV (some (_,a,0))) (by simp[results,results68,go_sem, *];rfl) rfl ⟨rfl,xE⟩
theorem aGe (w:World)(p q t:List UInt8)(k a:Int)(hk:p= [105,110]∧k=0∨p= [112,97,121]∧k=1∨p= [111,117,116]∧k=2∨p= [119,97,105,116]∧k=3∨p= [115,108,105,100,101]∧k=4)(ht:(t==l)=false)(HS:Hid (∀w,Env w→U 98 #[str l,.string ⟨#[32]⟩] w (aYx 9 1 2 (eY [p,q]) w)))(HE:Hid (Env w))(HR:Hid (∀w,U 55 #[str q,I 4] w fun e w'=>e= .returned (.tuple #[a,.bool true])∧w=w'))(HD:Hid (∀w,Env w→U 108 #[cS k a 0] w (Z (str t) w))):
  U 68 #[str l] w (oN (none) w):=by
 rcases hk with⟨rfl,rfl⟩|⟨rfl,rfl⟩|⟨rfl,rfl⟩|⟨rfl,rfl⟩|⟨rfl,rfl⟩
 all_goals
  go_enter func68,ntmps68;go_wp2_with fail;refine(HS _ (HE.out.ext xE)).mono ?_;rintro e w1 ⟨v,rfl,b,h1⟩;obtain⟨g,c,rfl⟩:=aWb b (by omega);have e0:=aY b 0 (by omega) _ rfl;have e1:=aY b 1 (by omega) _ rfl;have hg:=(b.lt g rfl).2;obtain⟨d,i⟩:=h1.cells;have n:(w:Nat)<w1:=aVy (by simp) h1.sz;go_wp2_with fail;refine(HR _).mono ?_;rintro e w2 ⟨rfl,rfl⟩;go_wp2_with fail;refine Ω (HD _ (HE.out.ext xE)) fun w2 h2=>?_
  obtain⟨f,j⟩:=h2.cells;have hw:=(h1.alloc (.cells #[_,_,_] 70)).trans h2;obtain⟨h,m⟩:=hw.cells;go_wp2;exact bodyPost_ret (v:=rdV none) (by simp[results,results68,go_sem, *];rfl) rfl ⟨rfl,xE⟩
theorem aGb (w:World)(p q r t:List UInt8)(k a b:Int)(hk:p= [105,110]∧k=0∨p= [112,97,121]∧k=1∨p= [111,117,116]∧k=2∨p= [119,97,105,116]∧k=3∨p= [115,108,105,100,101]∧k=4)(ht:(t==l)=true)(HS:Hid (∀w,Env w→U 98 #[str l,.string ⟨#[32]⟩] w (aYx 9 1 3 (eY [p,q,r]) w)))(HE:Hid (Env w))(HR:Hid (∀w,U 55 #[str q,I 4] w fun e w'=>e= .returned (.tuple #[a,.bool true])∧w=w'))(d:Hid (∀w,U 55 #[str r,I 4] w fun e w'=>e= .returned (.tuple #[b,.bool true])∧w=w'))(HD:Hid (∀w,Env w→U 108 #[cS k a b] w (Z (str t) w))):
  U 68 #[str l] w (oN (some (k,a,b)) w):=by
 rcases hk with⟨rfl,rfl⟩|⟨rfl,rfl⟩|⟨rfl,rfl⟩|⟨rfl,rfl⟩|⟨rfl,rfl⟩
 all_goals
  go_enter func68,ntmps68;go_wp2_with fail;refine(HS _ (HE.out.ext xE)).mono ?_;rintro e w1 ⟨v,rfl,c,h1⟩;obtain⟨g,f,rfl⟩:=aWb c (by omega);have e0:=aY c 0 (by omega) _ rfl;have e1:=aY c 1 (by omega) _ rfl;have e2:=aY c 2 (by omega) _ rfl;have hg:=(c.lt g rfl).2;obtain⟨h,m⟩:=h1.cells;have s:(w:Nat)<w1:=aVy (by simp) h1.sz;go_wp2_with fail;refine(HR _).mono ?_;rintro e w2 ⟨rfl,rfl⟩;go_wp2_with fail;refine(d _).mono ?_;rintro e w2 ⟨rfl,rfl⟩;go_wp2_with fail;refine Ω (HD _ (HE.out.ext xE)) fun w2 h2=>?_
  obtain⟨i,n⟩:=h2.cells;have hw:=(h1.alloc (.cells #[_,_,_] 70)).trans h2;obtain⟨j,o⟩:=hw.cells;go_wp2;exact bodyPost_ret (v:=rdV (some (_,a,b))) (by simp[results,results68,go_sem, *];rfl) rfl ⟨rfl,xE⟩
theorem aGd (w:World)(p q r t:List UInt8)(k a b:Int)(hk:p= [105,110]∧k=0∨p= [112,97,121]∧k=1∨p= [111,117,116]∧k=2∨p= [119,97,105,116]∧k=3∨p= [115,108,105,100,101]∧k=4)(ht:(t==l)=false)(HS:Hid (∀w,Env w→U 98 #[str l,.string ⟨#[32]⟩] w (aYx 9 1 3 (eY [p,q,r]) w)))(HE:Hid (Env w))(HR:Hid (∀w,U 55 #[str q,I 4] w fun e w'=>e= .returned (.tuple #[a,.bool true])∧w=w'))(d:Hid (∀w,U 55 #[str r,I 4] w fun e w'=>e= .returned (.tuple #[b,.bool true])∧w=w'))(HD:Hid (∀w,Env w→U 108 #[cS k a b] w (Z (str t) w))):
  U 68 #[str l] w (oN (none) w):=by
 rcases hk with⟨rfl,rfl⟩|⟨rfl,rfl⟩|⟨rfl,rfl⟩|⟨rfl,rfl⟩|⟨rfl,rfl⟩
 all_goals
  go_enter func68,ntmps68;go_wp2_with fail;refine(HS _ (HE.out.ext xE)).mono ?_;rintro e w1 ⟨v,rfl,c,h1⟩;obtain⟨g,f,rfl⟩:=aWb c (by omega);have e0:=aY c 0 (by omega) _ rfl;have e1:=aY c 1 (by omega) _ rfl;have e2:=aY c 2 (by omega) _ rfl;have hg:=(c.lt g rfl).2;obtain⟨h,m⟩:=h1.cells;have s:(w:Nat)<w1:=aVy (by simp) h1.sz;go_wp2_with fail;refine(HR _).mono ?_;rintro e w2 ⟨rfl,rfl⟩;go_wp2_with fail;refine(d _).mono ?_;rintro e w2 ⟨rfl,rfl⟩;go_wp2_with fail;refine Ω (HD _ (HE.out.ext xE)) fun w2 h2=>?_
  obtain⟨i,n⟩:=h2.cells;have hw:=(h1.alloc (.cells #[_,_,_] 70)).trans h2;obtain⟨j,o⟩:=hw.cells;go_wp2;exact bodyPost_ret (v:=rdV none) (by simp[results,results68,go_sem, *];rfl) rfl ⟨rfl,xE⟩
theorem eK (c:UInt8): ∀(l:List UInt8),(∀p∈aL c l,p.length≤l.length)∧(aL c l).length≤l.length+1:=by
 intro l;induction l with
 |nil=>simp[aL]
 |cons x xs ih=>
  by_cases h:x=c
  ·have e:aL c (x::xs)= []::aL c xs:=by rw[aL,if_pos h]
   rw[e];refine⟨fun p hp=> ?_,by simp;exact ih.2⟩;rcases aWd.1 hp with rfl|hp
   ·simp
   have:=ih.1 p hp;simp;omega
  have e:aL c (x::xs)=match aL c xs with| []=> [[x]]|p::ps=>(x::p)::ps:=by rw[aL,if_neg h]<;>rfl
  rw[e];cases hq:aL c xs with
  |nil=>exact absurd hq (eX c xs)
  |cons q qs=>
   rw[hq]at ih;refine⟨fun p hp=> ?_,by have:=ih.2;simp at this⊢;omega⟩;rcases aWd.1 hp with rfl|hp
   ·have:=ih.1 q (by simp);simp;omega
   have:=ih.1 p (by simp[hp]);simp;omega
theorem sS {p:List UInt8}(h:kM p=none):(p== [105,110])=false∧(p== [112,97,121])=false∧(p== [111,117,116])=false∧(p== [119,97,105,116])=false∧(p== [115,108,105,100,101])=false:=by
 unfold kM at h
 repeat' split at h
 all_goals simp_all
theorem gY {p:List UInt8}{k:Int}(h:kM p=some k):p= [105,110]∧k=0∨p= [112,97,121]∧k=1∨p= [111,117,116]∧k=2∨p= [119,97,105,116]∧k=3∨p= [115,108,105,100,101]∧k=4:=by
 unfold kM at h
 repeat' split at h
 all_goals simp_all
theorem mV (q:List UInt8)(m:Nat)(hm:1≤m∧m≤5)(hq:q.length≤maxLen)(w:World):U 55 #[str q,m] w fun e w'=>e= .returned (.tuple #[((bK m q).getD 0:Int),.bool (bK m q).isSome])∧w=w':=
 aBg ⟨q.toArray⟩ m w hm (by simpa[ByteArray.size]using hq)
theorem aGj (hs:l.length<4294967281)(hE:Env w):U 68 #[str l] w (oN (cI l) w):=by
 have hS: ∀w,Env w→U 98 #[str l,.string ⟨#[32]⟩] w (aYx 9 1 (aL 32 l).length (eY (aL 32 l)) w):=
  fun w hE=>tR ⟨l.toArray⟩ 32 w (by simpa[ByteArray.size]using hs) hE
 have d:=eK 32 l;have c: ∀q∈aL 32 l,∀o,bK 4 q=o→Hid (∀w,U 55 #[str q,I 4] w fun e w'=>e= .returned (.tuple #[(o.getD 0:Int),.bool o.isSome])∧w=w'):=by intro q hq o ho w;subst ho;exact mV q 4 (by omega) (by have:=d.1 q hq;unfold maxLen;omega) w
 rcases hc:aL 32 l with _|⟨p,_|⟨q,_|⟨r,_|⟨x,rest⟩⟩⟩⟩
 ·exact absurd hc (eX 32 l)
 ·rw[hc]at hS;have e:cI l=none:=by unfold cI;rw[hc]
  rw[e];exact xJ l w [p] (by simp) (.inl (by simp)) hS hE
 ·rw[hc]at hS c;cases hk:kM p with
  |none=>
   obtain⟨n1,n2,n3,n4,n5⟩:=sS hk;have e:cI l=none:=by unfold cI;rw[hc];simp[hk]
   rw[e];exact aC2 l w p q n1 n2 n3 n4 n5 hS hE
  |some k=>
   cases hq:bK 4 q with
   |none=>
    have e:cI l=none:=by unfold cI;rw[hc];simp[hk,hq]
    rw[e];exact aIs l w p q k (gY hk) hS hE (c q (by simp) _ hq)
   |some a=>
    by_cases ht:aZ k a 0=l
    ·skip;have e:cI l=some (k,a,0):=by unfold cI;rw[hc];simp[hk,hq,ht]
     rw[e];exact aGc l w p q (aZ k a 0) k a (gY hk) (by simp[ht]) hS hE (c q (by simp) _ hq) (fun w h=>qF k a 0 w h)
    skip;have e:cI l=none:=by unfold cI;rw[hc];simp[hk,hq,ht]
    rw[e];exact aGe l w p q (aZ k a 0) k a (gY hk) (by simp[ht]) hS hE (c q (by simp) _ hq) (fun w h=>qF k a 0 w h)
 ·rw[hc]at hS c;cases hk:kM p with
  |none=>
   obtain⟨n1,n2,n3,n4,n5⟩:=sS hk;have e:cI l=none:=by unfold cI;rw[hc];simp[hk]
   rw[e];exact aC1 l w p q r n1 n2 n3 n4 n5 hS hE
  |some k=>
   cases hq:bK 4 q with
   |none=>
    have e:cI l=none:=by unfold cI;rw[hc];simp[hk,hq]
    rw[e];exact aIr l w p q r k (gY hk) hS hE (c q (by simp) _ hq)
   |some a=>
    cases hr:bK 4 r with
    |none=>
     have e:cI l=none:=by unfold cI;rw[hc];simp[hk,hq,hr]
     rw[e];exact aIq l w p q r k a (gY hk) hS hE (c q (by simp) _ hq) (c r (by simp) _ hr)
    |some b=>
     by_cases ht:aZ k a b=l
     ·skip;have e:cI l=some (k,a,b):=by unfold cI;rw[hc];simp[hk,hq,hr,ht]
      rw[e];exact aGb l w p q r (aZ k a b) k a b (gY hk) (by simp[ht]) hS hE (c q (by simp) _ hq) (c r (by simp) _ hr) (fun w h=>qF k a b w h)
     skip;have e:cI l=none:=by unfold cI;rw[hc];simp[hk,hq,hr,ht]
     rw[e];exact aGd l w p q r (aZ k a b) k a b (gY hk) (by simp[ht]) hS hE (c q (by simp) _ hq) (c r (by simp) _ hr) (fun w h=>qF k a b w h)
 rw[hc]at hS;have e:cI l=none:=by unfold cI;rw[hc]
 rw[e];exact xJ l w (p::q::r::x::rest) (by simp) (.inr (by simp)) hS hE
theorem aAa: ∀l:List UInt8,c∉l→dD c l=l∧fS c l= []:=by
 intro l;induction l with
 |nil=>intro _;exact⟨rfl,rfl⟩
 |cons x xs ih=>
  intro h;have hx:x≠c:=fun q=>h (by simp[q])
  obtain⟨i1,i2⟩:=ih (fun q=>h (by simp[q]));simp[dD,fS,hx,i1,i2]
theorem aIn (a b:List UInt8)(h:c∉a):Lib.index (a++c::b) [c]=a.length:=by
 rcases uC c (a++c::b)with⟨h1,h2,h3⟩|⟨i,h1,h2,h3,h4⟩
 ·exact absurd (by simp) h3
 have e:=aF1 c (a++c::b);rw[h3,(eP c a b h).1]at e;simp only[aYg,aX3]at e;have:=congrArg List.length e;simp at this h2;rw[h1];omega
theorem aUx:(Lib.cut l [c]).1=dD c l∧(Lib.cut l [c]).2.1=fS c l:=by
 by_cases h:c∈l
 ·obtain⟨a,b,rfl,ha⟩:=uJ c l h;unfold Lib.cut;rw[aIn c a b ha,if_pos (by omega),(eP c a b ha).1,(eP c a b ha).2];simp
 have e:Lib.index l [c]= -1:=by
  rcases uC c l with⟨h1,_⟩|⟨i,h1,h2,h3,h4⟩
  ·exact h1
  exfalso;have e2:=lG c l h;rw[h3]at e2;have:=congrArg List.length e2;simp at this;exact absurd this (eX c _)
 unfold Lib.cut;rw[e,if_neg (by omega),(aAa c l h).1,(aAa c l h).2];exact⟨rfl,rfl⟩
theorem aDf:Lib.indexByte l c=match kJ c l with|some e=>(e:Int)|none=> -1:=by
 by_cases h:c∈l
 ·obtain⟨a,b,rfl,ha⟩:=uJ c l h;rw[wY c a b ha];have hg:=Lib.indexByte_ge (a++c::b) c;by_cases h1:Lib.indexByte (a++c::b) c= -1
  ·exact absurd (by simp) (Lib.indexByte_none h1 a.length)
  obtain⟨o,ho⟩:=aWk (show 0≤Lib.indexByte (a++c::b) c by omega);obtain⟨s1,s2⟩:=Lib.indexByte_some ho;have:o=a.length:=by
   rcases Nat.lt_trichotomy o a.length with q|q|q
   ·rw[aWl q]at s1;exact absurd (aW1 s1) ha
   ·exact q
   exact absurd (by simp) (s2 a.length q)
  rw[ho,this]
 have e:kJ c l=none:=by unfold kJ;rw[if_neg h]
 rw[e];by_cases h1:Lib.indexByte l c= -1
 ·exact h1
 have hg:=Lib.indexByte_ge l c;obtain⟨o,ho⟩:=aWk (show 0≤Lib.indexByte l c by omega);exact absurd (aW1 (Lib.indexByte_some ho).1) h
theorem aCm (c:UInt8)(w:World)(hs:l.length<4294967281)(hE:Env w):
  U 54 #[str l,.string ⟨#[c]⟩] w (Z (.tuple #[str (dD c l),str (fS c l),.bool (Lib.cut l [c]).2.2]) w):=by
 obtain⟨m,hm⟩:=hE.mx;refine(Tryz.strings_Cut ⟨l.toArray⟩ ⟨#[c]⟩ m w (by simpa[ByteArray.size]using hs) hm).mono ?_;rintro e w' ⟨rfl,n,rfl⟩;obtain⟨c1,c2⟩:=aUx c l;refine⟨?_,(Ext.refl _).drewN _⟩;show Ending.returned (.tuple #[.string ⟨(Lib.cut l [c]).1.toArray⟩,.string ⟨(Lib.cut l [c]).2.1.toArray⟩,.bool (Lib.cut l [c]).2.2])=_;rw[c1,c2]
theorem jF (b:Int):(bN n k a b).length≤200:=by
 by_cases h:bN n k a b= []
 ·rw[h];simp
 obtain⟨h1,h2,ho,e⟩:=jS h;rw[e];have e1:=cG n.toNat (by omega);have e2:=lQ k a b;have e3:=wJ (Lib.decDigits n.toNat++ [58]++aZ k a b);simp only[aW5,aX0,List.length_nil]at e3⊢;omega
def reV:Option (Int×fH×Nat)→Value
 |some (n,(k,a,b),m)=> .tuple #[n,cS k a b,m]
 |none=> .tuple #[(),cS 0 0 0,()]
def nI (o:Option (Int×fH×Nat))(w:World)(e:Ending)(w':World):Prop:=e= .returned (reV o)∧Ext w w'
theorem aC3 (w:World)(HI:Hid (∀w,U 67 #[str l,.int .u8 59] w fun e w'=>e= .returned (I (-1))∧w=w')):
  U 38 #[str l] w (nI none w):=by
 go_enter func38,ntmps38;go_wp2_with fail;refine(HI _).mono ?_;rintro e w1 ⟨rfl,rfl⟩;go_wp2;exact bodyPost_ret (v:=reV none) (by simp[results,results38,go_sem];rfl) rfl ⟨rfl,xE⟩
theorem aDi (w:World)(hl:l.length≤4294967280)(d:e<l.length)(HI:Hid (∀w,U 67 #[str l,.int .u8 59] w fun q w'=>q= .returned (I e)∧w=w'))(HC:Hid (∀w,Env w→U 54 #[.string ((⟨l.toArray⟩:ByteArray).extract 0 e),.string ⟨#[35]⟩] w (Z (.tuple #[str b,str b2,.bool x]) w)))(a:Hid (∀w,Env w→U 54 #[str b,.string ⟨#[58]⟩] w (Z (.tuple #[str f,str r,.bool y]) w)))(HN:Hid (∀w,U 55 #[str f,I 2] w fun q w'=>q= .returned (.tuple #[(),.bool false])∧w=w'))(HE:Hid (Env w)):
  U 38 #[str l] w (nI none w):=by
 go_enter func38,ntmps38;go_wp2_with fail;refine(HI _).mono ?_;rintro q w1 ⟨rfl,rfl⟩;go_wp2_with fail;refine Ω (HC _ (HE.out.ext xE)) fun w1 h1=>?_
 go_wp2_with fail;refine Ω (a _ (HE.out.ext xE)) fun w2 h2=>?_
 replace h2:=h1.trans h2;obtain⟨c,g⟩:=h2.cells;go_wp2_with fail;refine(HN _).mono ?_;rintro q w3 ⟨rfl,rfl⟩;go_wp2;exact bodyPost_ret (v:=reV none) (by simp[results,results38,go_sem, *];rfl) rfl ⟨rfl,xE⟩
theorem aC4 (w:World)(hl:l.length≤4294967280)(d:e<l.length)(HI:Hid (∀w,U 67 #[str l,.int .u8 59] w fun q w'=>q= .returned (I e)∧w=w'))(HC:Hid (∀w,Env w→U 54 #[.string ((⟨l.toArray⟩:ByteArray).extract 0 e),.string ⟨#[35]⟩] w (Z (.tuple #[str b,str b2,.bool x]) w)))(a:Hid (∀w,Env w→U 54 #[str b,.string ⟨#[58]⟩] w (Z (.tuple #[str f,str r,.bool y]) w)))(HN:Hid (∀w,U 55 #[str f,I 2] w fun q w'=>q= .returned (.tuple #[n,.bool true])∧w=w'))(HR:Hid (∀w,Env w→U 68 #[str r] w (Z (.tuple #[cS 0 0 0,.bool false]) w)))(HE:Hid (Env w)):
  U 38 #[str l] w (nI none w):=by
 go_enter func38,ntmps38;go_wp2_with fail;refine(HI _).mono ?_;rintro q w1 ⟨rfl,rfl⟩;go_wp2_with fail;refine Ω (HC _ (HE.out.ext xE)) fun w1 h1=>?_
 go_wp2_with fail;refine Ω (a _ (HE.out.ext xE)) fun w2 h2=>?_
 replace h2:=h1.trans h2;go_wp2_with fail;refine(HN _).mono ?_;rintro q w3 ⟨rfl,rfl⟩;go_wp2_with fail;refine Ω (HR _ (HE.out.ext xE)) fun w3 h3=>?_
 replace h3:=h2.trans h3;obtain⟨c,g⟩:=h3.cells;have h:(w:Nat)<w3:=aVy (by simp) h3.sz;go_wp2;go_quiet (fail);go_wp2;exact bodyPost_ret (v:=reV none) (by simp[results,results38,go_sem, *];rfl) rfl ⟨rfl,xE⟩
theorem aGi (w:World)(hl:l.length≤4294967280)(j:e<l.length)(HI:Hid (∀w,U 67 #[str l,.int .u8 59] w fun q w'=>q= .returned (I e)∧w=w'))(HC:Hid (∀w,Env w→U 54 #[.string ((⟨l.toArray⟩:ByteArray).extract 0 e),.string ⟨#[35]⟩] w (Z (.tuple #[str b,str b2,.bool x]) w)))(c:Hid (∀w,Env w→U 54 #[str b,.string ⟨#[58]⟩] w (Z (.tuple #[str f,str r,.bool y]) w)))(HN:Hid (∀w,U 55 #[str f,I 2] w fun q w'=>q= .returned (.tuple #[n,.bool true])∧w=w'))(HR:Hid (∀w,Env w→U 68 #[str r] w (Z (.tuple #[cS k a b0,.bool true]) w)))(HE:Hid (Env w))(HT:Hid (∀w,Env w→U 69 #[n,cS k a b0] w (Z (str t) w)))(p:t.length≤200)(d:(t==((⟨l.toArray⟩:ByteArray).extract 0 (e+1)).toList)=false):
  U 38 #[str l] w (nI none w):=by
 go_enter func38,ntmps38;go_wp2_with fail;refine(HI _).mono ?_;rintro q w1 ⟨rfl,rfl⟩;go_wp2_with fail;refine Ω (HC _ (HE.out.ext xE)) fun w1 h1=>?_
 go_wp2_with fail;refine Ω (c _ (HE.out.ext xE)) fun w2 h2=>?_
 replace h2:=h1.trans h2;go_wp2_with fail;refine(HN _).mono ?_;rintro q w3 ⟨rfl,rfl⟩;go_wp2_with fail;refine Ω (HR _ (HE.out.ext xE)) fun w3 h3=>?_
 replace h3:=h2.trans h3;obtain⟨g,m⟩:=h3.cells;have s:(w:Nat)<w3:=aVy (by simp) h3.sz;go_wp2;have q1:=aYs ((e:Int)+1);have q2:0≤(e:Int)+1:=by omega
 have q3:((e:Int)+1).toNat=e+1:=by omega
 have q4:(e:Int)+1≤(l.length:Int):=by omega
 go_region_held3 (fun w'=>w'.cell? ⟨w3,0,none⟩=some (I k)∧w'.cell? ⟨w3,1,none⟩=some (I a)∧w'.cell? ⟨w3,2,none⟩=some (I b0)) (go_keep)
  ((go_at_call 69;refine Ω (HT _ (HE.out.ext xE)) fun w4 h4=>?_;(try replace h4:=h4.of_drew);have i:=h4.cells.1))
 replace h4:=(h3.alloc (.cells #[k,a,b0] 70)).trans h4;obtain⟨h,o⟩:=h4.cells;go_wp2;exact bodyPost_ret (v:=reV none) (by simp[results,results38,go_sem, *];rfl) rfl ⟨rfl,xE⟩
theorem aGh (w:World)(hl:l.length≤4294967280)(j:e<l.length)(HI:Hid (∀w,U 67 #[str l,.int .u8 59] w fun q w'=>q= .returned (I e)∧w=w'))(HC:Hid (∀w,Env w→U 54 #[.string ((⟨l.toArray⟩:ByteArray).extract 0 e),.string ⟨#[35]⟩] w (Z (.tuple #[str b,str b2,.bool x]) w)))(c:Hid (∀w,Env w→U 54 #[str b,.string ⟨#[58]⟩] w (Z (.tuple #[str f,str r,.bool y]) w)))(HN:Hid (∀w,U 55 #[str f,I 2] w fun q w'=>q= .returned (.tuple #[n,.bool true])∧w=w'))(HR:Hid (∀w,Env w→U 68 #[str r] w (Z (.tuple #[cS k a b0,.bool true]) w)))(HE:Hid (Env w))(HT:Hid (∀w,Env w→U 69 #[n,cS k a b0] w (Z (str t) w)))(p:t.length≤200)(d:(t==((⟨l.toArray⟩:ByteArray).extract 0 (e+1)).toList)=true):
  U 38 #[str l] w (nI (some (n,(k,a,b0),e+1)) w):=by
 go_enter func38,ntmps38;go_wp2_with fail;refine(HI _).mono ?_;rintro q w1 ⟨rfl,rfl⟩;go_wp2_with fail;refine Ω (HC _ (HE.out.ext xE)) fun w1 h1=>?_
 go_wp2_with fail;refine Ω (c _ (HE.out.ext xE)) fun w2 h2=>?_
 replace h2:=h1.trans h2;go_wp2_with fail;refine(HN _).mono ?_;rintro q w3 ⟨rfl,rfl⟩;go_wp2_with fail;refine Ω (HR _ (HE.out.ext xE)) fun w3 h3=>?_
 replace h3:=h2.trans h3;obtain⟨g,m⟩:=h3.cells;have s:(w:Nat)<w3:=aVy (by simp) h3.sz;go_wp2;have q1:=aYs ((e:Int)+1);have q2:0≤(e:Int)+1:=by omega
 have q3:((e:Int)+1).toNat=e+1:=by omega
 have q4:(e:Int)+1≤(l.length:Int):=by omega
 go_region_held3 (fun w'=>w'.cell? ⟨w3,0,none⟩=some (I k)∧w'.cell? ⟨w3,1,none⟩=some (I a)∧w'.cell? ⟨w3,2,none⟩=some (I b0)) (go_keep)
  ((go_at_call 69;refine Ω (HT _ (HE.out.ext xE)) fun w4 h4=>?_;(try replace h4:=h4.of_drew);have i:=h4.cells.1))
 replace h4:=(h3.alloc (.cells #[k,a,b0] 70)).trans h4;obtain⟨h,o⟩:=h4.cells;go_wp2;go_region;all_goals go_wp2
 all_goals exact bodyPost_ret (v:=reV (some (n,(k,a,b0),e+1))) (by simp[results,results38,go_sem, *];rfl) rfl ⟨rfl,xE⟩
theorem rM (n:Nat):(((⟨l.toArray⟩:ByteArray).extract 0 n).toList)=l.take n:=by rw[Lib.toList_data,Lib.extract_data];simp
theorem aGz (n:Nat):Value.string ((⟨l.toArray⟩:ByteArray).extract 0 n)=str (l.take n):=by rw[aAy,←Lib.toList_data,rM]
theorem aDh (hs:l.length≤4294967280)(hE:Env w):U 38 #[str l] w (nI (cV l) w):=by
 have hI: ∀w,U 67 #[str l,.int .u8 59] w fun q w'=>q= .returned (I (match kJ 59 l with|some e=>(e:Int)|none=> -1))∧w=w':=by intro w;refine(Tryz.strings_IndexByte ⟨l.toArray⟩ 59 w).mono ?_;rintro q w' ⟨rfl,rfl⟩;exact⟨by rw[←aDf];rfl,rfl⟩
 unfold cV;cases hp:kJ 59 l with
 |none=>rw[hp]at hI;exact aC3 l w hI
 |some e=>
  rw[hp]at hI;have f:=(gW hp).1;simp only;have g:=(rO 35 (l.take e)).1;have j:(l.take e).length≤l.length:=List.length_take_le' _ _;obtain⟨x,hC⟩: ∃x,∀w,Env w→U 54 #[.string ((⟨l.toArray⟩:ByteArray).extract 0 e),.string ⟨#[35]⟩] w (Z (.tuple #[str (dD 35 (l.take e)),str (fS 35 (l.take e)),.bool x]) w):=by rw[aGz];refine⟨(Lib.cut (l.take e) [35]).2.2,fun w hE=>aCm _ 35 w (by omega) hE⟩
  obtain⟨y,c⟩: ∃y,∀w,Env w→U 54 #[str (dD 35 (l.take e)),.string ⟨#[58]⟩] w (Z (.tuple #[str (dD 58 (dD 35 (l.take e))),str (fS 58 (dD 35 (l.take e))),.bool y]) w):=
   ⟨_,fun w hE=>aCm _ 58 w (by omega) hE⟩
  generalize hb:dD 35 (l.take e)=b at*;have h:=(rO 58 b).1;have i:=(rO 58 b).2;have hN: ∀o,bK 2 (dD 58 b)=o→ ∀w,U 55 #[str (dD 58 b),I 2] w fun q w'=>q= .returned (.tuple #[(o.getD 0:Int),.bool o.isSome])∧w=w':=by intro o ho w;subst ho;exact mV _ 2 (by omega) (by unfold maxLen;omega) w
  have hR: ∀o,cI (fS 58 b)=o→ ∀w,Env w→U 68 #[str (fS 58 b)] w (Z (rdV o) w):=by intro o ho w hE;subst ho;exact aGj _ w (by omega) hE
  cases hn:bK 2 (dD 58 b)with
  |none=>exact aDi l b _ _ _ e x y w hs f hI hC c (hN _ hn) hE
  |some n=>
   cases hd:cI (fS 58 b)with
   |none=>exact aC4 l b _ _ _ e n x y w hs f hI hC c (hN _ hn) (hR _ hd) hE
   |some d=>
    obtain⟨k,a,b0⟩:=d;have hT: ∀w,Env w→U 69 #[n,cS k a b0] w (Z (str (bN n k a b0)) w):=fun w hE=>aP3 n k a b0 w hE
    by_cases ht:bN n k a b0=l.take (e+1)
    ·simp only[ht,if_true];exact aGh l b _ _ _ e n k a b0 _ x y w hs f hI hC c (hN _ hn) (hR _ hd) hE hT (jF n k a b0) (by rw[rM,ht];simp)
    simp only[ht,if_false];exact aGi l b _ _ _ e n k a b0 _ x y w hs f hI hC c (hN _ hn) (hR _ hd) hE hT (jF n k a b0) (by rw[rM];simpa using ht)
/-! ### slices of structs -/
theorem Rd.at {α:Type}{f:α→List Value}{w:World}{b c n d sz:Nat}{xs:List α}(hf: ∀a,(f a).length=sz)(h:Rd w (.slice (some ⟨b,c,none⟩) n d) n sz (xs.flatMap f)){k:Nat}{a:α}(hk:xs[k]? =some a)(hn:xs.length=n)(j:Nat)(hj:j<sz):
  w.cell? ⟨b,c+k*sz+j,none⟩=(f a)[j]? :=by
 rcases h.2 with⟨h1,_⟩|⟨b',off',cap',h1,_,_,_,h2⟩
 ·simp at h1
 simp only[Value.slice.injEq,aX3,Addr.mk.injEq,and_true,true_and]at h1;obtain⟨⟨rfl,rfl⟩,rfl⟩:=h1;have e:k<n:=by rw[←hn];exact(aW3.1 hk).1
 have g:k*sz+j<n*sz:=by have:(k+1)*sz≤n*sz:=aXm sz e;rw[aY6]at this;omega
 rw[Nat.add_assoc,h2 _ g,fG f sz hf xs k a hk j hj]
def gC (d:fH):List Value:= [.int .i64 d.1,.int .i64 d.2.1,.int .i64 d.2.2]
abbrev RdDeeds (w:World)(v:Value)(ds:List fH):Prop:=Rd w v ds.length 3 (ds.flatMap gC)
theorem RdDeeds.at {w:World}{b a n c:Nat}{ds:List fH}(h:Rd w (.slice (some ⟨b,a,none⟩) n c) n 3 (ds.flatMap gC))(hn:ds.length=n){k:Nat}{d:fH}(hk:ds[k]? =some d):
  w.cell? ⟨b,a+k*3,none⟩=some (I d.1)∧w.cell? ⟨b,a+k*3+1,none⟩=some (I d.2.1)∧w.cell? ⟨b,a+k*3+2,none⟩=some (I d.2.2):=
 ⟨h.at (f:=gC) (fun _=>rfl) hk hn 0 (by omega),h.at (f:=gC) (fun _=>rfl) hk hn 1 (by omega),h.at (f:=gC) (fun _=>rfl) hk hn 2 (by omega)⟩
/-! ### the text -/
def jt (first:Int):List fH→Option (List UInt8)
 | []=>some []
 |d::ds=>if bN first d.1 d.2.1 d.2.2= []then none else(jt (first+1) ds).map (bN first d.1 d.2.1 d.2.2++ ·)
def gZ (first:Int)(ds:List fH):List UInt8:=(jt first ds).getD []
theorem aEk (B:List fH): ∀(A:List fH) (first:Int),jt first (A++B)=(jt first A).bind fun x=>(jt (first+A.length) B).map (x++ ·):=by
 intro A;induction A with
 |nil=>intro first;simp[jt]
 |cons d A ih=>
  intro first
  simp only[aXs,jt];split
  ·simp
  rw[ih (first+1)];have e:first+1+(A.length:Int)=first+((d::A).length:Nat):=by simp;omega
  rw[e];cases jt (first+1) A with
  |none=>simp
  |some x=>simp only[Option.bind_some,aX2,Option.map_map]
           cases jt (first+((d::A).length:Nat)) B<;>simp
theorem aUi: ∀(A:List fH) (first:Int) (x:List UInt8),jt first A=some x→(A= []∨1≤first∧first+A.length≤100)∧x.length≤200*A.length:=by
 intro A;induction A with
 |nil=>intro first x h;simp[jt]at h;subst h;simp
 |cons d A ih=>
  intro first x h
  simp only[jt]at h;split at h
  ·simp at h
  rename_i hne;obtain⟨y,hy,rfl⟩:=Option.map_eq_some_iff.1 h;obtain⟨h1,h2⟩:=ih _ _ hy;obtain⟨q1,q2,_⟩:=jS hne;have:=jF first d.1 d.2.1 d.2.2
  refine⟨.inr ⟨q1,?_⟩,by simp;omega⟩;rcases h1 with rfl|⟨_,h1⟩
  ·simp;omega
  simp;omega
theorem aTw {ds:List fH}{k:Nat}{d:fH}{x:List UInt8}(hd:ds[k]? =some d)(hx:jt first (ds.take k)=some x)(a:bN (first+k) d.1 d.2.1 d.2.2≠ []):
  jt first (ds.take (k+1))=some (x++bN (first+k) d.1 d.2.1 d.2.2):=by
 have hk:k<ds.length:=(aW3.1 hd).1;have e:ds.take (k+1)=ds.take k++ [d]:=by rw[List.take_succ_eq_append_getElem hk];congr 2;exact(aW3.1 hd).2
 have hl:(ds.take k).length=k:=by simp;omega
 rw[e,aEk,hx,hl];simp[jt,a]
theorem aTv {ds:List fH}{k:Nat}{d:fH}{x:List UInt8}(hd:ds[k]? =some d)(hx:jt first (ds.take k)=some x)(b:bN (first+k) d.1 d.2.1 d.2.2= []):
  jt first ds=none:=by
 have hk:k<ds.length:=(aW3.1 hd).1;have e:ds=ds.take k++d::ds.drop (k+1):=by
  conv=>lhs;rw[←List.take_append_drop k ds]
  congr 1;rw[List.drop_eq_getElem_cons hk];congr 1;exact(aW3.1 hd).2
 have hl:(ds.take k).length=k:=by simp;omega
 rw[e,aEk,hx,hl];simp[jt,b]
/-! ### a builder while the world grows -/
theorem Ext.gb {w:World}(h:Ext w w'):w.grownBy w' none:=⟨h.os,h.tape,h.output,h.size,fun k hk _=>h.block k hk⟩
theorem vL {e:TypeId}{b:Nat}{p:Value}{w:World}(h:Lib.BuilderAtF T e B b p bs w)(hx:Ext w w'):Lib.BuilderAtF T e B b p bs w':=by have c:=h.lt;obtain⟨hB,v,hh,a,d⟩:=h;exact⟨hB,v,by rw[hx.block b c];exact hh,a.kept hx.gb (by cases v.ownBlock<;>simp),d⟩
theorem tI {e:TypeId}{b:Nat}{w:World}(h:Lib.IsBuilderF T e B b bs w)(hx:Ext w w'):Lib.IsBuilderF T e B b bs w':=
 h.elim (fun q=> .inl (vL q hx)) (fun q=> .inr (vL q hx))
theorem kG {w wr:World}(h:Ext w wr)(hb:Below B wr w')(hB:w.heap.size≤B):Ext w w':=Below.trans h (Below.mono hb hB)
theorem aUy {ds:List fH}{k:Nat}{x:List UInt8}(hx:jt first (ds.take k)=some x)(hk:k<ds.length)(hB: -9223372036854775808≤first∧first≤9223372036854775807):
  -9223372036854775808≤first+k∧first+k≤9223372036854775807∧x.length≤20000:=by
 have hl:(ds.take k).length=k:=by simp;omega
 obtain⟨h1,h2⟩:=aUi _ _ _ hx;rw[hl]at h1 h2;rcases h1 with h1|h1
 ·have:=congrArg List.length h1;rw[hl]at this;simp at this;subst this;simp;omega
 omega
theorem yJ (first:Int)(ds:List fH)(b f n c:Nat)(w:World)(hB: -9223372036854775808≤first∧first≤9223372036854775807)(hn:ds.length=n)(h:n≤1099511627776)(hb:b<w.heap.size)(HR:Hid (Rd w (.slice (some ⟨b,f,none⟩) n c) n 3 (ds.flatMap gC))):
  U 47 #[first,.slice (some ⟨b,f,none⟩) n c] w (Z (str (gZ first ds)) w):=by
 have HN:=xQ hn;go_enter func47,ntmps47;go_wp2;go_loopw [5,6] (fun out i wr=> ∃(k:Nat) (acc:List UInt8),k≤n∧i=I k∧out=str acc∧jt first (ds.take k)=some acc∧Ext w wr) (fun _ i _=>n-(intOf i).toNat)
 case atStart=>exact⟨0,[],aW6 _,rfl,rfl,rfl,Ext.refl _⟩
 case round=>
  obtain⟨k,acc,hk,rfl,rfl,hj,hE⟩:=hrel;have HJ:=xQ hj;by_cases hlt:k<n
  ·obtain⟨d,hd⟩: ∃d,ds[k]? =some d:=⟨_,aW0 (by rw[HN.out];exact hlt)⟩
   have HD:=xQ hd;obtain⟨c0,c1,c2⟩:=RdDeeds.at HR HN.out hd;have e0:=(hE.cells.1 _ _ hb).trans c0;have e1:=(hE.cells.1 _ _ hb).trans c1;have e2:=(hE.cells.1 _ _ hb).trans c2;obtain⟨q1,q2,q3⟩:=aUy HJ (by rw[HN.out];exact hlt) hB;obtain⟨d0,d1,d2⟩:=d;obtain⟨t,ht⟩: ∃t,bN (first+k) d0 d1 d2=t:=⟨_,rfl⟩
   have j:t.length≤200:=by rw[←ht];exact jF _ _ _ _
   have HS:Hid (∀w,U 85 #[(first+k:Int),cS d0 d1 d2] w (Z (str t) w)):=fun w=>by rw[←ht];exact aDz _ _ _ _ w
   have HT:=xQ ht;by_cases h0:t= []
   ·have g:t.isEmpty=true:=by simp[h0]
    have a:Hid (gZ first ds= []):=by show _=_;rw[gZ,aTv HD HJ.out (by rw[HT.out,h0])];rfl
    go_wp2_with fail;refine Ω (HS _) fun w1 h1=>?_
    go_wp2;go_ret;exact⟨jZ a.out.symm,xE⟩
   have g:t.isEmpty=false:=by simp[h0]
   have a:Hid (jt first (ds.take (k+1))=some (acc++t)):=by show _=_;rw[aTw HD HJ.out (by rw[HT.out];exact h0),HT.out]
   go_wp2_with fail;refine Ω (HS _) fun w1 h1=>?_
   go_wp2;go_roundw
   case rel=>exact⟨k+1,acc++t,by omega,by go_num,rfl,a.out,xE⟩
   case measure=>simp[intOf];omega
  have e:ds.take k=ds:=aW4 (by rw[HN.out];omega);have a:Hid (gZ first ds=acc):=by show _=_;rw[gZ,←e,HJ.out];rfl
  go_wp2;go_ret;exact⟨jZ a.out.symm,xE⟩
theorem mM (a b:List UInt8):Lib.byteCells (a++b)=Lib.byteCells a++Lib.strCells ⟨b.toArray⟩:=by simp[Lib.byteCells,Lib.strCells]
def eI (x:Int):List UInt8:=if x=0 then [46]else Lib.decDigits x.toNat
def dI (aA:Int)(k:Nat):List UInt8:=if k=0 then []else if(k:Int)%aA=0 then [47]else [44]
def aS (aA:Int)(xs:List Int):Nat→List UInt8
 |0=> []
 |k+1=>aS aA xs k++dI aA k++eI (xs[k]?.getD 0)
def cE (aA aB:Int)(xs:List Int):List UInt8:=if aO aA aB xs then aS aA xs xs.length else []
theorem aJm (x:Int)(h:x≤99):(eI x).length≤21:=by
 unfold eI;split
 ·simp
 exact cG _ (by omega)
theorem pL (xs:List Int)(h: ∀x∈xs,x≤99): ∀k,(aS aA xs k).length≤22*k:=by
 intro k;induction k with
 |zero=>simp[aS]
 |succ k ih=>
  have h1:(eI (xs[k]?.getD 0)).length≤21:=by
   refine aJm _ ?_;cases hx:xs[k]? with
   |none=>simp
   |some x=>exact h x (aW1 hx)
  have h2:(dI aA k).length≤1:=by unfold dI;split;simp;split<;>simp
  simp only[aS,aW5];omega
theorem tA {aA:Int}{xs:List Int}{k:Nat}{x:Int}(h:xs[k]? =some x):aS aA xs (k+1)=aS aA xs k++dI aA k++eI x:=by simp[aS,h]
theorem kQ (a:List UInt8)(c:UInt8)(ci:Int)(hc:ci=(c.toNat:Int)):Lib.byteCells (a++ [c])=Lib.byteCells a++ [.int .u8 ci]:=by subst hc;simp[Lib.byteCells]
theorem yZ (n a:Nat)(w:World)(HV:xB 34 #[aH aA aB p n a] w false):
  U 28 #[aH aA aB p n a] w (Z (str []) w):=by
 go_enter func28,ntmps28;go_wp2_with fail;refine Ω (HV _ (by exact .alloc (.refl _) _)) fun w1 h1=>?_
 go_wp2;go_ret;exact⟨rfl,by exact .trans (.alloc (.refl _) _) h1⟩
theorem aAl (n u:Nat)(xs:List Int)(w:World)(ad:Env w)(h0:2≤aA)(h1:aA≤4)(hn:n≤12)(hc: ∀x∈xs,0≤x∧x≤99)(HS:Hid (Sl w p n u 1 (ivs xs)))(HV:xB 34 #[aH aA aB p n u] w true):
  U 28 #[aH aA aB p n u] w (Z (str (aS aA xs n)) w):=by
 have aa:=xQ ad;have HC:=xQ hc;clear ad hc;go_enter func28,ntmps28;go_wp2_with fail;refine Ω (HV _ (by exact .alloc (.refl _) _)) fun w1 v=>?_
 have ai:(w:Nat)<w1:=aVy (by simp) v.sz;have ea:w1.cell? ⟨w,0,none⟩=some (I aA):=by rw[v.cells.1 _ _ (by simp)];simp
 have eb:w1.cell? ⟨w,2,none⟩=some (.slice p n u):=by rw[v.cells.1 _ _ (by simp)];simp
 have z:Ext w w1:=by exact .trans (.alloc (.refl _) _) v
 go_wp2;go_loopw [12] (fun i wr=> ∃(k:Nat),k≤n∧i=I k∧Lib.IsBuilderF 96 5 w1 w1 (Lib.byteCells (aS aA xs k)) wr∧Ext w1 wr∧w1.heap.size<wr.heap.size) (fun i _=>n-(intOf i).toNat)
 case atStart=>exact⟨0,aW6 _,rfl,.inl ⟨aVz _,.slice none 0 0,by rw[heap_alloc_new],World.ownsRowF_nil _ _ _ _,by simp[Value.ownBlock]⟩,(Ext.refl _).alloc _,by simp⟩
 case round=>
  obtain⟨k,hk,rfl,af,hE,y⟩:=hrel;have s:=xQ af;clear af;have ae:Ext w wr:=z.trans hE;have ak:wr.cell? ⟨w,0,none⟩=some (I aA):=(hE.cells.1 _ _ ai).trans ea;have o:(Lib.byteCells (aS aA xs k)).length≤300:=by have:=pL aA xs (fun x hx=>(HC x hx).2) k;simp[Lib.byteCells];omega
  by_cases hlt:k<n
  ·obtain⟨b,am,x,rfl,hx,al,ah⟩:=(HS.out.ext ae).int_at hlt;obtain⟨ab,aj⟩:=HC x (aW1 hx);have HX:=xQ hx;clear hx;have j:=xQ (tA (aA:=aA) HX.out);by_cases hk0:k=0
   ·have k1:((k:Int)==0)=true:=by simp[hk0]
    have c:Hid (dI aA k= []):=by show _=_;simp[dI,hk0]
    clear hk0;by_cases hz:x=0
    ·have z1:(x==0)=true:=by simp[hz]
     have a:Hid (aS aA xs (k+1)=aS aA xs k++ [46]):=by show _=_;rw[j.out,c.out,aWr];simp[eI,hz]
     clear hz;go_wp2_with fail;refine(nC w1 w1 (Lib.byteCells (aS aA xs k)) 46 _ s (by simp[Lib.byteCells]at o⊢;omega) (by omega)).mono ?_;rintro e w3 ⟨rfl,h2,h3,_⟩;have d:Hid (Lib.IsBuilderF 96 5 w1 w1 (Lib.byteCells (aS aA xs (k+1))) w3):=by rw[a.out,kQ _ 46 46 rfl];exact .inr h2
     have g:Ext w1 w3:=kG hE h3 (aVz _);have h:(w1:Nat)<w3:=aVy y h3.size;clear h2 h3;go_wp2;go_roundw
     case rel=>exact⟨k+1,by omega,by go_num,d.out,g,h⟩
     case measure=>simp[intOf];omega
    have z1:(x==0)=false:=by simp[hz]
    have a:Hid (aS aA xs (k+1)=aS aA xs k++Lib.decDigits x.toNat):=by show _=_;rw[j.out,c.out,aWr];simp[eI,hz]
    clear hz;have ag:(Lib.decDigits x.toNat).length≤21:=cG _ (by omega);go_wp2_with fail;refine Ω (vG x _ ab (by omega) (aa.out.ext (z.trans hE))) fun w3 f=>?_
    have q:=xQ (tI s f);have m:(w1:Nat)<w3:=aVy y f.sz;go_wp2_with fail;refine(pO w1 w1 (Lib.byteCells (aS aA xs k)) _ _ q (by simp[Lib.byteCells,ByteArray.size]at o⊢;omega) (by omega)).mono ?_;rintro e w4 ⟨rfl,h2,h3,_⟩;have d:Hid (Lib.IsBuilderF 96 5 w1 w1 (Lib.byteCells (aS aA xs (k+1))) w4):=by rw[a.out,mM];exact .inr h2
    have g:Ext w1 w4:=kG (Ext.trans hE f) h3 (aVz _);have h:(w1:Nat)<w4:=aVy m h3.size;clear h2 h3;go_wp2;go_roundw
    case rel=>exact⟨k+1,by omega,by go_num,d.out,g,h⟩
    case measure=>simp[intOf];omega
   have k1:((k:Int)==0)=false:=by simp;omega
   by_cases hm:(k:Int)%aA=0
   ·have k2:((k:Int)%aA==0)=true:=by simp[hm]
    have c:Hid (dI aA k= [47]):=by show _=_;simp[dI,hk0,hm]
    clear hk0 hm;go_wp2_with fail;refine(nC w1 w1 (Lib.byteCells (aS aA xs k)) 47 _ s (by omega) (by omega)).mono ?_;rintro e w2 ⟨rfl,h2,h3,_⟩;have r:Hid (Lib.IsBuilderF 96 5 w1 w1 (Lib.byteCells (aS aA xs k++ [47])) w2):=by rw[kQ _ 47 47 rfl];exact .inr h2
    have l:Ext w1 w2:=kG hE h3 (aVz _);have t:(w1:Nat)<w2:=aVy y h3.size;clear h2 h3;by_cases hz:x=0
    ·have z1:(x==0)=true:=by simp[hz]
     have a:Hid (aS aA xs (k+1)=aS aA xs k++ [47]++ [46]):=by show _=_;rw[j.out,c.out];simp[eI,hz]
     clear hz;go_wp2_with fail;refine(nC w1 w1 (Lib.byteCells (aS aA xs k++ [47])) 46 _ r (by simp[Lib.byteCells]at o⊢;omega) (by omega)).mono ?_;rintro e w3 ⟨rfl,h2,h3,_⟩;have d:Hid (Lib.IsBuilderF 96 5 w1 w1 (Lib.byteCells (aS aA xs (k+1))) w3):=by rw[a.out,kQ _ 46 46 rfl];exact .inr h2
     have g:Ext w1 w3:=kG l h3 (aVz _);have h:(w1:Nat)<w3:=aVy t h3.size;clear h2 h3;go_wp2;go_roundw
     case rel=>exact⟨k+1,by omega,by go_num,d.out,g,h⟩
     case measure=>simp[intOf];omega
    have z1:(x==0)=false:=by simp[hz]
    have a:Hid (aS aA xs (k+1)=aS aA xs k++ [47]++Lib.decDigits x.toNat):=by show _=_;rw[j.out,c.out];simp[eI,hz]
    clear hz;have ag:(Lib.decDigits x.toNat).length≤21:=cG _ (by omega);go_wp2_with fail;refine Ω (vG x _ ab (by omega) (aa.out.ext (z.trans l))) fun w3 f=>?_
    have q:=xQ (tI r f);have m:(w1:Nat)<w3:=aVy t f.sz;go_wp2_with fail;refine(pO w1 w1 (Lib.byteCells (aS aA xs k++ [47])) _ _ q (by simp[Lib.byteCells,ByteArray.size]at o⊢;omega) (by omega)).mono ?_;rintro e w4 ⟨rfl,h2,h3,_⟩;have d:Hid (Lib.IsBuilderF 96 5 w1 w1 (Lib.byteCells (aS aA xs (k+1))) w4):=by rw[a.out,mM];exact .inr h2
    have g:Ext w1 w4:=kG (Ext.trans l f) h3 (aVz _);have h:(w1:Nat)<w4:=aVy m h3.size;clear h2 h3;go_wp2;go_roundw
    case rel=>exact⟨k+1,by omega,by go_num,d.out,g,h⟩
    case measure=>simp[intOf];omega
   have k2:((k:Int)%aA==0)=false:=by simp[hm]
   have c:Hid (dI aA k= [44]):=by show _=_;simp[dI,hk0,hm]
   clear hk0 hm;go_wp2_with fail;refine(nC w1 w1 (Lib.byteCells (aS aA xs k)) 44 _ s (by omega) (by omega)).mono ?_;rintro e w2 ⟨rfl,h2,h3,_⟩;have r:Hid (Lib.IsBuilderF 96 5 w1 w1 (Lib.byteCells (aS aA xs k++ [44])) w2):=by rw[kQ _ 44 44 rfl];exact .inr h2
   have l:Ext w1 w2:=kG hE h3 (aVz _);have t:(w1:Nat)<w2:=aVy y h3.size;clear h2 h3;by_cases hz:x=0
   ·have z1:(x==0)=true:=by simp[hz]
    have a:Hid (aS aA xs (k+1)=aS aA xs k++ [44]++ [46]):=by show _=_;rw[j.out,c.out];simp[eI,hz]
    clear hz;go_wp2_with fail;refine(nC w1 w1 (Lib.byteCells (aS aA xs k++ [44])) 46 _ r (by simp[Lib.byteCells]at o⊢;omega) (by omega)).mono ?_;rintro e w3 ⟨rfl,h2,h3,_⟩;have d:Hid (Lib.IsBuilderF 96 5 w1 w1 (Lib.byteCells (aS aA xs (k+1))) w3):=by rw[a.out,kQ _ 46 46 rfl];exact .inr h2
    have g:Ext w1 w3:=kG l h3 (aVz _);have h:(w1:Nat)<w3:=aVy t h3.size;clear h2 h3;go_wp2;go_roundw
    case rel=>exact⟨k+1,by omega,by go_num,d.out,g,h⟩
    case measure=>simp[intOf];omega
   have z1:(x==0)=false:=by simp[hz]
   have a:Hid (aS aA xs (k+1)=aS aA xs k++ [44]++Lib.decDigits x.toNat):=by show _=_;rw[j.out,c.out];simp[eI,hz]
   clear hz;have ag:(Lib.decDigits x.toNat).length≤21:=cG _ (by omega);go_wp2_with fail;refine Ω (vG x _ ab (by omega) (aa.out.ext (z.trans l))) fun w3 f=>?_
   have q:=xQ (tI r f);have m:(w1:Nat)<w3:=aVy t f.sz;go_wp2_with fail;refine(pO w1 w1 (Lib.byteCells (aS aA xs k++ [44])) _ _ q (by simp[Lib.byteCells,ByteArray.size]at o⊢;omega) (by omega)).mono ?_;rintro e w4 ⟨rfl,h2,h3,_⟩;have d:Hid (Lib.IsBuilderF 96 5 w1 w1 (Lib.byteCells (aS aA xs (k+1))) w4):=by rw[a.out,mM];exact .inr h2
   have g:Ext w1 w4:=kG (Ext.trans l f) h3 (aVz _);have h:(w1:Nat)<w4:=aVy m h3.size;clear h2 h3;go_wp2;go_roundw
   case rel=>exact⟨k+1,by omega,by go_num,d.out,g,h⟩
   case measure=>simp[intOf];omega
  obtain rfl:k=n:=by omega
  go_wp2_with fail;refine(Tryz.Builder_String_any_f w1 w1 (aS aA xs k) _ s (by omega)).mono ?_;rintro e w2 ⟨rfl,h2,h3⟩;have l:Ext w w2:=kG ae h3 (by omega);clear h2 h3;go_wp2;go_ret;exact⟨rfl,l⟩
theorem bS {aA aB:Int}{xs:List Int}(h:aO aA aB xs=true):2≤aA∧aA≤4∧2≤aB∧aB≤3∧4≤xs.length∧xs.length≤12∧(xs.length:Int)=aA*aB∧(∀x∈xs,0≤x∧x≤99)∧(xs.filter (fun x=>decide (0<x))).Nodup:=by simp only[aO,aWc]at h;obtain⟨h1,h2,h3,h4,h5,h6,h7⟩:=cQ h.1;obtain⟨q1,_,q3⟩:=(fW _ _).1 h.2;exact⟨h1,h2,h3,h4,h5,h6,h7,q1,q3⟩
theorem nO (n a:Nat)(xs:List Int)(w:World)(hE:Env w)(hS:Sl w p n a 1 (ivs xs)):
  U 28 #[aH aA aB p n a] w (Z (str (cE aA aB xs)) w):=by
 have hl:=hS.ilen;cases h:aO aA aB xs with
 |true=>obtain⟨h1,h2,h3,h4,h5,h6,h7,h8,h9⟩:=bS h;unfold cE;rw[if_pos h,hl];exact aAl aA aB p n a xs w hE h1 h2 (by omega) h8 hS (fun w' hx=>by rw[←h];exact iK aA aB p n a xs w' (hS.ext hx))
 |false=>unfold cE;rw[if_neg (by simp[h])];exact yZ aA aB p n a w (fun w' hx=>by rw[←h];exact iK aA aB p n a xs w' (hS.ext hx))
theorem aPk (hE:Env w):U 9 #[] w (Z (.bool true) w):=by
 have HE:=xQ hE;have T1:Hid (∀w p,Env w→Sl w p 4 4 1 (ivs [0,7,0,0])→U 28 #[aH 2 2 p 4 4] w (Z (str [46,44,55,47,46,44,46]) w)):=fun w p hE hS=>by
  have:=nO 2 2 p 4 4 [0,7,0,0] w hE hS;have e:cE 2 2 [0,7,0,0]= [46,44,55,47,46,44,46]:=by simp[cE,aO,iU,eN,aS,dI,eI,iC]
  rwa[e]at this
 have T2:Hid (∀w,Env w→U 28 #[aH 0 0 none 0 0] w (Z (str []) w)):=fun w hE=>by
  have:=nO 0 0 none 0 0 [] w hE (Sl.nil w 1);have e:cE 0 0 []= []:=by simp[cE,aO,iU]
  rwa[e]at this
 go_enter func9,ntmps9;go_wp2_with fail;refine Ω (T1 _ _ (HE.out.ext (by exact .alloc (.refl _) _)) (Sl.new w #[iv 0,iv 7,iv 0,iv 0] _ 4 rfl (by unfold maxLen;omega))) fun w1 h1=>?_
 go_wp2_with fail;refine Ω (T2 _ (HE.out.ext (by exact .trans (.alloc (.refl _) _) h1))) fun w2 h2=>?_
 go_wp2;go_ret;exact⟨rfl,by exact .trans (.trans (.alloc (.refl _) _) h1) h2⟩
theorem aEj (b:Int)(w:World)(h0:0≤a)(h1:a≤1000)(h2:0≤b)(h3:b≤1000):U 219 #[a,b] w (Z (I (uT a b)) w):=by go_enter func219,ntmps219;go_wp2;go_ret;exact⟨fI (by unfold uT;omega),by exact .refl _⟩
theorem aIh (b:Int)(w:World)(h0:0≤a)(h1:a≤100)(h2:0≤b)(h3:b≤100)(h4:2≤aA)(h5:aA≤4):U 201 #[aA,a,b] w (Z (I (bE aA a b)) w):=by
 have q0: ¬(aA=0):=by omega
 have r1:a.tmod aA=a%aA:=IntWalk.rem_in _ _ h0;have r2:b.tmod aA=b%aA:=IntWalk.rem_in _ _ h2;have d1:IntKind.i64.wrap (a.tdiv aA)=a/aA:=aY9 _ _ (by omega);have d2:IntKind.i64.wrap (b.tdiv aA)=b/aA:=aY9 _ _ (by omega);have e1:=Int.emod_nonneg a q0;have e2:=Int.emod_nonneg b q0;have e3:=Int.emod_lt_of_pos a (show 0<aA by omega);have e4:=Int.emod_lt_of_pos b (show 0<aA by omega);have e5:=Int.ediv_nonneg h0 (show 0≤aA by omega);have e6:=Int.ediv_nonneg h2 (show 0≤aA by omega);have e7:=Int.ediv_le_self aA h0;have e8:=Int.ediv_le_self aA h2;have s1:IntKind.i64.wrap (uT (a%aA) (b%aA)+uT (a/aA) (b/aA))=bE aA a b:=aW2 _ (by unfold uT;omega);go_enter func201,ntmps201;go_wp2;refine rL (gl [gEq (a:Int),gEq (aA:Int),gEq (a%aA:Int),gEq (b:Int),gEq (aA:Int),gEq (b%aA:Int),gEq (uT (a%aA) (b%aA):Int),gEq (a:Int),gEq (aA:Int),gEq (a/aA:Int),gEq (b:Int),gEq (aA:Int),gEq (b/aA:Int),gEq (uT (a/aA) (b/aA):Int),gEq (bE aA a b:Int)]) 15 16 [(0,some 7),(1,some 8),(2,some 9),(3,some 10),(4,some 11),(5,some 12),(6,some 13),(7,some 14),(8,some 15),(9,some 16),(10,some 17),(11,some 18),(12,some 19),(13,some 20),(14,some 21)] ?steps ?fin
 case steps=>
  refine sS0 [] (sS0 [] (sS2 [(0,some 7),(1,some 8)] (sS0 [] (sS0 [] (sS2 [(3,some 10),(4,some 11)] ?_)))));refine sC [(2,some 9),(5,some 12)] rfl (fun wi hx=> ?_) ?_
  ·intro v2 h2 v5 h5 K hK;subst h2 h5;go_wp2_with fail;refine Ω (aEj (a%aA) (b%aA) _ (by omega) (by omega) (by omega) (by omega)) fun w2 d=>?_
   go_simp;exact hK _ _ ⟨I (uT (a%aA) (b%aA)),rfl,rfl,d⟩
  refine sS0 [] (sS0 [] (sS2 [(7,some 14),(8,some 15)] (sS0 [] (sS0 [] (sS2 [(10,some 17),(11,some 18)] ?_)))));refine sC [(9,some 16),(12,some 19)] rfl (fun wi hx=> ?_) ?_
  ·intro v9 h9 j c K hK;obtain rfl:=h9;obtain rfl:=c;go_wp2_with fail;refine Ω (aEj (a/aA) (b/aA) _ (by omega) (by omega) (by omega) (by omega)) fun w2 d=>?_
   go_simp;exact hK _ _ ⟨I (uT (a/aA) (b/aA)),rfl,rfl,d⟩
  exact sS2 [(6,some 13),(13,some 20)] StepsL.nil
 case fin=>intro wi hx v0 h0 v1 h1 v2 h2 v3 h3 v4 h4 v5 h5 v6 h6 v7 h7 v8 h8 v9 h9 k f l g j c m h n i;subst h0 h1 h2 h3 h4 h5 h6 h7 h8 h9;obtain rfl:=f;obtain rfl:=g;obtain rfl:=c;obtain rfl:=h;obtain rfl:=i;refine wpAny_ready (rs:= [15]) (by kernel_rfl) (by simp) ?_;refine AllReady.cons rfl (fun K hK=> ?_) AllReady.nil;go_simp;refine hK _ _ ?_;refine wpAny_done (by kernel_rfl) ?_ _;go_wp2;go_ret;exact⟨rfl,by exact .trans (.drew (.refl _)) hx⟩
theorem xH (lo hi:Int)(w:World):U 32 #[n,lo,hi] w fun e w'=>e= .returned (.bool (decide (lo≤n∧n≤hi)))∧w=w':=by
 by_cases h:lo≤n∧n≤hi
 ·rw[decide_eq_true h];exact qD n lo hi w h.1 h.2
 rw[decide_eq_false h];exact aAp n lo hi w (by omega)
def eG (aA aB:Int)(xs:List Int)(a b:Int):Int:=if aO aA aB xs=true∧(0≤a∧a<xs.length)∧0≤b∧b<xs.length then bE aA a b else -1
theorem aKn (b:Int)(p:OA)(n c:Nat)(w:World)(HV:xB 30 #[aH aA aB p n c] w false):
  U 170 #[aH aA aB p n c,a,b] w (Z (I (-1)) w):=by
 go_enter func170,ntmps170;go_wp2_with fail;refine Ω (HV _ (by exact .alloc (.refl _) _)) fun w1 d=>?_
 have X1:Ext w w1:=by exact .trans (.alloc (.refl _) _) d
 go_wp2;go_ret;exact⟨rfl,by exact X1⟩
theorem aQm (b:Int)(p:OA)(n c:Nat)(ba bb:Bool)(R:Int)(w:World)(f:4≤n)(hn:n≤12)(HV:xB 30 #[aH aA aB p n c] w true)(HA:Hid (∀w,U 32 #[a,(),((n:Int)-1:Int)] w fun e w'=>e= .returned (.bool ba)∧w=w'))(HB:Hid (∀w,U 32 #[b,(),((n:Int)-1:Int)] w fun e w'=>e= .returned (.bool bb)∧w=w'))(HP:Hid (ba=true→bb=true→ ∀w,U 201 #[aA,a,b] w (Z (I R) w))):
  U 170 #[aH aA aB p n c,a,b] w fun e w'=>e= .returned (I (if ba&&bb then R else -1))∧Ext w w':=by
 go_enter func170,ntmps170;go_wp2_with fail;refine Ω (HV _ (by exact .alloc (.refl _) _)) fun w1 d=>?_
 have B1:=xQ ((Blk.new w 27 #[aA,aB,.slice p n c]).ext d);have X1:Ext w w1:=by exact .trans (.alloc (.refl _) _) d
 have c_:=B1.out.tri;cases ba
 ·go_wp2_with ((go_at_call 32;(with_reducible refine(HA _).mono ?_);rintro e w' ⟨rfl,rfl⟩));go_ret;exact⟨rfl,by exact X1⟩
 cases bb
 ·go_wp2_with fail;refine(HA _).mono ?_;rintro e w' ⟨rfl,rfl⟩;go_wp2_with fail;refine(HB _).mono ?_;rintro e w' ⟨rfl,rfl⟩;go_wp2;go_ret;exact⟨rfl,by exact X1⟩
 go_wp2_with fail;refine(HA _).mono ?_;rintro e w' ⟨rfl,rfl⟩;go_wp2_with fail;refine(HB _).mono ?_;rintro e w' ⟨rfl,rfl⟩;go_wp2_with fail;refine Ω (HP (by simp) (by simp) _) fun w' hp=>?_
 go_wp2;go_ret;exact⟨rfl,by exact .trans X1 hp⟩
theorem aFq (b:Int)(p:OA)(n c:Nat)(xs:List Int)(w:World)(hS:Sl w p n c 1 (ivs xs)):
  U 170 #[aH aA aB p n c,a,b] w (Z (I (eG aA aB xs a b)) w):=by
 have hl:=hS.ilen;have HV:=fun(w':World) (hx:Ext w w')=>iJ aA aB p n c xs w' (hS.ext hx)
 unfold eG;cases hok:aO aA aB xs with
 |false=>rw[hok]at HV;simpa using aKn aA aB a b p n c w HV
 |true=>
  rw[hok]at HV;obtain⟨g1,g2,g3,g4,g5,g6,g7,g8,g9⟩:=bS hok
  have:=aQm aA aB a b p n c (decide (0≤a∧a≤(n:Int)-1)) (decide (0≤b∧b≤(n:Int)-1)) (bE aA a b) w (by omega) (by omega) HV (fun w=>xH _ _ _ w) (fun w=>xH _ _ _ w)
   (fun h1 h2 w=>by simp at h1 h2;exact aIh aA a b w h1.1 (by omega) h2.1 (by omega) (by omega) (by omega))
  refine this.mono fun e w' ⟨he,hx⟩=>⟨?_,hx⟩
  rw[he];apply fI;have e1:(decide (0≤a∧a≤(n:Int)-1)&&decide (0≤b∧b≤(n:Int)-1))=decide ((0≤a∧a<xs.length)∧0≤b∧b<xs.length):=by rw[Bool.eq_iff_iff];simp;omega
  rw[e1];by_cases h:(0≤a∧a<xs.length)∧0≤b∧b<xs.length
  ·rw[decide_eq_true h,if_pos rfl,if_pos ⟨rfl,h⟩]
  rw[decide_eq_false h,if_neg (by simp),if_neg (fun hh=>h hh.2)]
end Go.Proofs.YthfmmibomhhmpabGreatDoor
