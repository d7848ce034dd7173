/-
  Texts of this proof, packed (@packed).
-/
import Derived.Lib.CountLaws
import Derived.Lib.SplitLaws
import Derived.Test.YthfmmibomhhmpaaGreatDoorY7
namespace Go.Proofs.YthfmmibomhhmpaaGreatDoor
open Go.RowKit
set_option linter.unusedSimpArgs false
set_option linter.unusedVariables false
set_option maxHeartbeats 8000000
set_option maxRecDepth 100000
theorem rO (c:UInt8): ∀l:List UInt8,(Lib.index l [c]= -1∧cR c l= [l]∧c∉l)∨ ∃i:Nat,Lib.index l [c]=i∧i<l.length∧cR c l=l.take i::cR c (l.drop (i+1))∧c∉l.take i:=by
 intro l;induction l with
 |nil=>exact .inl ⟨rfl,rfl,by simp⟩
 |cons b l ih=>
  by_cases hb:b=c
  ·subst hb;refine .inr ⟨0,?_,by simp,by simp[cR],by simp⟩;unfold Lib.index;rw[if_pos (by simp[List.isPrefixOf])];rfl
  have hp:([c]:List UInt8).isPrefixOf (b::l)=false:=by simp[List.isPrefixOf];exact fun e=>hb e.symm
  rcases ih with⟨h1,h2,h3⟩|⟨i,h1,h2,h3,h4⟩
  ·refine .inl ⟨?_,?_,?_⟩
   ·unfold Lib.index;rw[hp,h1];rfl
   ·unfold cR;rw[if_neg hb,h2]
   simp[h3];exact fun e=>hb e.symm
  refine .inr ⟨i+1,?_,by simp;omega,?_,?_⟩
  ·unfold Lib.index;rw[hp,h1];simp only[Bool.false_eq_true,if_false];rw[if_neg (by simp)];rfl
  ·have e:cR c (b::l)=match cR c l with| []=> [[b]]|p::ps=>(b::p)::ps:=by
    rw[cR,if_neg hb]<;>rfl
   rw[e,h3];rfl
  simp[h4];exact fun e=>hb e.symm
theorem aKn (c:UInt8): ∀(k:Nat) (s:ByteArray),Lib.countB s ⟨#[c]⟩=k→(Lib.splitB ⟨#[c]⟩ 0 k s).map (fun b=>b.data.toList)=cR c s.data.toList:=by
 intro k;induction k with
 |zero=>
  intro s hk;rw[Lib.splitB_zero];rcases rO c s.data.toList with⟨h1,h2,h3⟩|⟨i,h1,h2,h3,h4⟩
  ·rw[h2];rfl
  have:=Lib.countB_hit s ⟨#[c]⟩ i (aT5 1) h1;omega
 |succ k ih=>
  intro s hk;rcases rO c s.data.toList with⟨h1,h2,h3⟩|⟨i,h1,h2,h3,h4⟩
  ·have:=Lib.countB_miss s ⟨#[c]⟩ h1;omega
  have hc:=Lib.countB_hit s ⟨#[c]⟩ i (aT5 1) h1
  have hr:=ih (s.extract (i+1) s.size) (by
   have e:s.extract (i+1) s.size=s.extract (i+(⟨#[c]⟩:ByteArray).size) s.size:=rfl
   rw[e];omega)
  rw[Lib.splitB_hit ⟨#[c]⟩ 0 k s i h1,aUp];have e2:s.extract (i+(⟨#[c]⟩:ByteArray).size) s.size=s.extract (i+1) s.size:=rfl;rw[e2,hr,h3];congr 1
  ·rw[Lib.extract_data];simp
  congr 1;rw[Lib.extract_data];rw[aTa (by simp)]
theorem aKo (s:ByteArray)(c:UInt8)(w:World)(hs:s.size<4294967281)(hE:Env w):
  U 58 #[.string s,.string ⟨#[c]⟩] w fun e w'=> ∃v,e= .returned v∧w'.ownsRow w 9 1 v (cR c s.data.toList).length (iL (cR c s.data.toList))∧Ext w w':=by
 obtain⟨m,hm⟩:=hE.mx;refine(Tryz.strings_Split s ⟨#[c]⟩ m w hs hm (aT5 1)).mono ?_;rintro e w' ⟨rfl,rfl⟩;have hq:=aKn c _ s rfl;have hl:(cR c s.data.toList).length=Lib.countB s ⟨#[c]⟩+1:=by rw[←hq,aU1];exact Lib.splitB_all ⟨#[c]⟩ (aT5 1) 0 _ s rfl
 have hv:(Lib.splitB ⟨#[c]⟩ 0 (Lib.countB s ⟨#[c]⟩) s).map Value.string=iL (cR c s.data.toList):=by rw[←hq,iL,List.map_map];rfl
 refine⟨_,rfl,?_,(Ext.refl _).alloc _⟩;rw[hv,←hl];have:=Lib.countB_le ⟨#[c]⟩ (aT5 1) _ s (aT5 _);have h2:=World.ownsRow_lit (e:=9) (size:=1) (base:=w.heap.size) w (iL (cR c s.data.toList)).toArray (cR c s.data.toList).length (aT5 _) (by unfold maxLen;omega) (by simp[iL]);simpa using h2
theorem aJ8: ∀(k n:Nat),n≤k→(Lib.decDigits n).all eO=true∧(n≤9223372036854775807→lY (Lib.decDigits n)=n)∧(1≤n→(Lib.decDigits n).head? ≠some 48):=by
 intro k;induction k with
 |zero=>
  intro n h;obtain rfl:n=0:=by omega
  rw[fU 0 (by omega)];exact⟨by decide,fun _=>by decide,fun h=>by omega⟩
 |succ k ih=>
  intro n h;by_cases h10:n<10
  ·rw[fU n h10];have e:(UInt8.ofNat (48+n)).toNat=48+n:=by simp;omega
   refine⟨?_,fun _=> ?_,fun h1 hh=> ?_⟩
   ·simp[eO];omega
   ·simp[lY];omega
   simp at hh;have:=congrArg UInt8.toNat hh;simp at this;omega
  obtain⟨i1,i2,i3⟩:=ih (n/10) (by omega);rw[mF n h10];have e:(UInt8.ofNat (48+n%10)).toNat=48+n%10:=by simp;omega
  refine⟨?_,fun hb=> ?_,fun h1=> ?_⟩
  ·simp only[List.all_append,i1,List.all_cons,List.all_nil,Bool.and_true,Bool.true_and,eO,e];simp;omega
  ·rw[vJ,i2 (by omega),e];omega
  have hp:=nV (n/10);cases hd:Lib.decDigits (n/10)with
  |nil=>rw[hd]at hp;simp at hp
  |cons x xs=>have:=i3 (by omega);rw[hd]at this;simpa using this
theorem aSi: ∀(k n:Nat),n<10 ^ (k+1)→(Lib.decDigits n).length≤k+1:=by
 intro k;induction k with
 |zero=>intro n h;rw[fU n (by simpa using h)];simp
 |succ k ih=>
  intro n h;by_cases h10:n<10
  ·rw[fU n h10];simp
  rw[mF n h10,aTc];have:=ih (n/10) (by rw[Nat.pow_succ]at h;omega);simp;omega
theorem aCu (m n:Nat)(h:n<10 ^ m)(hm:1≤m)(a:m≤5):dY m (Lib.decDigits n)=some (n:Int):=by
 obtain⟨k,rfl⟩: ∃k,m=k+1:=⟨m-1,by omega⟩
 have hb:n≤99999:=by have:10 ^ (k+1)≤10 ^ 5:=aTl (by omega) a;omega
 obtain⟨a1,a2,a3⟩:=aJ8 n n (aT5 _);rw[sM (nV n) (aSi k n h) ?_ a1,a2 (by omega)];by_cases h0:n=0
 ·left;subst h0;rw[fU 0 (by omega)];simp
 right;exact a3 (by omega)
theorem aDx (n:Nat)(c:UInt8)(hc:eO c=false):c∉Lib.decDigits n:=by intro h;have:=(aJ8 n n (aT5 _)).1;rw[aU6]at this;rw[this c h]at hc;simp at hc
theorem mL (c:UInt8): ∀l:List UInt8,c∉l→cR c l= [l]:=by
 intro l;induction l with
 |nil=>intro _;rfl
 |cons x xs ih=>
  intro h;have e:cR c (x::xs)=match cR c xs with| []=> [[x]]|p::ps=>(x::p)::ps:=by rw[cR,if_neg (by intro e;exact h (by simp[e]))]<;>rfl
  rw[e,ih (by intro q;exact h (by simp[q]))]
theorem jY (c:UInt8): ∀(a b:List UInt8),c∉a→cR c (a++c::b)=a::cR c b:=by
 intro a b;induction a with
 |nil=>intro _;simp[cR]
 |cons x xs ih=>
  intro h;have e:cR c (x::(xs++c::b))=match cR c (xs++c::b)with| []=> [[x]]|p::ps=>(x::p)::ps:=by rw[cR,if_neg (by intro e;exact h (by simp[e]))]<;>rfl
  rw[aUu,e,ih (by intro q;exact h (by simp[q]))]
def jE (p:List UInt8):Option Int:=
 if p= [105,110]then some 0 else if p= [112,97,121]then some 1 else if p= [111,117,116]then some 2 else if p= [119,97,105,116]then some 3 else if p= [115,108,105,100,101]then some 4 else none
theorem nE {p:List UInt8}{k:Int}(h:jE p=some k):0≤k∧k≤4∧p=bV k:=by
 unfold jE at h
 repeat' split at h
 all_goals simp at h
 all_goals subst h;simp_all [bV]
theorem nF (k:Int)(h:0≤k∧k≤4):jE (bV k)=some k:=by rcases(show k=0∨k=1∨k=2∨k=3∨k=4 by omega)with rfl|rfl|rfl|rfl|rfl<;>decide
def bQ (l:List UInt8):Option (Int×Int×Int):=
 match cR 32 l with
 | [p,q]=>match jE p,dY 4 q with
   |some k,some a=>if bI k a 0=l then some (k,a,0)else none
   |_,_=>none
 | [p,q,r]=>match jE p,dY 4 q,dY 4 r with
   |some k,some a,some b=>if bI k a b=l then some (k,a,b)else none
   |_,_,_=>none
 |_=>none
def jN (ps:List (List UInt8)):Int×Int×Int:=
 match ps with
 | []=>(-1,0,0)
 | [p]=>((jE p).getD (-1),0,0)
 | [p,q]=>((jE p).getD (-1),(dY 4 q).getD (-1),0)
 |p::q::r::_=>((jE p).getD (-1),(dY 4 q).getD (-1),(dY 4 r).getD (-1))
def mP (l:List UInt8):Option (Int×Int×Int):=
 if l≠ []∧bI (jN (cR 32 l)).1 (jN (cR 32 l)).2.1 (jN (cR 32 l)).2.2=l then some (jN (cR 32 l))else none
theorem uJ {k a b:Int}(h:gG k a b=true):0≤k∧k≤4∧0≤a∧a≤9999∧0≤b∧b≤9999∧(iZ k=true∨b=0):=by simp[gG]at h;obtain⟨⟨h1,h2,h3,h4,h5,h6⟩,h7⟩:=h;exact⟨h1,h2,h3,h4,h5,h6,by cases hk:iZ k<;>simp_all⟩
theorem wW {k a b:Int}(h:bI k a b≠ []):gG k a b=true:=by
 unfold bI at h;split at h
 ·assumption
 simp at h
theorem aBh (k:Int):(32:UInt8)∉bV k:=by
 unfold bV
 repeat' split
 all_goals decide
theorem aGi {k a b:Int}(h:gG k a b=true):cR 32 (bI k a b)=if iZ k then [bV k,Lib.decDigits a.toNat,Lib.decDigits b.toNat]else [bV k,Lib.decDigits a.toNat]:=by
 unfold bI;rw[if_pos h];split
 ·have e:bV k++ [32]++Lib.decDigits a.toNat++([32]++Lib.decDigits b.toNat)=bV k++32::(Lib.decDigits a.toNat++32::Lib.decDigits b.toNat):=by simp
  rw[e,jY _ _ _ (aBh k),jY _ _ _ (aDx _ _ (by decide)),mL _ _ (aDx _ _ (by decide))]
 have e:bV k++ [32]++Lib.decDigits a.toNat++ []=bV k++32::Lib.decDigits a.toNat:=by simp
 rw[e,jY _ _ _ (aBh k),mL _ _ (aDx _ _ (by decide))]
theorem vE {a:Int}(h0:0≤a)(h1:a≤9999):dY 4 (Lib.decDigits a.toNat)=some a:=by rw[aCu 4 a.toNat (by omega) (by omega) (by omega)];congr 1;omega
theorem aAh {k a b:Int}(h:gG k a b=true):bQ (bI k a b)=some (k,a,b):=by
 obtain⟨h1,h2,h3,h4,h5,h6,h7⟩:=uJ h;unfold bQ;rw[aGi h];cases hk:iZ k with
 |true=>simp[nF k ⟨h1,h2⟩,vE h3 h4,vE h5 h6]
 |false=>
  obtain rfl:b=0:=by simpa[hk]using h7
  simp[nF k ⟨h1,h2⟩,vE h3 h4]
theorem aGh {k a b:Int}(h:gG k a b=true):bI k a b≠ []:=by unfold bI;rw[if_pos h];simp
theorem aA4 {k a b:Int}(h:gG k a b=true):mP (bI k a b)=some (k,a,b):=by
 obtain⟨h1,h2,h3,h4,h5,h6,h7⟩:=uJ h;have e:jN (cR 32 (bI k a b))=(k,a,b):=by
  rw[aGi h];cases hk:iZ k with
  |true=>simp[jN,nF k ⟨h1,h2⟩,vE h3 h4,vE h5 h6]
  |false=>
   obtain rfl:b=0:=by simpa[hk]using h7
   simp[jN,nF k ⟨h1,h2⟩,vE h3 h4]
 unfold mP;rw[e,if_pos ⟨aGh h,rfl⟩]
theorem aAi {l:List UInt8}{k a b:Int}(h:bQ l=some (k,a,b)):bI k a b=l∧gG k a b=true:=by
 have c:bI k a b=l∧0≤k∧k≤4∧l≠ []:=by
  have d: ∀p q,cR 32 l=p::q:: []∨(∃r,cR 32 l= [p,q,r])→l≠ []:=by rintro p q h rfl;rcases h with h|⟨r,h⟩<;>simp[cR]at h
  unfold bQ at h;split at h
  ·rename_i p q hc;have:=d p q (.inl hc);split at h
   ·rename_i k' a' hk ha;split at h
    ·rename_i ht;simp only[aUq,aTu]at h;obtain⟨rfl,rfl,rfl⟩:=h;exact⟨ht,(nE hk).1,(nE hk).2.1,this⟩
    simp at h
   simp at h
  ·rename_i p q r hc;have:=d p q (.inr ⟨r,hc⟩);split at h
   ·rename_i k' a' b' hk ha hb;split at h
    ·rename_i ht;simp only[aUq,aTu]at h;obtain⟨rfl,rfl,rfl⟩:=h;exact⟨ht,(nE hk).1,(nE hk).2.1,this⟩
    simp at h
   simp at h
  simp at h
 exact⟨c.1,wW (by rw[c.1];exact c.2.2.2)⟩
theorem aEe (l:List UInt8):mP l=bQ l:=by
 cases h:mP l with
 |some d=>
  obtain⟨k,a,b⟩:=d;unfold mP at h;split at h
  ·rename_i hc;simp only[aUq]at h;rw[h]at hc;have ho:=wW (by rw[hc.2];exact hc.1);rw[←hc.2,aAh ho]
  simp at h
 |none=>
  cases h2:bQ l with
  |none=>rfl
  |some d=>obtain⟨k,a,b⟩:=d;obtain⟨e,ho⟩:=aAi h2;rw[←e,aA4 ho]at h;simp at h
def gY (c:UInt8):List UInt8→List UInt8
 | []=> []
 |x::xs=>if x=c then []else x::gY c xs
def iQ (c:UInt8):List UInt8→List UInt8
 | []=> []
 |x::xs=>if x=c then xs else iQ c xs
theorem jI (c:UInt8): ∀(a b:List UInt8),c∉a→gY c (a++c::b)=a∧iQ c (a++c::b)=b:=by
 intro a b;induction a with
 |nil=>intro _;simp[gY,iQ]
 |cons x xs ih=>
  intro h;obtain⟨i1,i2⟩:=ih (fun q=>h (by simp[q]));have hx:x≠c:=fun q=>h (by simp[q])
  simp[gY,iQ,hx,i1,i2]
theorem aMl (c:UInt8): ∀(l:List UInt8),(cR c l)[0]? =some (gY c l):=by
 intro l;induction l with
 |nil=>rfl
 |cons x xs ih=>
  by_cases h:x=c
  ·rw[cR,if_pos h,gY,if_pos h]<;>rfl
  have e:cR c (x::xs)=match cR c xs with| []=> [[x]]|p::ps=>(x::p)::ps:=by rw[cR,if_neg h]<;>rfl
  rw[e,gY,if_neg h];cases hq:cR c xs with
  |nil=>exact absurd hq (lF c xs)
  |cons p ps=>rw[hq]at ih;simpa using ih
theorem rV (c:UInt8): ∀(l:List UInt8),c∈l→ ∃a b,l=a++c::b∧c∉a:=by
 intro l;induction l with
 |nil=>intro h;simp at h
 |cons x xs ih=>
  intro h;by_cases hx:x=c
  ·exact⟨[],xs,by simp[hx],by simp⟩
  obtain⟨a,b,e,ha⟩:=ih (by rcases aTi.1 h with h|h;exact absurd h.symm hx;exact h);exact⟨x::a,b,by simp[e],by simp[ha];exact fun q=>hx q.symm⟩
abbrev aKd:=Int×Int×Int
section
open Go.Proofs.Tryz
def rdV:Option (Int×Int×Int)→Value
 |some (k,a,b)=> .tuple #[eQ k a b,.bool true]
 |none=> .tuple #[eQ 0 0 0,.bool false]
def lV (o:Option (Int×Int×Int))(w:World)(e:Ending)(w':World):Prop:=e= .returned (rdV o)∧Ext w w'
theorem bF {w:World}{base g n a:Nat}{e:TypeId}{ps:List (List UInt8)}(h:w.ownsRow base e 1 (.slice (some ⟨g,0,none⟩) n a) n (iL ps))(j:Nat)(hj:j<n)(p:List UInt8)(hp:ps[j]? =some p):w.cell? ⟨g,j,none⟩=some (str p):=by rw[h.cellAt j (by omega)];simp[iL,hp]
theorem tW (l:List UInt8)(w:World)(ps:List (List UInt8))(b:0<ps.length)(hl:ps.length<2∨2≤ps.length∧3<ps.length)
  (HS:Hid (∀w,Env w→U 58 #[str l,.string ⟨#[32]⟩] w fun e w'=> ∃v,e= .returned v∧w'.ownsRow w 9 1 v ps.length (iL ps)∧Ext w w'))(HE:Hid (Env w)):
  U 30 #[str l] w (lV none w):=by
 rcases hl with hl|⟨h,hl⟩
 all_goals
  go_enter func30,ntmps30;go_wp2_with fail;refine(HS _ (HE.out.ext xE)).mono ?_;rintro e w1 ⟨v,rfl,a,h1⟩;obtain⟨g,c,rfl⟩:=aUd a b;obtain⟨d,f⟩:=h1.cells;clear a;go_wp2;exact bodyPost_ret (v:=rdV none) (by simp[results,results30,go_sem, *];rfl) rfl ⟨rfl,xE⟩
theorem zF (l:List UInt8)(w:World)(p q:List UInt8)(n1:(p== [105,110])=false)(n2:(p== [112,97,121])=false)(n3:(p== [111,117,116])=false)(n4:(p== [119,97,105,116])=false)(n5:(p== [115,108,105,100,101])=false)
  (HS:Hid (∀w,Env w→U 58 #[str l,.string ⟨#[32]⟩] w fun e w'=> ∃v,e= .returned v∧w'.ownsRow w 9 1 v 2 (iL [p,q])∧Ext w w'))(HE:Hid (Env w)):
  U 30 #[str l] w (lV none w):=by
 all_goals
  go_enter func30,ntmps30;go_wp2_with fail;refine(HS _ (HE.out.ext xE)).mono ?_;rintro e w1 ⟨v,rfl,a,h1⟩;obtain⟨g,b,rfl⟩:=aUd a (by omega);have e0:=bF a 0 (by omega) _ rfl;have hg:=(a.lt g rfl).2;obtain⟨c,d⟩:=h1.cells;have f:(w:Nat)<w1:=aT4 (by simp) h1.sz;clear a;go_wp2;exact bodyPost_ret (v:=rdV none) (by simp[results,results30,go_sem, *];rfl) rfl ⟨rfl,xE⟩
theorem aFm (l:List UInt8)(w:World)(p q:List UInt8)(k:Int)(hk:p= [105,110]∧k=0∨p= [112,97,121]∧k=1∨p= [111,117,116]∧k=2∨p= [119,97,105,116]∧k=3∨p= [115,108,105,100,101]∧k=4)
  (HS:Hid (∀w,Env w→U 58 #[str l,.string ⟨#[32]⟩] w fun e w'=> ∃v,e= .returned v∧w'.ownsRow w 9 1 v 2 (iL [p,q])∧Ext w w'))(HE:Hid (Env w))
  (HR:Hid (∀w,U 59 #[str q,I 4] w fun e w'=>e= .returned (.tuple #[(),.bool false])∧w=w')):
  U 30 #[str l] w (lV none w):=by
 rcases hk with⟨rfl,rfl⟩|⟨rfl,rfl⟩|⟨rfl,rfl⟩|⟨rfl,rfl⟩|⟨rfl,rfl⟩
 all_goals
  go_enter func30,ntmps30;go_wp2_with fail;refine(HS _ (HE.out.ext xE)).mono ?_;rintro e w1 ⟨v,rfl,a,h1⟩;obtain⟨g,b,rfl⟩:=aUd a (by omega);have e0:=bF a 0 (by omega) _ rfl;have e1:=bF a 1 (by omega) _ rfl;have hg:=(a.lt g rfl).2;obtain⟨c,d⟩:=h1.cells;have f:(w:Nat)<w1:=aT4 (by simp) h1.sz;clear a;go_wp2_with fail;refine(HR _).mono ?_;rintro e w2 ⟨rfl,rfl⟩;go_wp2;exact bodyPost_ret (v:=rdV none) (by simp[results,results30,go_sem, *];rfl) rfl ⟨rfl,xE⟩
theorem zE (l:List UInt8)(w:World)(p q r:List UInt8)(n1:(p== [105,110])=false)(n2:(p== [112,97,121])=false)(n3:(p== [111,117,116])=false)(n4:(p== [119,97,105,116])=false)(n5:(p== [115,108,105,100,101])=false)
  (HS:Hid (∀w,Env w→U 58 #[str l,.string ⟨#[32]⟩] w fun e w'=> ∃v,e= .returned v∧w'.ownsRow w 9 1 v 3 (iL [p,q,r])∧Ext w w'))(HE:Hid (Env w)):
  U 30 #[str l] w (lV none w):=by
 all_goals
  go_enter func30,ntmps30;go_wp2_with fail;refine(HS _ (HE.out.ext xE)).mono ?_;rintro e w1 ⟨v,rfl,a,h1⟩;obtain⟨g,b,rfl⟩:=aUd a (by omega);have e0:=bF a 0 (by omega) _ rfl;have hg:=(a.lt g rfl).2;obtain⟨c,d⟩:=h1.cells;have f:(w:Nat)<w1:=aT4 (by simp) h1.sz;clear a;go_wp2;exact bodyPost_ret (v:=rdV none) (by simp[results,results30,go_sem, *];rfl) rfl ⟨rfl,xE⟩
theorem aFl (l:List UInt8)(w:World)(p q r:List UInt8)(k:Int)(hk:p= [105,110]∧k=0∨p= [112,97,121]∧k=1∨p= [111,117,116]∧k=2∨p= [119,97,105,116]∧k=3∨p= [115,108,105,100,101]∧k=4)
  (HS:Hid (∀w,Env w→U 58 #[str l,.string ⟨#[32]⟩] w fun e w'=> ∃v,e= .returned v∧w'.ownsRow w 9 1 v 3 (iL [p,q,r])∧Ext w w'))(HE:Hid (Env w))
  (HR:Hid (∀w,U 59 #[str q,I 4] w fun e w'=>e= .returned (.tuple #[(),.bool false])∧w=w')):
  U 30 #[str l] w (lV none w):=by
 rcases hk with⟨rfl,rfl⟩|⟨rfl,rfl⟩|⟨rfl,rfl⟩|⟨rfl,rfl⟩|⟨rfl,rfl⟩
 all_goals
  go_enter func30,ntmps30;go_wp2_with fail;refine(HS _ (HE.out.ext xE)).mono ?_;rintro e w1 ⟨v,rfl,a,h1⟩;obtain⟨g,b,rfl⟩:=aUd a (by omega);have e0:=bF a 0 (by omega) _ rfl;have e1:=bF a 1 (by omega) _ rfl;have hg:=(a.lt g rfl).2;obtain⟨c,d⟩:=h1.cells;have f:(w:Nat)<w1:=aT4 (by simp) h1.sz;clear a;go_wp2_with fail;refine(HR _).mono ?_;rintro e w2 ⟨rfl,rfl⟩;go_wp2;exact bodyPost_ret (v:=rdV none) (by simp[results,results30,go_sem, *];rfl) rfl ⟨rfl,xE⟩
theorem aFk (l:List UInt8)(w:World)(p q r:List UInt8)(k a:Int)(hk:p= [105,110]∧k=0∨p= [112,97,121]∧k=1∨p= [111,117,116]∧k=2∨p= [119,97,105,116]∧k=3∨p= [115,108,105,100,101]∧k=4)
  (HS:Hid (∀w,Env w→U 58 #[str l,.string ⟨#[32]⟩] w fun e w'=> ∃v,e= .returned v∧w'.ownsRow w 9 1 v 3 (iL [p,q,r])∧Ext w w'))(HE:Hid (Env w))
  (HR:Hid (∀w,U 59 #[str q,I 4] w fun e w'=>e= .returned (.tuple #[a,.bool true])∧w=w'))
  (c:Hid (∀w,U 59 #[str r,I 4] w fun e w'=>e= .returned (.tuple #[(),.bool false])∧w=w')):
  U 30 #[str l] w (lV none w):=by
 rcases hk with⟨rfl,rfl⟩|⟨rfl,rfl⟩|⟨rfl,rfl⟩|⟨rfl,rfl⟩|⟨rfl,rfl⟩
 all_goals
  go_enter func30,ntmps30;go_wp2_with fail;refine(HS _ (HE.out.ext xE)).mono ?_;rintro e w1 ⟨v,rfl,b,h1⟩;obtain⟨g,d,rfl⟩:=aUd b (by omega);have e0:=bF b 0 (by omega) _ rfl;have e1:=bF b 1 (by omega) _ rfl;have e2:=bF b 2 (by omega) _ rfl;have hg:=(b.lt g rfl).2;obtain⟨f,h⟩:=h1.cells;have i:(w:Nat)<w1:=aT4 (by simp) h1.sz;clear b;go_wp2_with fail;refine(HR _).mono ?_;rintro e w2 ⟨rfl,rfl⟩;go_wp2_with fail;refine(c _).mono ?_;rintro e w2 ⟨rfl,rfl⟩;go_wp2;exact bodyPost_ret (v:=rdV none) (by simp[results,results30,go_sem, *];rfl) rfl ⟨rfl,xE⟩
theorem aD9 (l:List UInt8)(w:World)(p q t:List UInt8)(k a:Int)(hk:p= [105,110]∧k=0∨p= [112,97,121]∧k=1∨p= [111,117,116]∧k=2∨p= [119,97,105,116]∧k=3∨p= [115,108,105,100,101]∧k=4)(ht:(t==l)=true)
  (HS:Hid (∀w,Env w→U 58 #[str l,.string ⟨#[32]⟩] w fun e w'=> ∃v,e= .returned v∧w'.ownsRow w 9 1 v 2 (iL [p,q])∧Ext w w'))(HE:Hid (Env w))
  (HR:Hid (∀w,U 59 #[str q,I 4] w fun e w'=>e= .returned (.tuple #[a,.bool true])∧w=w'))
  (HD:Hid (∀w,Env w→U 60 #[eQ k a 0] w (O (str t) w))):
  U 30 #[str l] w (lV (some (k,a,0)) w):=by
 rcases hk with⟨rfl,rfl⟩|⟨rfl,rfl⟩|⟨rfl,rfl⟩|⟨rfl,rfl⟩|⟨rfl,rfl⟩
 all_goals
  go_enter func30,ntmps30;go_wp2_with fail;refine(HS _ (HE.out.ext xE)).mono ?_;rintro e w1 ⟨v,rfl,b,h1⟩;obtain⟨g,c,rfl⟩:=aUd b (by omega);have e0:=bF b 0 (by omega) _ rfl;have e1:=bF b 1 (by omega) _ rfl;have hg:=(b.lt g rfl).2;obtain⟨d,i⟩:=h1.cells;have n:(w:Nat)<w1:=aT4 (by simp) h1.sz;clear b;go_wp2_with fail;refine(HR _).mono ?_;rintro e w2 ⟨rfl,rfl⟩;go_wp2_with fail;refine Z (HD _ (HE.out.ext xE)) fun w2 h2=>?_
  obtain⟨f,j⟩:=h2.cells;have hw:=(h1.alloc (.cells #[_,_,_] 62)).trans h2;obtain⟨h,m⟩:=hw.cells;go_wp2;exact bodyPost_ret (v:=rdV (some (_,a,0))) (by simp[results,results30,go_sem, *];rfl) rfl ⟨rfl,xE⟩
theorem aDb (l:List UInt8)(w:World)(p q t:List UInt8)(k a:Int)(hk:p= [105,110]∧k=0∨p= [112,97,121]∧k=1∨p= [111,117,116]∧k=2∨p= [119,97,105,116]∧k=3∨p= [115,108,105,100,101]∧k=4)(ht:(t==l)=false)
  (HS:Hid (∀w,Env w→U 58 #[str l,.string ⟨#[32]⟩] w fun e w'=> ∃v,e= .returned v∧w'.ownsRow w 9 1 v 2 (iL [p,q])∧Ext w w'))(HE:Hid (Env w))
  (HR:Hid (∀w,U 59 #[str q,I 4] w fun e w'=>e= .returned (.tuple #[a,.bool true])∧w=w'))
  (HD:Hid (∀w,Env w→U 60 #[eQ k a 0] w (O (str t) w))):
  U 30 #[str l] w (lV (none) w):=by
 rcases hk with⟨rfl,rfl⟩|⟨rfl,rfl⟩|⟨rfl,rfl⟩|⟨rfl,rfl⟩|⟨rfl,rfl⟩
 all_goals
  go_enter func30,ntmps30;go_wp2_with fail;refine(HS _ (HE.out.ext xE)).mono ?_;rintro e w1 ⟨v,rfl,b,h1⟩;obtain⟨g,c,rfl⟩:=aUd b (by omega);have e0:=bF b 0 (by omega) _ rfl;have e1:=bF b 1 (by omega) _ rfl;have hg:=(b.lt g rfl).2;obtain⟨d,i⟩:=h1.cells;have n:(w:Nat)<w1:=aT4 (by simp) h1.sz;clear b;go_wp2_with fail;refine(HR _).mono ?_;rintro e w2 ⟨rfl,rfl⟩;go_wp2_with fail;refine Z (HD _ (HE.out.ext xE)) fun w2 h2=>?_
  obtain⟨f,j⟩:=h2.cells;have hw:=(h1.alloc (.cells #[_,_,_] 62)).trans h2;obtain⟨h,m⟩:=hw.cells;go_wp2;exact bodyPost_ret (v:=rdV none) (by simp[results,results30,go_sem, *];rfl) rfl ⟨rfl,xE⟩
theorem aD8 (l:List UInt8)(w:World)(p q r t:List UInt8)(k a b:Int)(hk:p= [105,110]∧k=0∨p= [112,97,121]∧k=1∨p= [111,117,116]∧k=2∨p= [119,97,105,116]∧k=3∨p= [115,108,105,100,101]∧k=4)(ht:(t==l)=true)
  (HS:Hid (∀w,Env w→U 58 #[str l,.string ⟨#[32]⟩] w fun e w'=> ∃v,e= .returned v∧w'.ownsRow w 9 1 v 3 (iL [p,q,r])∧Ext w w'))(HE:Hid (Env w))
  (HR:Hid (∀w,U 59 #[str q,I 4] w fun e w'=>e= .returned (.tuple #[a,.bool true])∧w=w'))
  (d:Hid (∀w,U 59 #[str r,I 4] w fun e w'=>e= .returned (.tuple #[b,.bool true])∧w=w'))
  (HD:Hid (∀w,Env w→U 60 #[eQ k a b] w (O (str t) w))):
  U 30 #[str l] w (lV (some (k,a,b)) w):=by
 rcases hk with⟨rfl,rfl⟩|⟨rfl,rfl⟩|⟨rfl,rfl⟩|⟨rfl,rfl⟩|⟨rfl,rfl⟩
 all_goals
  go_enter func30,ntmps30;go_wp2_with fail;refine(HS _ (HE.out.ext xE)).mono ?_;rintro e w1 ⟨v,rfl,c,h1⟩;obtain⟨g,f,rfl⟩:=aUd c (by omega);have e0:=bF c 0 (by omega) _ rfl;have e1:=bF c 1 (by omega) _ rfl;have e2:=bF c 2 (by omega) _ rfl;have hg:=(c.lt g rfl).2;obtain⟨h,m⟩:=h1.cells;have s:(w:Nat)<w1:=aT4 (by simp) h1.sz;clear c;go_wp2_with fail;refine(HR _).mono ?_;rintro e w2 ⟨rfl,rfl⟩;go_wp2_with fail;refine(d _).mono ?_;rintro e w2 ⟨rfl,rfl⟩;go_wp2_with fail;refine Z (HD _ (HE.out.ext xE)) fun w2 h2=>?_
  obtain⟨i,n⟩:=h2.cells;have hw:=(h1.alloc (.cells #[_,_,_] 62)).trans h2;obtain⟨j,o⟩:=hw.cells;go_wp2;exact bodyPost_ret (v:=rdV (some (_,a,b))) (by simp[results,results30,go_sem, *];rfl) rfl ⟨rfl,xE⟩
theorem aDa (l:List UInt8)(w:World)(p q r t:List UInt8)(k a b:Int)(hk:p= [105,110]∧k=0∨p= [112,97,121]∧k=1∨p= [111,117,116]∧k=2∨p= [119,97,105,116]∧k=3∨p= [115,108,105,100,101]∧k=4)(ht:(t==l)=false)
  (HS:Hid (∀w,Env w→U 58 #[str l,.string ⟨#[32]⟩] w fun e w'=> ∃v,e= .returned v∧w'.ownsRow w 9 1 v 3 (iL [p,q,r])∧Ext w w'))(HE:Hid (Env w))
  (HR:Hid (∀w,U 59 #[str q,I 4] w fun e w'=>e= .returned (.tuple #[a,.bool true])∧w=w'))
  (d:Hid (∀w,U 59 #[str r,I 4] w fun e w'=>e= .returned (.tuple #[b,.bool true])∧w=w'))
  (HD:Hid (∀w,Env w→U 60 #[eQ k a b] w (O (str t) w))):
  U 30 #[str l] w (lV (none) w):=by
 rcases hk with⟨rfl,rfl⟩|⟨rfl,rfl⟩|⟨rfl,rfl⟩|⟨rfl,rfl⟩|⟨rfl,rfl⟩
 all_goals
  go_enter func30,ntmps30;go_wp2_with fail;refine(HS _ (HE.out.ext xE)).mono ?_;rintro e w1 ⟨v,rfl,c,h1⟩;obtain⟨g,f,rfl⟩:=aUd c (by omega);have e0:=bF c 0 (by omega) _ rfl;have e1:=bF c 1 (by omega) _ rfl;have e2:=bF c 2 (by omega) _ rfl;have hg:=(c.lt g rfl).2;obtain⟨h,m⟩:=h1.cells;have s:(w:Nat)<w1:=aT4 (by simp) h1.sz;clear c;go_wp2_with fail;refine(HR _).mono ?_;rintro e w2 ⟨rfl,rfl⟩;go_wp2_with fail;refine(d _).mono ?_;rintro e w2 ⟨rfl,rfl⟩;go_wp2_with fail;refine Z (HD _ (HE.out.ext xE)) fun w2 h2=>?_
  obtain⟨i,n⟩:=h2.cells;have hw:=(h1.alloc (.cells #[_,_,_] 62)).trans h2;obtain⟨j,o⟩:=hw.cells;go_wp2;exact bodyPost_ret (v:=rdV none) (by simp[results,results30,go_sem, *];rfl) rfl ⟨rfl,xE⟩
end
theorem zW (c:UInt8): ∀(l:List UInt8),(∀p∈cR c l,p.length≤l.length)∧(cR c l).length≤l.length+1:=by
 intro l;induction l with
 |nil=>simp[cR]
 |cons x xs ih=>
  by_cases h:x=c
  ·have e:cR c (x::xs)= []::cR c xs:=by rw[cR,if_pos h]
   rw[e];refine⟨fun p hp=> ?_,by simp;exact ih.2⟩;rcases aTi.1 hp with rfl|hp
   ·simp
   have:=ih.1 p hp;simp;omega
  have e:cR c (x::xs)=match cR c xs with| []=> [[x]]|p::ps=>(x::p)::ps:=by rw[cR,if_neg h]<;>rfl
  rw[e];cases hq:cR c xs with
  |nil=>exact absurd hq (lF c xs)
  |cons q qs=>
   rw[hq]at ih;refine⟨fun p hp=> ?_,by have:=ih.2;simp at this⊢;omega⟩;rcases aTi.1 hp with rfl|hp
   ·have:=ih.1 q (by simp);simp;omega
   have:=ih.1 p (by simp[hp]);simp;omega
theorem qK {p:List UInt8}(h:jE p=none):(p== [105,110])=false∧(p== [112,97,121])=false∧(p== [111,117,116])=false∧(p== [119,97,105,116])=false∧(p== [115,108,105,100,101])=false:=by
 unfold jE at h
 repeat' split at h
 all_goals simp_all
theorem fR {p:List UInt8}{k:Int}(h:jE p=some k):p= [105,110]∧k=0∨p= [112,97,121]∧k=1∨p= [111,117,116]∧k=2∨p= [119,97,105,116]∧k=3∨p= [115,108,105,100,101]∧k=4:=by
 unfold jE at h
 repeat' split at h
 all_goals simp_all
theorem wJ (q:List UInt8)(m:Nat)(hm:1≤m∧m≤5)(hq:q.length≤maxLen)(w:World):U 59 #[str q,m] w fun e w'=>e= .returned (.tuple #[((dY m q).getD 0:Int),.bool (dY m q).isSome])∧w=w':=
 yO ⟨q.toArray⟩ m w hm (by simpa[ByteArray.size]using hq)
theorem aDc (l:List UInt8)(w:World)(hs:l.length<4294967281)(hE:Env w):U 30 #[str l] w (lV (bQ l) w):=by
 have hS: ∀w,Env w→U 58 #[str l,.string ⟨#[32]⟩] w fun e w'=> ∃v,e= .returned v∧w'.ownsRow w 9 1 v (cR 32 l).length (iL (cR 32 l))∧Ext w w':=
  fun w hE=>aKo ⟨l.toArray⟩ 32 w (by simpa[ByteArray.size]using hs) hE
 have d:=zW 32 l;have c: ∀q∈cR 32 l,∀o,dY 4 q=o→Hid (∀w,U 59 #[str q,I 4] w fun e w'=>e= .returned (.tuple #[(o.getD 0:Int),.bool o.isSome])∧w=w'):=by intro q hq o ho w;subst ho;exact wJ q 4 (by omega) (by have:=d.1 q hq;unfold maxLen;omega) w
 rcases hc:cR 32 l with _|⟨p,_|⟨q,_|⟨r,_|⟨x,rest⟩⟩⟩⟩
 ·exact absurd hc (lF 32 l)
 ·rw[hc]at hS;have e:bQ l=none:=by unfold bQ;rw[hc]
  rw[e];exact tW l w [p] (by simp) (.inl (by simp)) hS hE
 ·rw[hc]at hS c;cases hk:jE p with
  |none=>
   obtain⟨n1,n2,n3,n4,n5⟩:=qK hk;have e:bQ l=none:=by unfold bQ;rw[hc];simp[hk]
   rw[e];exact zF l w p q n1 n2 n3 n4 n5 hS hE
  |some k=>
   cases hq:dY 4 q with
   |none=>
    have e:bQ l=none:=by unfold bQ;rw[hc];simp[hk,hq]
    rw[e];exact aFm l w p q k (fR hk) hS hE (c q (by simp) _ hq)
   |some a=>
    by_cases ht:bI k a 0=l
    ·skip;have e:bQ l=some (k,a,0):=by unfold bQ;rw[hc];simp[hk,hq,ht]
     rw[e];exact aD9 l w p q (bI k a 0) k a (fR hk) (by simp[ht]) hS hE (c q (by simp) _ hq) (fun w h=>tZ k a 0 w h)
    skip;have e:bQ l=none:=by unfold bQ;rw[hc];simp[hk,hq,ht]
    rw[e];exact aDb l w p q (bI k a 0) k a (fR hk) (by simp[ht]) hS hE (c q (by simp) _ hq) (fun w h=>tZ k a 0 w h)
 ·rw[hc]at hS c;cases hk:jE p with
  |none=>
   obtain⟨n1,n2,n3,n4,n5⟩:=qK hk;have e:bQ l=none:=by unfold bQ;rw[hc];simp[hk]
   rw[e];exact zE l w p q r n1 n2 n3 n4 n5 hS hE
  |some k=>
   cases hq:dY 4 q with
   |none=>
    have e:bQ l=none:=by unfold bQ;rw[hc];simp[hk,hq]
    rw[e];exact aFl l w p q r k (fR hk) hS hE (c q (by simp) _ hq)
   |some a=>
    cases hr:dY 4 r with
    |none=>
     have e:bQ l=none:=by unfold bQ;rw[hc];simp[hk,hq,hr]
     rw[e];exact aFk l w p q r k a (fR hk) hS hE (c q (by simp) _ hq) (c r (by simp) _ hr)
    |some b=>
     by_cases ht:bI k a b=l
     ·skip;have e:bQ l=some (k,a,b):=by unfold bQ;rw[hc];simp[hk,hq,hr,ht]
      rw[e];exact aD8 l w p q r (bI k a b) k a b (fR hk) (by simp[ht]) hS hE (c q (by simp) _ hq) (c r (by simp) _ hr) (fun w h=>tZ k a b w h)
     skip;have e:bQ l=none:=by unfold bQ;rw[hc];simp[hk,hq,hr,ht]
     rw[e];exact aDa l w p q r (bI k a b) k a b (fR hk) (by simp[ht]) hS hE (c q (by simp) _ hq) (c r (by simp) _ hr) (fun w h=>tZ k a b w h)
 rw[hc]at hS;have e:bQ l=none:=by unfold bQ;rw[hc]
 rw[e];exact tW l w (p::q::r::x::rest) (by simp) (.inr (by simp)) hS hE
theorem qW (c:UInt8): ∀l:List UInt8,c∉l→gY c l=l∧iQ c l= []:=by
 intro l;induction l with
 |nil=>intro _;exact⟨rfl,rfl⟩
 |cons x xs ih=>
  intro h;have hx:x≠c:=fun q=>h (by simp[q])
  obtain⟨i1,i2⟩:=ih (fun q=>h (by simp[q]));simp[gY,iQ,hx,i1,i2]
theorem aFi (c:UInt8)(a b:List UInt8)(h:c∉a):Lib.index (a++c::b) [c]=a.length:=by
 rcases rO c (a++c::b)with⟨h1,h2,h3⟩|⟨i,h1,h2,h3,h4⟩
 ·exact absurd (by simp) h3
 have e:=aMl c (a++c::b);rw[h3,(jI c a b h).1]at e;simp only[aVm,aUq]at e;have:=congrArg List.length e;simp at this h2;rw[h1];omega
theorem aS3 (c:UInt8)(l:List UInt8):(Lib.cut l [c]).1=gY c l∧(Lib.cut l [c]).2.1=iQ c l:=by
 by_cases h:c∈l
 ·obtain⟨a,b,rfl,ha⟩:=rV c l h;unfold Lib.cut;rw[aFi c a b ha,if_pos (by omega),(jI c a b ha).1,(jI c a b ha).2];simp
 have e:Lib.index l [c]= -1:=by
  rcases rO c l with⟨h1,_⟩|⟨i,h1,h2,h3,h4⟩
  ·exact h1
  exfalso;have e2:=mL c l h;rw[h3]at e2;have:=congrArg List.length e2;simp at this;exact absurd this (lF c _)
 unfold Lib.cut;rw[e,if_neg (by omega),(qW c l h).1,(qW c l h).2];exact⟨rfl,rfl⟩
theorem aPz (l:List UInt8)(c:UInt8)(w:World)(hs:l.length<4294967281)(hE:Env w):
  U 69 #[str l,.string ⟨#[c]⟩] w (O (.tuple #[str (gY c l),str (iQ c l),.bool (Lib.cut l [c]).2.2]) w):=by
 obtain⟨m,hm⟩:=hE.mx;refine(Tryz.strings_Cut ⟨l.toArray⟩ ⟨#[c]⟩ m w (by simpa[ByteArray.size]using hs) hm).mono ?_;rintro e w' ⟨rfl,n,rfl⟩;obtain⟨c1,c2⟩:=aS3 c l;refine⟨?_,(Ext.refl _).drewN _⟩;show Ending.returned (.tuple #[.string ⟨(Lib.cut l [c]).1.toArray⟩,.string ⟨(Lib.cut l [c]).2.1.toArray⟩,.bool (Lib.cut l [c]).2.2])=_;rw[c1,c2]
/-! ### slices of structs -/
theorem Rd.at {α:Type}{f:α→List Value}{w:World}{b c n d sz:Nat}{xs:List α}(hf: ∀a,(f a).length=sz)(h:Rd w (.slice (some ⟨b,c,none⟩) n d) n sz (xs.flatMap f)){k:Nat}{a:α}(hk:xs[k]? =some a) (hn:xs.length=n) (j:Nat) (hj:j<sz):
  w.cell? ⟨b,c+k*sz+j,none⟩=(f a)[j]? :=by
 rcases h.2 with⟨h1,_⟩|⟨b',off',cap',h1,_,_,_,h2⟩
 ·simp at h1
 simp only[Value.slice.injEq,aUq,Addr.mk.injEq,and_true,true_and]at h1;obtain⟨⟨rfl,rfl⟩,rfl⟩:=h1;have e:k<n:=by rw[←hn];exact(aT9.1 hk).1
 have g:k*sz+j<n*sz:=by have:(k+1)*sz≤n*sz:=aUw sz e;rw[aVc]at this;omega
 rw[Nat.add_assoc,h2 _ g,eP f sz hf xs k a hk j hj]
def oI (d:aKd):List Value:= [.int .i64 d.1,.int .i64 d.2.1,.int .i64 d.2.2]
abbrev RdDeeds (w:World)(v:Value)(ds:List aKd):Prop:=Rd w v ds.length 3 (ds.flatMap oI)
theorem RdDeeds.at {w:World}{b c n e:Nat}{ds:List aKd}(h:Rd w (.slice (some ⟨b,c,none⟩) n e) n 3 (ds.flatMap oI))(hn:ds.length=n){k:Nat}{d:aKd}(hk:ds[k]? =some d):
  w.cell? ⟨b,c+k*3,none⟩=some (I d.1)∧w.cell? ⟨b,c+k*3+1,none⟩=some (I d.2.1)∧w.cell? ⟨b,c+k*3+2,none⟩=some (I d.2.2):=
 ⟨h.at (f:=oI) (fun _=>rfl) hk hn 0 (by omega),h.at (f:=oI) (fun _=>rfl) hk hn 1 (by omega),h.at (f:=oI) (fun _=>rfl) hk hn 2 (by omega)⟩
/-! ### the text -/
/-! ### a builder while the world grows -/
theorem Ext.gb {w w':World}(h:Ext w w'):w.grownBy w' none:=⟨h.os,h.tape,h.output,h.size,fun k hk _=>h.block k hk⟩
theorem sI {T e:TypeId}{B b:Nat}{p:Value}{bs:List Value}{w w':World}(h:Lib.BuilderAtF T e B b p bs w)(hx:Ext w w'):Lib.BuilderAtF T e B b p bs w':=by have c:=h.lt;obtain⟨hB,v,hh,a,d⟩:=h;exact⟨hB,v,by rw[hx.block b c];exact hh,a.kept hx.gb (by cases v.ownBlock<;>simp),d⟩
theorem qY {T e:TypeId}{B b:Nat}{bs:List Value}{w w':World}(h:Lib.IsBuilderF T e B b bs w)(hx:Ext w w'):Lib.IsBuilderF T e B b bs w':=
 h.elim (fun q=> .inl (sI q hx)) (fun q=> .inr (sI q hx))
theorem iY {w wr w':World}{B:Nat}(h:Ext w wr)(hb:Below B wr w')(hB:w.heap.size≤B):Ext w w':=Below.trans h (Below.mono hb hB)
theorem lE (a b:List UInt8):Lib.byteCells (a++b)=Lib.byteCells a++Lib.strCells ⟨b.toArray⟩:=by simp[Lib.byteCells,Lib.strCells]
section
open Go.Proofs.Tryz
def eY (x:Int):List UInt8:=if x=0 then [46]else Lib.decDigits x.toNat
def dJ (aA:Int)(k:Nat):List UInt8:=if k=0 then []else if(k:Int)%aA=0 then [47]else [44]
def aV (aA:Int)(xs:List Int):Nat→List UInt8
 |0=> []
 |k+1=>aV aA xs k++dJ aA k++eY (xs[k]?.getD 0)
def eA (aA aB:Int)(xs:List Int):List UInt8:=if aN aA aB xs then aV aA xs xs.length else []
theorem aGl (x:Int)(h:x≤99):(eY x).length≤21:=by
 unfold eY;split
 ·simp
 exact cQ _ (by omega)
theorem nT (aA:Int)(xs:List Int)(h: ∀x∈xs,x≤99): ∀k,(aV aA xs k).length≤22*k:=by
 intro k;induction k with
 |zero=>simp[aV]
 |succ k ih=>
  have h1:(eY (xs[k]?.getD 0)).length≤21:=by
   refine aGl _ ?_;cases hx:xs[k]? with
   |none=>simp
   |some x=>exact h x (aT7 hx)
  have h2:(dJ aA k).length≤1:=by unfold dJ;split;simp;split<;>simp
  simp only[aV,aTc];omega
theorem qQ {aA:Int}{xs:List Int}{k:Nat}{x:Int}(h:xs[k]? =some x):aV aA xs (k+1)=aV aA xs k++dJ aA k++eY x:=by simp[aV,h]
theorem jJ (a:List UInt8)(c:UInt8)(ci:Int)(hc:ci=(c.toNat:Int)):Lib.byteCells (a++ [c])=Lib.byteCells a++ [.int .u8 ci]:=by subst hc;simp[Lib.byteCells]
theorem vM (aA aB:Int)(p:OA)(n a:Nat)(w:World)(HV:xB 42 #[aH aA aB p n a] w false):
  U 29 #[aH aA aB p n a] w (O (str []) w):=by
 go_enter func29,ntmps29;go_wp2_with fail;refine Z (HV _ (by exact .alloc (.refl _) _)) fun w1 h1=>?_
 go_wp2;go_ret;exact⟨rfl,by exact .trans (.alloc (.refl _) _) h1⟩
theorem xL (aA aB:Int)(p:OA)(n u:Nat)(xs:List Int)(w:World)(ad:Env w)(h0:2≤aA)(h1:aA≤4)(hn:n≤12)(hc: ∀x∈xs,0≤x∧x≤99)(HS:Hid (Sl w p n u 1 (ivs xs)))
  (HV:xB 42 #[aH aA aB p n u] w true):
  U 29 #[aH aA aB p n u] w (O (str (aV aA xs n)) w):=by
 have aa:=xQ ad;have HC:=xQ hc;clear ad hc;go_enter func29,ntmps29;go_wp2_with fail;refine Z (HV _ (by exact .alloc (.refl _) _)) fun w1 v=>?_
 have ai:(w:Nat)<w1:=aT4 (by simp) v.sz;have ea:w1.cell? ⟨w,0,none⟩=some (I aA):=by rw[v.cells.1 _ _ (by simp)];simp
 have eb:w1.cell? ⟨w,2,none⟩=some (.slice p n u):=by rw[v.cells.1 _ _ (by simp)];simp
 have z:Ext w w1:=by exact .trans (.alloc (.refl _) _) v
 go_wp2;go_loopw [12] (fun i wr=> ∃(k:Nat),k≤n∧i=I k∧Lib.IsBuilderF 83 5 w1 w1 (Lib.byteCells (aV aA xs k)) wr∧Ext w1 wr∧w1.heap.size<wr.heap.size) (fun i _=>n-(intOf i).toNat)
 case atStart=>exact⟨0,aTd _,rfl,.inl ⟨aT5 _,.slice none 0 0,by rw[heap_alloc_new],World.ownsRowF_nil _ _ _ _,by simp[Value.ownBlock]⟩,(Ext.refl _).alloc _,by simp⟩
 case round=>
  obtain⟨k,hk,rfl,af,hE,y⟩:=hrel;have s:=xQ af;clear af;have ae:Ext w wr:=z.trans hE;have ak:wr.cell? ⟨w,0,none⟩=some (I aA):=(hE.cells.1 _ _ ai).trans ea;have o:(Lib.byteCells (aV aA xs k)).length≤300:=by have:=nT aA xs (fun x hx=>(HC x hx).2) k;simp[Lib.byteCells];omega
  by_cases hlt:k<n
  ·obtain⟨b,am,x,rfl,hx,al,ah⟩:=(HS.out.ext ae).int_at hlt;obtain⟨ab,aj⟩:=HC x (aT7 hx);have HX:=xQ hx;clear hx;have j:=xQ (qQ (aA:=aA) HX.out);by_cases hk0:k=0
   ·have k1:((k:Int)==0)=true:=by simp[hk0]
    have c:Hid (dJ aA k= []):=by show _=_;simp[dJ,hk0]
    clear hk0;by_cases hz:x=0
    ·have z1:(x==0)=true:=by simp[hz]
     have a:Hid (aV aA xs (k+1)=aV aA xs k++ [46]):=by show _=_;rw[j.out,c.out,aTv];simp[eY,hz]
     clear hz;go_wp2_with fail;refine(lU w1 w1 (Lib.byteCells (aV aA xs k)) 46 _ s (by simp[Lib.byteCells]at o⊢;omega) (by omega)).mono ?_;rintro e w3 ⟨rfl,h2,h3,_⟩;have d:Hid (Lib.IsBuilderF 83 5 w1 w1 (Lib.byteCells (aV aA xs (k+1))) w3):=by rw[a.out,jJ _ 46 46 rfl];exact .inr h2
     have g:Ext w1 w3:=iY hE h3 (aT5 _);have h:(w1:Nat)<w3:=aT4 y h3.size;clear h2 h3;go_wp2;go_roundw
     case rel=>exact⟨k+1,by omega,by go_num,d.out,g,h⟩
     case measure=>simp[intOf];omega
    have z1:(x==0)=false:=by simp[hz]
    have a:Hid (aV aA xs (k+1)=aV aA xs k++Lib.decDigits x.toNat):=by show _=_;rw[j.out,c.out,aTv];simp[eY,hz]
    clear hz;have ag:(Lib.decDigits x.toNat).length≤21:=cQ _ (by omega);go_wp2_with fail;refine Z (pQ x _ ab (by omega) (aa.out.ext (z.trans hE))) fun w3 f=>?_
    have q:=xQ (qY s f);have m:(w1:Nat)<w3:=aT4 y f.sz;go_wp2_with fail;refine(nW w1 w1 (Lib.byteCells (aV aA xs k)) _ _ q (by simp[Lib.byteCells,ByteArray.size]at o⊢;omega) (by omega)).mono ?_;rintro e w4 ⟨rfl,h2,h3,_⟩;have d:Hid (Lib.IsBuilderF 83 5 w1 w1 (Lib.byteCells (aV aA xs (k+1))) w4):=by rw[a.out,lE];exact .inr h2
    have g:Ext w1 w4:=iY (Ext.trans hE f) h3 (aT5 _);have h:(w1:Nat)<w4:=aT4 m h3.size;clear h2 h3;go_wp2;go_roundw
    case rel=>exact⟨k+1,by omega,by go_num,d.out,g,h⟩
    case measure=>simp[intOf];omega
   have k1:((k:Int)==0)=false:=by simp;omega
   by_cases hm:(k:Int)%aA=0
   ·have k2:((k:Int)%aA==0)=true:=by simp[hm]
    have c:Hid (dJ aA k= [47]):=by show _=_;simp[dJ,hk0,hm]
    clear hk0 hm;go_wp2_with fail;refine(lU w1 w1 (Lib.byteCells (aV aA xs k)) 47 _ s (by omega) (by omega)).mono ?_;rintro e w2 ⟨rfl,h2,h3,_⟩;have r:Hid (Lib.IsBuilderF 83 5 w1 w1 (Lib.byteCells (aV aA xs k++ [47])) w2):=by rw[jJ _ 47 47 rfl];exact .inr h2
    have l:Ext w1 w2:=iY hE h3 (aT5 _);have t:(w1:Nat)<w2:=aT4 y h3.size;clear h2 h3;by_cases hz:x=0
    ·have z1:(x==0)=true:=by simp[hz]
     have a:Hid (aV aA xs (k+1)=aV aA xs k++ [47]++ [46]):=by show _=_;rw[j.out,c.out];simp[eY,hz]
     clear hz;go_wp2_with fail;refine(lU w1 w1 (Lib.byteCells (aV aA xs k++ [47])) 46 _ r (by simp[Lib.byteCells]at o⊢;omega) (by omega)).mono ?_;rintro e w3 ⟨rfl,h2,h3,_⟩;have d:Hid (Lib.IsBuilderF 83 5 w1 w1 (Lib.byteCells (aV aA xs (k+1))) w3):=by rw[a.out,jJ _ 46 46 rfl];exact .inr h2
     have g:Ext w1 w3:=iY l h3 (aT5 _);have h:(w1:Nat)<w3:=aT4 t h3.size;clear h2 h3;go_wp2;go_roundw
     case rel=>exact⟨k+1,by omega,by go_num,d.out,g,h⟩
     case measure=>simp[intOf];omega
    have z1:(x==0)=false:=by simp[hz]
    have a:Hid (aV aA xs (k+1)=aV aA xs k++ [47]++Lib.decDigits x.toNat):=by show _=_;rw[j.out,c.out];simp[eY,hz]
    clear hz;have ag:(Lib.decDigits x.toNat).length≤21:=cQ _ (by omega);go_wp2_with fail;refine Z (pQ x _ ab (by omega) (aa.out.ext (z.trans l))) fun w3 f=>?_
    have q:=xQ (qY r f);have m:(w1:Nat)<w3:=aT4 t f.sz;go_wp2_with fail;refine(nW w1 w1 (Lib.byteCells (aV aA xs k++ [47])) _ _ q (by simp[Lib.byteCells,ByteArray.size]at o⊢;omega) (by omega)).mono ?_;rintro e w4 ⟨rfl,h2,h3,_⟩;have d:Hid (Lib.IsBuilderF 83 5 w1 w1 (Lib.byteCells (aV aA xs (k+1))) w4):=by rw[a.out,lE];exact .inr h2
    have g:Ext w1 w4:=iY (Ext.trans l f) h3 (aT5 _);have h:(w1:Nat)<w4:=aT4 m h3.size;clear h2 h3;go_wp2;go_roundw
    case rel=>exact⟨k+1,by omega,by go_num,d.out,g,h⟩
    case measure=>simp[intOf];omega
   have k2:((k:Int)%aA==0)=false:=by simp[hm]
   have c:Hid (dJ aA k= [44]):=by show _=_;simp[dJ,hk0,hm]
   clear hk0 hm;go_wp2_with fail;refine(lU w1 w1 (Lib.byteCells (aV aA xs k)) 44 _ s (by omega) (by omega)).mono ?_;rintro e w2 ⟨rfl,h2,h3,_⟩;have r:Hid (Lib.IsBuilderF 83 5 w1 w1 (Lib.byteCells (aV aA xs k++ [44])) w2):=by rw[jJ _ 44 44 rfl];exact .inr h2
   have l:Ext w1 w2:=iY hE h3 (aT5 _);have t:(w1:Nat)<w2:=aT4 y h3.size;clear h2 h3;by_cases hz:x=0
   ·have z1:(x==0)=true:=by simp[hz]
    have a:Hid (aV aA xs (k+1)=aV aA xs k++ [44]++ [46]):=by show _=_;rw[j.out,c.out];simp[eY,hz]
    clear hz;go_wp2_with fail;refine(lU w1 w1 (Lib.byteCells (aV aA xs k++ [44])) 46 _ r (by simp[Lib.byteCells]at o⊢;omega) (by omega)).mono ?_;rintro e w3 ⟨rfl,h2,h3,_⟩;have d:Hid (Lib.IsBuilderF 83 5 w1 w1 (Lib.byteCells (aV aA xs (k+1))) w3):=by rw[a.out,jJ _ 46 46 rfl];exact .inr h2
    have g:Ext w1 w3:=iY l h3 (aT5 _);have h:(w1:Nat)<w3:=aT4 t h3.size;clear h2 h3;go_wp2;go_roundw
    case rel=>exact⟨k+1,by omega,by go_num,d.out,g,h⟩
    case measure=>simp[intOf];omega
   have z1:(x==0)=false:=by simp[hz]
   have a:Hid (aV aA xs (k+1)=aV aA xs k++ [44]++Lib.decDigits x.toNat):=by show _=_;rw[j.out,c.out];simp[eY,hz]
   clear hz;have ag:(Lib.decDigits x.toNat).length≤21:=cQ _ (by omega);go_wp2_with fail;refine Z (pQ x _ ab (by omega) (aa.out.ext (z.trans l))) fun w3 f=>?_
   have q:=xQ (qY r f);have m:(w1:Nat)<w3:=aT4 t f.sz;go_wp2_with fail;refine(nW w1 w1 (Lib.byteCells (aV aA xs k++ [44])) _ _ q (by simp[Lib.byteCells,ByteArray.size]at o⊢;omega) (by omega)).mono ?_;rintro e w4 ⟨rfl,h2,h3,_⟩;have d:Hid (Lib.IsBuilderF 83 5 w1 w1 (Lib.byteCells (aV aA xs (k+1))) w4):=by rw[a.out,lE];exact .inr h2
   have g:Ext w1 w4:=iY (Ext.trans l f) h3 (aT5 _);have h:(w1:Nat)<w4:=aT4 m h3.size;clear h2 h3;go_wp2;go_roundw
   case rel=>exact⟨k+1,by omega,by go_num,d.out,g,h⟩
   case measure=>simp[intOf];omega
  obtain rfl:k=n:=by omega
  go_wp2_with fail;refine(Tryz.Builder_String_any_f w1 w1 (aV aA xs k) _ s (by omega)).mono ?_;rintro e w2 ⟨rfl,h2,h3⟩;have l:Ext w w2:=iY ae h3 (by omega);clear h2 h3;go_wp2;go_ret;exact⟨rfl,l⟩
end
end Go.Proofs.YthfmmibomhhmpaaGreatDoor
