/-
  Texts of this proof, packed (@packed).
-/
import Derived.Lib.CountLaws
import Derived.Lib.SplitLaws
import Derived.Test.YtomgkjinhnkpnaaGreatDoorX7
namespace Go.Proofs.YtomgkjinhnkpnaaGreatDoor
open Go.RowKit
set_option linter.unusedSimpArgs false
set_option linter.unusedVariables false
set_option maxHeartbeats 8000000
set_option maxRecDepth 100000
theorem qX (c:UInt8): ∀l:List UInt8,(Lib.index l [c]= -1∧cN c l= [l]∧c∉l)∨ ∃i:Nat,Lib.index l [c]=i∧i<l.length∧cN c l=l.take i::cN c (l.drop (i+1))∧c∉l.take i:=by
 intro l;induction l with
 |nil=>exact .inl ⟨rfl,rfl,by simp⟩
 |cons b l ih=>
  by_cases hb:b=c
  ·subst hb;refine .inr ⟨0,?_,by simp,by simp[cN],by simp⟩;unfold Lib.index;rw[if_pos (by simp[List.isPrefixOf])];rfl
  have hp:([c]:List UInt8).isPrefixOf (b::l)=false:=by simp[List.isPrefixOf];exact fun e=>hb e.symm
  rcases ih with⟨h1,h2,h3⟩|⟨i,h1,h2,h3,h4⟩
  ·refine .inl ⟨?_,?_,?_⟩
   ·unfold Lib.index;rw[hp,h1];rfl
   ·unfold cN;rw[if_neg hb,h2]
   simp[h3];exact fun e=>hb e.symm
  refine .inr ⟨i+1,?_,by simp;omega,?_,?_⟩
  ·unfold Lib.index;rw[hp,h1];simp only[Bool.false_eq_true,if_false];rw[if_neg (by simp)];rfl
  ·have e:cN c (b::l)=match cN c l with| []=> [[b]]|p::ps=>(b::p)::ps:=by
    rw[cN,if_neg hb]<;>rfl
   rw[e,h3];rfl
  simp[h4];exact fun e=>hb e.symm
theorem aJj (c:UInt8): ∀(k:Nat) (s:ByteArray),Lib.countB s ⟨#[c]⟩=k→(Lib.splitB ⟨#[c]⟩ 0 k s).map (fun b=>b.data.toList)=cN c s.data.toList:=by
 intro k;induction k with
 |zero=>
  intro s hk;rw[Lib.splitB_zero];rcases qX c s.data.toList with⟨h1,h2,h3⟩|⟨i,h1,h2,h3,h4⟩
  ·rw[h2];rfl
  have:=Lib.countB_hit s ⟨#[c]⟩ i (aRg 1) h1;omega
 |succ k ih=>
  intro s hk;rcases qX c s.data.toList with⟨h1,h2,h3⟩|⟨i,h1,h2,h3,h4⟩
  ·have:=Lib.countB_miss s ⟨#[c]⟩ h1;omega
  have hc:=Lib.countB_hit s ⟨#[c]⟩ i (aRg 1) h1
  have hr:=ih (s.extract (i+1) s.size) (by
   have e:s.extract (i+1) s.size=s.extract (i+(⟨#[c]⟩:ByteArray).size) s.size:=rfl
   rw[e];omega)
  rw[Lib.splitB_hit ⟨#[c]⟩ 0 k s i h1,aT8];have e2:s.extract (i+(⟨#[c]⟩:ByteArray).size) s.size=s.extract (i+1) s.size:=rfl;rw[e2,hr,h3];congr 1
  ·rw[Lib.extract_data];simp
  congr 1;rw[Lib.extract_data];rw[aRn (by simp)]
theorem aJk (s:ByteArray)(c:UInt8)(w:World)(hs:s.size<4294967281)(hE:Env w):
  U 34 #[.string s,.string ⟨#[c]⟩] w fun e w'=> ∃v,e= .returned v∧w'.ownsRow w 9 1 v (cN c s.data.toList).length (iB (cN c s.data.toList))∧Ext w w':=by
 obtain⟨m,hm⟩:=hE.mx;refine(Tryz.strings_Split s ⟨#[c]⟩ m w hs hm (aRg 1)).mono ?_;rintro e w' ⟨rfl,rfl⟩;have hq:=aJj c _ s rfl;have hl:(cN c s.data.toList).length=Lib.countB s ⟨#[c]⟩+1:=by rw[←hq,aSc];exact Lib.splitB_all ⟨#[c]⟩ (aRg 1) 0 _ s rfl
 have hv:(Lib.splitB ⟨#[c]⟩ 0 (Lib.countB s ⟨#[c]⟩) s).map Value.string=iB (cN c s.data.toList):=by rw[←hq,iB,List.map_map];rfl
 refine⟨_,rfl,?_,(Ext.refl _).alloc _⟩;rw[hv,←hl];have:=Lib.countB_le ⟨#[c]⟩ (aRg 1) _ s (aRg _);have h2:=World.ownsRow_lit (e:=9) (size:=1) (base:=w.heap.size) w (iB (cN c s.data.toList)).toArray (cN c s.data.toList).length (aRg _) (by unfold maxLen;omega) (by simp[iB]);simpa using h2
theorem aI4: ∀(k n:Nat),n≤k→(Lib.decDigits n).all eK=true∧(n≤9223372036854775807→lG (Lib.decDigits n)=n)∧(1≤n→(Lib.decDigits n).head? ≠some 48):=by
 intro k;induction k with
 |zero=>
  intro n h;obtain rfl:n=0:=by omega
  rw[fR 0 (by omega)];exact⟨by decide,fun _=>by decide,fun h=>by omega⟩
 |succ k ih=>
  intro n h;by_cases h10:n<10
  ·rw[fR n h10];have e:(UInt8.ofNat (48+n)).toNat=48+n:=by simp;omega
   refine⟨?_,fun _=> ?_,fun h1 hh=> ?_⟩
   ·simp[eK];omega
   ·simp[lG];omega
   simp at hh;have:=congrArg UInt8.toNat hh;simp at this;omega
  obtain⟨i1,i2,i3⟩:=ih (n/10) (by omega);rw[lM n h10];have e:(UInt8.ofNat (48+n%10)).toNat=48+n%10:=by simp;omega
  refine⟨?_,fun hb=> ?_,fun h1=> ?_⟩
  ·simp only[List.all_append,i1,List.all_cons,List.all_nil,Bool.and_true,Bool.true_and,eK,e];simp;omega
  ·rw[uL,i2 (by omega),e];omega
  have hp:=rO (n/10);cases hd:Lib.decDigits (n/10)with
  |nil=>rw[hd]at hp;simp at hp
  |cons x xs=>have:=i3 (by omega);rw[hd]at this;simpa using this
theorem aQu: ∀(k n:Nat),n<10 ^ (k+1)→(Lib.decDigits n).length≤k+1:=by
 intro k;induction k with
 |zero=>intro n h;rw[fR n (by simpa using h)];simp
 |succ k ih=>
  intro n h;by_cases h10:n<10
  ·rw[fR n h10];simp
  rw[lM n h10,aRm];have:=ih (n/10) (by rw[Nat.pow_succ]at h;omega);simp;omega
theorem aC0 (m n:Nat)(h:n<10 ^ m)(hm:1≤m)(a:m≤5):dQ m (Lib.decDigits n)=some (n:Int):=by
 obtain⟨k,rfl⟩: ∃k,m=k+1:=⟨m-1,by omega⟩
 have hb:n≤99999:=by have:10 ^ (k+1)≤10 ^ 5:=aRs (by omega) a;omega
 obtain⟨a1,a2,a3⟩:=aI4 n n (aRg _);rw[rS (rO n) (aQu k n h) ?_ a1,a2 (by omega)];by_cases h0:n=0
 ·left;subst h0;rw[fR 0 (by omega)];simp
 right;exact a3 (by omega)
theorem aCx (n:Nat)(c:UInt8)(hc:eK c=false):c∉Lib.decDigits n:=by intro h;have:=(aI4 n n (aRg _)).1;rw[aSg]at this;rw[this c h]at hc;simp at hc
theorem lT (c:UInt8): ∀l:List UInt8,c∉l→cN c l= [l]:=by
 intro l;induction l with
 |nil=>intro _;rfl
 |cons x xs ih=>
  intro h;have e:cN c (x::xs)=match cN c xs with| []=> [[x]]|p::ps=>(x::p)::ps:=by rw[cN,if_neg (by intro e;exact h (by simp[e]))]<;>rfl
  rw[e,ih (by intro q;exact h (by simp[q]))]
theorem jP (c:UInt8): ∀(a b:List UInt8),c∉a→cN c (a++c::b)=a::cN c b:=by
 intro a b;induction a with
 |nil=>intro _;simp[cN]
 |cons x xs ih=>
  intro h;have e:cN c (x::(xs++c::b))=match cN c (xs++c::b)with| []=> [[x]]|p::ps=>(x::p)::ps:=by rw[cN,if_neg (by intro e;exact h (by simp[e]))]<;>rfl
  rw[aTa,e,ih (by intro q;exact h (by simp[q]))]
def iV (p:List UInt8):Option Int:=
 if p= [105,110]then some 0 else if p= [112,97,121]then some 1 else if p= [111,117,116]then some 2 else if p= [119,97,105,116]then some 3 else if p= [115,108,105,100,101]then some 4 else none
theorem mP {p:List UInt8}{k:Int}(h:iV p=some k):0≤k∧k≤4∧p=bT k:=by
 unfold iV at h
 repeat' split at h
 all_goals simp at h
 all_goals subst h;simp_all [bT]
theorem mQ (k:Int)(h:0≤k∧k≤4):iV (bT k)=some k:=by rcases(show k=0∨k=1∨k=2∨k=3∨k=4 by omega)with rfl|rfl|rfl|rfl|rfl<;>decide
def bN (l:List UInt8):Option (Int×Int×Int):=
 match cN 32 l with
 | [p,q]=>match iV p,dQ 4 q with
   |some k,some a=>if bD k a 0=l then some (k,a,0)else none
   |_,_=>none
 | [p,q,r]=>match iV p,dQ 4 q,dQ 4 r with
   |some k,some a,some b=>if bD k a b=l then some (k,a,b)else none
   |_,_,_=>none
 |_=>none
def jF (ps:List (List UInt8)):Int×Int×Int:=
 match ps with
 | []=>(-1,0,0)
 | [p]=>((iV p).getD (-1),0,0)
 | [p,q]=>((iV p).getD (-1),(dQ 4 q).getD (-1),0)
 |p::q::r::_=>((iV p).getD (-1),(dQ 4 q).getD (-1),(dQ 4 r).getD (-1))
def lX (l:List UInt8):Option (Int×Int×Int):=
 if l≠ []∧bD (jF (cN 32 l)).1 (jF (cN 32 l)).2.1 (jF (cN 32 l)).2.2=l then some (jF (cN 32 l))else none
theorem tN {k a b:Int}(h:fX k a b=true):0≤k∧k≤4∧0≤a∧a≤9999∧0≤b∧b≤9999∧(iR k=true∨b=0):=by simp[fX]at h;obtain⟨⟨h1,h2,h3,h4,h5,h6⟩,h7⟩:=h;exact⟨h1,h2,h3,h4,h5,h6,by cases hk:iR k<;>simp_all⟩
theorem vV {k a b:Int}(h:bD k a b≠ []):fX k a b=true:=by
 unfold bD at h;split at h
 ·assumption
 simp at h
theorem aAs (k:Int):(32:UInt8)∉bT k:=by
 unfold bT
 repeat' split
 all_goals decide
theorem aFg {k a b:Int}(h:fX k a b=true):cN 32 (bD k a b)=if iR k then [bT k,Lib.decDigits a.toNat,Lib.decDigits b.toNat]else [bT k,Lib.decDigits a.toNat]:=by
 unfold bD;rw[if_pos h];split
 ·have e:bT k++ [32]++Lib.decDigits a.toNat++([32]++Lib.decDigits b.toNat)=bT k++32::(Lib.decDigits a.toNat++32::Lib.decDigits b.toNat):=by simp
  rw[e,jP _ _ _ (aAs k),jP _ _ _ (aCx _ _ (by decide)),lT _ _ (aCx _ _ (by decide))]
 have e:bT k++ [32]++Lib.decDigits a.toNat++ []=bT k++32::Lib.decDigits a.toNat:=by simp
 rw[e,jP _ _ _ (aAs k),lT _ _ (aCx _ _ (by decide))]
theorem uG {a:Int}(h0:0≤a)(h1:a≤9999):dQ 4 (Lib.decDigits a.toNat)=some a:=by rw[aC0 4 a.toNat (by omega) (by omega) (by omega)];congr 1;omega
theorem zS {k a b:Int}(h:fX k a b=true):bN (bD k a b)=some (k,a,b):=by
 obtain⟨h1,h2,h3,h4,h5,h6,h7⟩:=tN h;unfold bN;rw[aFg h];cases hk:iR k with
 |true=>simp[mQ k ⟨h1,h2⟩,uG h3 h4,uG h5 h6]
 |false=>
  obtain rfl:b=0:=by simpa[hk]using h7
  simp[mQ k ⟨h1,h2⟩,uG h3 h4]
theorem aFf {k a b:Int}(h:fX k a b=true):bD k a b≠ []:=by unfold bD;rw[if_pos h];simp
theorem zF {k a b:Int}(h:fX k a b=true):lX (bD k a b)=some (k,a,b):=by
 obtain⟨h1,h2,h3,h4,h5,h6,h7⟩:=tN h;have e:jF (cN 32 (bD k a b))=(k,a,b):=by
  rw[aFg h];cases hk:iR k with
  |true=>simp[jF,mQ k ⟨h1,h2⟩,uG h3 h4,uG h5 h6]
  |false=>
   obtain rfl:b=0:=by simpa[hk]using h7
   simp[jF,mQ k ⟨h1,h2⟩,uG h3 h4]
 unfold lX;rw[e,if_pos ⟨aFf h,rfl⟩]
theorem zU {l:List UInt8}{k a b:Int}(h:bN l=some (k,a,b)):bD k a b=l∧fX k a b=true:=by
 have c:bD k a b=l∧0≤k∧k≤4∧l≠ []:=by
  have d: ∀p q,cN 32 l=p::q:: []∨(∃r,cN 32 l= [p,q,r])→l≠ []:=by rintro p q h rfl;rcases h with h|⟨r,h⟩<;>simp[cN]at h
  unfold bN at h;split at h
  ·rename_i p q hc;have:=d p q (.inl hc);split at h
   ·rename_i k' a' hk ha;split at h
    ·rename_i ht;simp only[aSy,aS3]at h;obtain⟨rfl,rfl,rfl⟩:=h;exact⟨ht,(mP hk).1,(mP hk).2.1,this⟩
    simp at h
   simp at h
  ·rename_i p q r hc;have:=d p q (.inr ⟨r,hc⟩);split at h
   ·rename_i k' a' b' hk ha hb;split at h
    ·rename_i ht;simp only[aSy,aS3]at h;obtain⟨rfl,rfl,rfl⟩:=h;exact⟨ht,(mP hk).1,(mP hk).2.1,this⟩
    simp at h
   simp at h
  simp at h
 exact⟨c.1,vV (by rw[c.1];exact c.2.2.2)⟩
theorem aDf (l:List UInt8):lX l=bN l:=by
 cases h:lX l with
 |some d=>
  obtain⟨k,a,b⟩:=d;unfold lX at h;split at h
  ·rename_i hc;simp only[aSy]at h;rw[h]at hc;have ho:=vV (by rw[hc.2];exact hc.1);rw[←hc.2,zS ho]
  simp at h
 |none=>
  cases h2:bN l with
  |none=>rfl
  |some d=>obtain⟨k,a,b⟩:=d;obtain⟨e,ho⟩:=zU h2;rw[←e,zF ho]at h;simp at h
def gQ (c:UInt8):List UInt8→List UInt8
 | []=> []
 |x::xs=>if x=c then []else x::gQ c xs
def iH (c:UInt8):List UInt8→List UInt8
 | []=> []
 |x::xs=>if x=c then xs else iH c xs
theorem iY (c:UInt8): ∀(a b:List UInt8),c∉a→gQ c (a++c::b)=a∧iH c (a++c::b)=b:=by
 intro a b;induction a with
 |nil=>intro _;simp[gQ,iH]
 |cons x xs ih=>
  intro h;obtain⟨i1,i2⟩:=ih (fun q=>h (by simp[q]));have hx:x≠c:=fun q=>h (by simp[q])
  simp[gQ,iH,hx,i1,i2]
theorem aLc (c:UInt8): ∀(l:List UInt8),(cN c l)[0]? =some (gQ c l):=by
 intro l;induction l with
 |nil=>rfl
 |cons x xs ih=>
  by_cases h:x=c
  ·rw[cN,if_pos h,gQ,if_pos h]<;>rfl
  have e:cN c (x::xs)=match cN c xs with| []=> [[x]]|p::ps=>(x::p)::ps:=by rw[cN,if_neg h]<;>rfl
  rw[e,gQ,if_neg h];cases hq:cN c xs with
  |nil=>exact absurd hq (kS c xs)
  |cons p ps=>rw[hq]at ih;simpa using ih
theorem rD (c:UInt8): ∀(l:List UInt8),c∈l→ ∃a b,l=a++c::b∧c∉a:=by
 intro l;induction l with
 |nil=>intro h;simp at h
 |cons x xs ih=>
  intro h;by_cases hx:x=c
  ·exact⟨[],xs,by simp[hx],by simp⟩
  obtain⟨a,b,e,ha⟩:=ih (by rcases aRv.1 h with h|h;exact absurd h.symm hx;exact h);exact⟨x::a,b,by simp[e],by simp[ha];exact fun q=>hx q.symm⟩
abbrev aJc:=Int×Int×Int
section
open Go.Proofs.Tryz
def rdV:Option (Int×Int×Int)→Value
 |some (k,a,b)=> .tuple #[eN k a b,.bool true]
 |none=> .tuple #[eN 0 0 0,.bool false]
def kI (o:Option (Int×Int×Int))(w:World)(e:Ending)(w':World):Prop:=e= .returned (rdV o)∧Ext w w'
theorem bB {w:World}{base g n a:Nat}{e:TypeId}{ps:List (List UInt8)}(h:w.ownsRow base e 1 (.slice (some ⟨g,0,none⟩) n a) n (iB ps))(j:Nat)(hj:j<n)(p:List UInt8)(hp:ps[j]? =some p):w.cell? ⟨g,j,none⟩=some (str p):=by rw[h.cellAt j (by omega)];simp[iB,hp]
theorem sZ (l:List UInt8)(w:World)(ps:List (List UInt8))(b:0<ps.length)(hl:ps.length<2∨2≤ps.length∧3<ps.length)
  (HS:Hid (∀w,Env w→U 34 #[str l,.string ⟨#[32]⟩] w fun e w'=> ∃v,e= .returned v∧w'.ownsRow w 9 1 v ps.length (iB ps)∧Ext w w'))(HE:Hid (Env w)):
  U 11 #[str l] w (kI none w):=by
 rcases hl with hl|⟨h,hl⟩
 all_goals
  go_enter func11,ntmps11;go_wp2_with fail;refine(HS _ (HE.out.ext xE)).mono ?_;rintro e w1 ⟨v,rfl,a,h1⟩;obtain⟨g,c,rfl⟩:=aSn a b;obtain⟨d,f⟩:=h1.cells;clear a;go_wp2;exact bodyPost_ret (v:=rdV none) (by simp[results,results11,go_sem, *];rfl) rfl ⟨rfl,xE⟩
theorem yI (l:List UInt8)(w:World)(p q:List UInt8)(n1:(p== [105,110])=false)(n2:(p== [112,97,121])=false)(n3:(p== [111,117,116])=false)(n4:(p== [119,97,105,116])=false)(n5:(p== [115,108,105,100,101])=false)
  (HS:Hid (∀w,Env w→U 34 #[str l,.string ⟨#[32]⟩] w fun e w'=> ∃v,e= .returned v∧w'.ownsRow w 9 1 v 2 (iB [p,q])∧Ext w w'))(HE:Hid (Env w)):
  U 11 #[str l] w (kI none w):=by
 all_goals
  go_enter func11,ntmps11;go_wp2_with fail;refine(HS _ (HE.out.ext xE)).mono ?_;rintro e w1 ⟨v,rfl,a,h1⟩;obtain⟨g,b,rfl⟩:=aSn a (by omega);have e0:=bB a 0 (by omega) _ rfl;have hg:=(a.lt g rfl).2;obtain⟨c,d⟩:=h1.cells;have f:(w:Nat)<w1:=aRf (by simp) h1.sz;clear a;go_wp2;exact bodyPost_ret (v:=rdV none) (by simp[results,results11,go_sem, *];rfl) rfl ⟨rfl,xE⟩
theorem aEn (l:List UInt8)(w:World)(p q:List UInt8)(k:Int)(hk:p= [105,110]∧k=0∨p= [112,97,121]∧k=1∨p= [111,117,116]∧k=2∨p= [119,97,105,116]∧k=3∨p= [115,108,105,100,101]∧k=4)
  (HS:Hid (∀w,Env w→U 34 #[str l,.string ⟨#[32]⟩] w fun e w'=> ∃v,e= .returned v∧w'.ownsRow w 9 1 v 2 (iB [p,q])∧Ext w w'))(HE:Hid (Env w))
  (HR:Hid (∀w,U 35 #[str q,I 4] w fun e w'=>e= .returned (.tuple #[(),.bool false])∧w=w')):
  U 11 #[str l] w (kI none w):=by
 rcases hk with⟨rfl,rfl⟩|⟨rfl,rfl⟩|⟨rfl,rfl⟩|⟨rfl,rfl⟩|⟨rfl,rfl⟩
 all_goals
  go_enter func11,ntmps11;go_wp2_with fail;refine(HS _ (HE.out.ext xE)).mono ?_;rintro e w1 ⟨v,rfl,a,h1⟩;obtain⟨g,b,rfl⟩:=aSn a (by omega);have e0:=bB a 0 (by omega) _ rfl;have e1:=bB a 1 (by omega) _ rfl;have hg:=(a.lt g rfl).2;obtain⟨c,d⟩:=h1.cells;have f:(w:Nat)<w1:=aRf (by simp) h1.sz;clear a;go_wp2_with fail;refine(HR _).mono ?_;rintro e w2 ⟨rfl,rfl⟩;go_wp2;exact bodyPost_ret (v:=rdV none) (by simp[results,results11,go_sem, *];rfl) rfl ⟨rfl,xE⟩
theorem yH (l:List UInt8)(w:World)(p q r:List UInt8)(n1:(p== [105,110])=false)(n2:(p== [112,97,121])=false)(n3:(p== [111,117,116])=false)(n4:(p== [119,97,105,116])=false)(n5:(p== [115,108,105,100,101])=false)
  (HS:Hid (∀w,Env w→U 34 #[str l,.string ⟨#[32]⟩] w fun e w'=> ∃v,e= .returned v∧w'.ownsRow w 9 1 v 3 (iB [p,q,r])∧Ext w w'))(HE:Hid (Env w)):
  U 11 #[str l] w (kI none w):=by
 all_goals
  go_enter func11,ntmps11;go_wp2_with fail;refine(HS _ (HE.out.ext xE)).mono ?_;rintro e w1 ⟨v,rfl,a,h1⟩;obtain⟨g,b,rfl⟩:=aSn a (by omega);have e0:=bB a 0 (by omega) _ rfl;have hg:=(a.lt g rfl).2;obtain⟨c,d⟩:=h1.cells;have f:(w:Nat)<w1:=aRf (by simp) h1.sz;clear a;go_wp2;exact bodyPost_ret (v:=rdV none) (by simp[results,results11,go_sem, *];rfl) rfl ⟨rfl,xE⟩
theorem aEm (l:List UInt8)(w:World)(p q r:List UInt8)(k:Int)(hk:p= [105,110]∧k=0∨p= [112,97,121]∧k=1∨p= [111,117,116]∧k=2∨p= [119,97,105,116]∧k=3∨p= [115,108,105,100,101]∧k=4)
  (HS:Hid (∀w,Env w→U 34 #[str l,.string ⟨#[32]⟩] w fun e w'=> ∃v,e= .returned v∧w'.ownsRow w 9 1 v 3 (iB [p,q,r])∧Ext w w'))(HE:Hid (Env w))
  (HR:Hid (∀w,U 35 #[str q,I 4] w fun e w'=>e= .returned (.tuple #[(),.bool false])∧w=w')):
  U 11 #[str l] w (kI none w):=by
 rcases hk with⟨rfl,rfl⟩|⟨rfl,rfl⟩|⟨rfl,rfl⟩|⟨rfl,rfl⟩|⟨rfl,rfl⟩
 all_goals
  go_enter func11,ntmps11;go_wp2_with fail;refine(HS _ (HE.out.ext xE)).mono ?_;rintro e w1 ⟨v,rfl,a,h1⟩;obtain⟨g,b,rfl⟩:=aSn a (by omega);have e0:=bB a 0 (by omega) _ rfl;have e1:=bB a 1 (by omega) _ rfl;have hg:=(a.lt g rfl).2;obtain⟨c,d⟩:=h1.cells;have f:(w:Nat)<w1:=aRf (by simp) h1.sz;clear a;go_wp2_with fail;refine(HR _).mono ?_;rintro e w2 ⟨rfl,rfl⟩;go_wp2;exact bodyPost_ret (v:=rdV none) (by simp[results,results11,go_sem, *];rfl) rfl ⟨rfl,xE⟩
theorem aEl (l:List UInt8)(w:World)(p q r:List UInt8)(k a:Int)(hk:p= [105,110]∧k=0∨p= [112,97,121]∧k=1∨p= [111,117,116]∧k=2∨p= [119,97,105,116]∧k=3∨p= [115,108,105,100,101]∧k=4)
  (HS:Hid (∀w,Env w→U 34 #[str l,.string ⟨#[32]⟩] w fun e w'=> ∃v,e= .returned v∧w'.ownsRow w 9 1 v 3 (iB [p,q,r])∧Ext w w'))(HE:Hid (Env w))
  (HR:Hid (∀w,U 35 #[str q,I 4] w fun e w'=>e= .returned (.tuple #[a,.bool true])∧w=w'))
  (c:Hid (∀w,U 35 #[str r,I 4] w fun e w'=>e= .returned (.tuple #[(),.bool false])∧w=w')):
  U 11 #[str l] w (kI none w):=by
 rcases hk with⟨rfl,rfl⟩|⟨rfl,rfl⟩|⟨rfl,rfl⟩|⟨rfl,rfl⟩|⟨rfl,rfl⟩
 all_goals
  go_enter func11,ntmps11;go_wp2_with fail;refine(HS _ (HE.out.ext xE)).mono ?_;rintro e w1 ⟨v,rfl,b,h1⟩;obtain⟨g,d,rfl⟩:=aSn b (by omega);have e0:=bB b 0 (by omega) _ rfl;have e1:=bB b 1 (by omega) _ rfl;have e2:=bB b 2 (by omega) _ rfl;have hg:=(b.lt g rfl).2;obtain⟨f,h⟩:=h1.cells;have i:(w:Nat)<w1:=aRf (by simp) h1.sz;clear b;go_wp2_with fail;refine(HR _).mono ?_;rintro e w2 ⟨rfl,rfl⟩;go_wp2_with fail;refine(c _).mono ?_;rintro e w2 ⟨rfl,rfl⟩;go_wp2;exact bodyPost_ret (v:=rdV none) (by simp[results,results11,go_sem, *];rfl) rfl ⟨rfl,xE⟩
theorem aCd (l:List UInt8)(w:World)(p q t:List UInt8)(k a:Int)(hk:p= [105,110]∧k=0∨p= [112,97,121]∧k=1∨p= [111,117,116]∧k=2∨p= [119,97,105,116]∧k=3∨p= [115,108,105,100,101]∧k=4)(ht:(t==l)=true)
  (HS:Hid (∀w,Env w→U 34 #[str l,.string ⟨#[32]⟩] w fun e w'=> ∃v,e= .returned v∧w'.ownsRow w 9 1 v 2 (iB [p,q])∧Ext w w'))(HE:Hid (Env w))
  (HR:Hid (∀w,U 35 #[str q,I 4] w fun e w'=>e= .returned (.tuple #[a,.bool true])∧w=w'))
  (HD:Hid (∀w,Env w→U 36 #[eN k a 0] w (O (str t) w))):
  U 11 #[str l] w (kI (some (k,a,0)) w):=by
 rcases hk with⟨rfl,rfl⟩|⟨rfl,rfl⟩|⟨rfl,rfl⟩|⟨rfl,rfl⟩|⟨rfl,rfl⟩
 all_goals
  go_enter func11,ntmps11;go_wp2_with fail;refine(HS _ (HE.out.ext xE)).mono ?_;rintro e w1 ⟨v,rfl,b,h1⟩;obtain⟨g,c,rfl⟩:=aSn b (by omega);have e0:=bB b 0 (by omega) _ rfl;have e1:=bB b 1 (by omega) _ rfl;have hg:=(b.lt g rfl).2;obtain⟨d,i⟩:=h1.cells;have n:(w:Nat)<w1:=aRf (by simp) h1.sz;clear b;go_wp2_with fail;refine(HR _).mono ?_;rintro e w2 ⟨rfl,rfl⟩;go_wp2_with fail;refine Z (HD _ (HE.out.ext xE)) fun w2 h2=>?_
  obtain⟨f,j⟩:=h2.cells;have hw:=(h1.alloc (.cells #[_,_,_] 38)).trans h2;obtain⟨h,m⟩:=hw.cells;go_wp2;exact bodyPost_ret (v:=rdV (some (_,a,0))) (by simp[results,results11,go_sem, *];rfl) rfl ⟨rfl,xE⟩
theorem aCf (l:List UInt8)(w:World)(p q t:List UInt8)(k a:Int)(hk:p= [105,110]∧k=0∨p= [112,97,121]∧k=1∨p= [111,117,116]∧k=2∨p= [119,97,105,116]∧k=3∨p= [115,108,105,100,101]∧k=4)(ht:(t==l)=false)
  (HS:Hid (∀w,Env w→U 34 #[str l,.string ⟨#[32]⟩] w fun e w'=> ∃v,e= .returned v∧w'.ownsRow w 9 1 v 2 (iB [p,q])∧Ext w w'))(HE:Hid (Env w))
  (HR:Hid (∀w,U 35 #[str q,I 4] w fun e w'=>e= .returned (.tuple #[a,.bool true])∧w=w'))
  (HD:Hid (∀w,Env w→U 36 #[eN k a 0] w (O (str t) w))):
  U 11 #[str l] w (kI (none) w):=by
 rcases hk with⟨rfl,rfl⟩|⟨rfl,rfl⟩|⟨rfl,rfl⟩|⟨rfl,rfl⟩|⟨rfl,rfl⟩
 all_goals
  go_enter func11,ntmps11;go_wp2_with fail;refine(HS _ (HE.out.ext xE)).mono ?_;rintro e w1 ⟨v,rfl,b,h1⟩;obtain⟨g,c,rfl⟩:=aSn b (by omega);have e0:=bB b 0 (by omega) _ rfl;have e1:=bB b 1 (by omega) _ rfl;have hg:=(b.lt g rfl).2;obtain⟨d,i⟩:=h1.cells;have n:(w:Nat)<w1:=aRf (by simp) h1.sz;clear b;go_wp2_with fail;refine(HR _).mono ?_;rintro e w2 ⟨rfl,rfl⟩;go_wp2_with fail;refine Z (HD _ (HE.out.ext xE)) fun w2 h2=>?_
  obtain⟨f,j⟩:=h2.cells;have hw:=(h1.alloc (.cells #[_,_,_] 38)).trans h2;obtain⟨h,m⟩:=hw.cells;go_wp2;exact bodyPost_ret (v:=rdV none) (by simp[results,results11,go_sem, *];rfl) rfl ⟨rfl,xE⟩
theorem aCc (l:List UInt8)(w:World)(p q r t:List UInt8)(k a b:Int)(hk:p= [105,110]∧k=0∨p= [112,97,121]∧k=1∨p= [111,117,116]∧k=2∨p= [119,97,105,116]∧k=3∨p= [115,108,105,100,101]∧k=4)(ht:(t==l)=true)
  (HS:Hid (∀w,Env w→U 34 #[str l,.string ⟨#[32]⟩] w fun e w'=> ∃v,e= .returned v∧w'.ownsRow w 9 1 v 3 (iB [p,q,r])∧Ext w w'))(HE:Hid (Env w))
  (HR:Hid (∀w,U 35 #[str q,I 4] w fun e w'=>e= .returned (.tuple #[a,.bool true])∧w=w'))
  (d:Hid (∀w,U 35 #[str r,I 4] w fun e w'=>e= .returned (.tuple #[b,.bool true])∧w=w'))
  (HD:Hid (∀w,Env w→U 36 #[eN k a b] w (O (str t) w))):
  U 11 #[str l] w (kI (some (k,a,b)) w):=by
 rcases hk with⟨rfl,rfl⟩|⟨rfl,rfl⟩|⟨rfl,rfl⟩|⟨rfl,rfl⟩|⟨rfl,rfl⟩
 all_goals
  go_enter func11,ntmps11;go_wp2_with fail;refine(HS _ (HE.out.ext xE)).mono ?_;rintro e w1 ⟨v,rfl,c,h1⟩;obtain⟨g,f,rfl⟩:=aSn c (by omega);have e0:=bB c 0 (by omega) _ rfl;have e1:=bB c 1 (by omega) _ rfl;have e2:=bB c 2 (by omega) _ rfl;have hg:=(c.lt g rfl).2;obtain⟨h,m⟩:=h1.cells;have s:(w:Nat)<w1:=aRf (by simp) h1.sz;clear c;go_wp2_with fail;refine(HR _).mono ?_;rintro e w2 ⟨rfl,rfl⟩;go_wp2_with fail;refine(d _).mono ?_;rintro e w2 ⟨rfl,rfl⟩;go_wp2_with fail;refine Z (HD _ (HE.out.ext xE)) fun w2 h2=>?_
  obtain⟨i,n⟩:=h2.cells;have hw:=(h1.alloc (.cells #[_,_,_] 38)).trans h2;obtain⟨j,o⟩:=hw.cells;go_wp2;exact bodyPost_ret (v:=rdV (some (_,a,b))) (by simp[results,results11,go_sem, *];rfl) rfl ⟨rfl,xE⟩
theorem aCe (l:List UInt8)(w:World)(p q r t:List UInt8)(k a b:Int)(hk:p= [105,110]∧k=0∨p= [112,97,121]∧k=1∨p= [111,117,116]∧k=2∨p= [119,97,105,116]∧k=3∨p= [115,108,105,100,101]∧k=4)(ht:(t==l)=false)
  (HS:Hid (∀w,Env w→U 34 #[str l,.string ⟨#[32]⟩] w fun e w'=> ∃v,e= .returned v∧w'.ownsRow w 9 1 v 3 (iB [p,q,r])∧Ext w w'))(HE:Hid (Env w))
  (HR:Hid (∀w,U 35 #[str q,I 4] w fun e w'=>e= .returned (.tuple #[a,.bool true])∧w=w'))
  (d:Hid (∀w,U 35 #[str r,I 4] w fun e w'=>e= .returned (.tuple #[b,.bool true])∧w=w'))
  (HD:Hid (∀w,Env w→U 36 #[eN k a b] w (O (str t) w))):
  U 11 #[str l] w (kI (none) w):=by
 rcases hk with⟨rfl,rfl⟩|⟨rfl,rfl⟩|⟨rfl,rfl⟩|⟨rfl,rfl⟩|⟨rfl,rfl⟩
 all_goals
  go_enter func11,ntmps11;go_wp2_with fail;refine(HS _ (HE.out.ext xE)).mono ?_;rintro e w1 ⟨v,rfl,c,h1⟩;obtain⟨g,f,rfl⟩:=aSn c (by omega);have e0:=bB c 0 (by omega) _ rfl;have e1:=bB c 1 (by omega) _ rfl;have e2:=bB c 2 (by omega) _ rfl;have hg:=(c.lt g rfl).2;obtain⟨h,m⟩:=h1.cells;have s:(w:Nat)<w1:=aRf (by simp) h1.sz;clear c;go_wp2_with fail;refine(HR _).mono ?_;rintro e w2 ⟨rfl,rfl⟩;go_wp2_with fail;refine(d _).mono ?_;rintro e w2 ⟨rfl,rfl⟩;go_wp2_with fail;refine Z (HD _ (HE.out.ext xE)) fun w2 h2=>?_
  obtain⟨i,n⟩:=h2.cells;have hw:=(h1.alloc (.cells #[_,_,_] 38)).trans h2;obtain⟨j,o⟩:=hw.cells;go_wp2;exact bodyPost_ret (v:=rdV none) (by simp[results,results11,go_sem, *];rfl) rfl ⟨rfl,xE⟩
end
theorem yX (c:UInt8): ∀(l:List UInt8),(∀p∈cN c l,p.length≤l.length)∧(cN c l).length≤l.length+1:=by
 intro l;induction l with
 |nil=>simp[cN]
 |cons x xs ih=>
  by_cases h:x=c
  ·have e:cN c (x::xs)= []::cN c xs:=by rw[cN,if_pos h]
   rw[e];refine⟨fun p hp=> ?_,by simp;exact ih.2⟩;rcases aRv.1 hp with rfl|hp
   ·simp
   have:=ih.1 p hp;simp;omega
  have e:cN c (x::xs)=match cN c xs with| []=> [[x]]|p::ps=>(x::p)::ps:=by rw[cN,if_neg h]<;>rfl
  rw[e];cases hq:cN c xs with
  |nil=>exact absurd hq (kS c xs)
  |cons q qs=>
   rw[hq]at ih;refine⟨fun p hp=> ?_,by have:=ih.2;simp at this⊢;omega⟩;rcases aRv.1 hp with rfl|hp
   ·have:=ih.1 q (by simp);simp;omega
   have:=ih.1 p (by simp[hp]);simp;omega
theorem pP {p:List UInt8}(h:iV p=none):(p== [105,110])=false∧(p== [112,97,121])=false∧(p== [111,117,116])=false∧(p== [119,97,105,116])=false∧(p== [115,108,105,100,101])=false:=by
 unfold iV at h
 repeat' split at h
 all_goals simp_all
theorem fO {p:List UInt8}{k:Int}(h:iV p=some k):p= [105,110]∧k=0∨p= [112,97,121]∧k=1∨p= [111,117,116]∧k=2∨p= [119,97,105,116]∧k=3∨p= [115,108,105,100,101]∧k=4:=by
 unfold iV at h
 repeat' split at h
 all_goals simp_all
theorem vI (q:List UInt8)(m:Nat)(hm:1≤m∧m≤5)(hq:q.length≤maxLen)(w:World):U 35 #[str q,m] w fun e w'=>e= .returned (.tuple #[((dQ m q).getD 0:Int),.bool (dQ m q).isSome])∧w=w':=
 xM ⟨q.toArray⟩ m w hm (by simpa[ByteArray.size]using hq)
theorem tA (l:List UInt8)(w:World)(hs:l.length<4294967281)(hE:Env w):U 11 #[str l] w (kI (bN l) w):=by
 have hS: ∀w,Env w→U 34 #[str l,.string ⟨#[32]⟩] w fun e w'=> ∃v,e= .returned v∧w'.ownsRow w 9 1 v (cN 32 l).length (iB (cN 32 l))∧Ext w w':=
  fun w hE=>aJk ⟨l.toArray⟩ 32 w (by simpa[ByteArray.size]using hs) hE
 have d:=yX 32 l;have c: ∀q∈cN 32 l,∀o,dQ 4 q=o→Hid (∀w,U 35 #[str q,I 4] w fun e w'=>e= .returned (.tuple #[(o.getD 0:Int),.bool o.isSome])∧w=w'):=by intro q hq o ho w;subst ho;exact vI q 4 (by omega) (by have:=d.1 q hq;unfold maxLen;omega) w
 rcases hc:cN 32 l with _|⟨p,_|⟨q,_|⟨r,_|⟨x,rest⟩⟩⟩⟩
 ·exact absurd hc (kS 32 l)
 ·rw[hc]at hS;have e:bN l=none:=by unfold bN;rw[hc]
  rw[e];exact sZ l w [p] (by simp) (.inl (by simp)) hS hE
 ·rw[hc]at hS c;cases hk:iV p with
  |none=>
   obtain⟨n1,n2,n3,n4,n5⟩:=pP hk;have e:bN l=none:=by unfold bN;rw[hc];simp[hk]
   rw[e];exact yI l w p q n1 n2 n3 n4 n5 hS hE
  |some k=>
   cases hq:dQ 4 q with
   |none=>
    have e:bN l=none:=by unfold bN;rw[hc];simp[hk,hq]
    rw[e];exact aEn l w p q k (fO hk) hS hE (c q (by simp) _ hq)
   |some a=>
    by_cases ht:bD k a 0=l
    ·skip;have e:bN l=some (k,a,0):=by unfold bN;rw[hc];simp[hk,hq,ht]
     rw[e];exact aCd l w p q (bD k a 0) k a (fO hk) (by simp[ht]) hS hE (c q (by simp) _ hq) (fun w h=>tD k a 0 w h)
    skip;have e:bN l=none:=by unfold bN;rw[hc];simp[hk,hq,ht]
    rw[e];exact aCf l w p q (bD k a 0) k a (fO hk) (by simp[ht]) hS hE (c q (by simp) _ hq) (fun w h=>tD k a 0 w h)
 ·rw[hc]at hS c;cases hk:iV p with
  |none=>
   obtain⟨n1,n2,n3,n4,n5⟩:=pP hk;have e:bN l=none:=by unfold bN;rw[hc];simp[hk]
   rw[e];exact yH l w p q r n1 n2 n3 n4 n5 hS hE
  |some k=>
   cases hq:dQ 4 q with
   |none=>
    have e:bN l=none:=by unfold bN;rw[hc];simp[hk,hq]
    rw[e];exact aEm l w p q r k (fO hk) hS hE (c q (by simp) _ hq)
   |some a=>
    cases hr:dQ 4 r with
    |none=>
     have e:bN l=none:=by unfold bN;rw[hc];simp[hk,hq,hr]
     rw[e];exact aEl l w p q r k a (fO hk) hS hE (c q (by simp) _ hq) (c r (by simp) _ hr)
    |some b=>
     by_cases ht:bD k a b=l
     ·skip;have e:bN l=some (k,a,b):=by unfold bN;rw[hc];simp[hk,hq,hr,ht]
      rw[e];exact aCc l w p q r (bD k a b) k a b (fO hk) (by simp[ht]) hS hE (c q (by simp) _ hq) (c r (by simp) _ hr) (fun w h=>tD k a b w h)
     skip;have e:bN l=none:=by unfold bN;rw[hc];simp[hk,hq,hr,ht]
     rw[e];exact aCe l w p q r (bD k a b) k a b (fO hk) (by simp[ht]) hS hE (c q (by simp) _ hq) (c r (by simp) _ hr) (fun w h=>tD k a b w h)
 rw[hc]at hS;have e:bN l=none:=by unfold bN;rw[hc]
 rw[e];exact sZ l w (p::q::r::x::rest) (by simp) (.inr (by simp)) hS hE
theorem qD (c:UInt8): ∀l:List UInt8,c∉l→gQ c l=l∧iH c l= []:=by
 intro l;induction l with
 |nil=>intro _;exact⟨rfl,rfl⟩
 |cons x xs ih=>
  intro h;have hx:x≠c:=fun q=>h (by simp[q])
  obtain⟨i1,i2⟩:=ih (fun q=>h (by simp[q]));simp[gQ,iH,hx,i1,i2]
theorem aEj (c:UInt8)(a b:List UInt8)(h:c∉a):Lib.index (a++c::b) [c]=a.length:=by
 rcases qX c (a++c::b)with⟨h1,h2,h3⟩|⟨i,h1,h2,h3,h4⟩
 ·exact absurd (by simp) h3
 have e:=aLc c (a++c::b);rw[h3,(iY c a b h).1]at e;simp only[aTx,aSy]at e;have:=congrArg List.length e;simp at this h2;rw[h1];omega
theorem aQe (c:UInt8)(l:List UInt8):(Lib.cut l [c]).1=gQ c l∧(Lib.cut l [c]).2.1=iH c l:=by
 by_cases h:c∈l
 ·obtain⟨a,b,rfl,ha⟩:=rD c l h;unfold Lib.cut;rw[aEj c a b ha,if_pos (by omega),(iY c a b ha).1,(iY c a b ha).2];simp
 have e:Lib.index l [c]= -1:=by
  rcases qX c l with⟨h1,_⟩|⟨i,h1,h2,h3,h4⟩
  ·exact h1
  exfalso;have e2:=lT c l h;rw[h3]at e2;have:=congrArg List.length e2;simp at this;exact absurd this (kS c _)
 unfold Lib.cut;rw[e,if_neg (by omega),(qD c l h).1,(qD c l h).2];exact⟨rfl,rfl⟩
theorem aOm (l:List UInt8)(c:UInt8)(w:World)(hs:l.length<4294967281)(hE:Env w):
  U 58 #[str l,.string ⟨#[c]⟩] w (O (.tuple #[str (gQ c l),str (iH c l),.bool (Lib.cut l [c]).2.2]) w):=by
 obtain⟨m,hm⟩:=hE.mx;refine(Tryz.strings_Cut ⟨l.toArray⟩ ⟨#[c]⟩ m w (by simpa[ByteArray.size]using hs) hm).mono ?_;rintro e w' ⟨rfl,n,rfl⟩;obtain⟨c1,c2⟩:=aQe c l;refine⟨?_,(Ext.refl _).drewN _⟩;show Ending.returned (.tuple #[.string ⟨(Lib.cut l [c]).1.toArray⟩,.string ⟨(Lib.cut l [c]).2.1.toArray⟩,.bool (Lib.cut l [c]).2.2])=_;rw[c1,c2]
/-! ### slices of structs -/
theorem Rd.at {α:Type}{f:α→List Value}{w:World}{b c n d sz:Nat}{xs:List α}(hf: ∀a,(f a).length=sz)(h:Rd w (.slice (some ⟨b,c,none⟩) n d) n sz (xs.flatMap f)){k:Nat}{a:α}(hk:xs[k]? =some a) (hn:xs.length=n) (j:Nat) (hj:j<sz):
  w.cell? ⟨b,c+k*sz+j,none⟩=(f a)[j]? :=by
 rcases h.2 with⟨h1,_⟩|⟨b',off',cap',h1,_,_,_,h2⟩
 ·simp at h1
 simp only[Value.slice.injEq,aSy,Addr.mk.injEq,and_true,true_and]at h1;obtain⟨⟨rfl,rfl⟩,rfl⟩:=h1;have e:k<n:=by rw[←hn];exact(aRk.1 hk).1
 have g:k*sz+j<n*sz:=by have:(k+1)*sz≤n*sz:=aT5 sz e;rw[aTn]at this;omega
 rw[Nat.add_assoc,h2 _ g,eM f sz hf xs k a hk j hj]
def nR (d:aJc):List Value:= [.int .i64 d.1,.int .i64 d.2.1,.int .i64 d.2.2]
abbrev RdDeeds (w:World)(v:Value)(ds:List aJc):Prop:=Rd w v ds.length 3 (ds.flatMap nR)
theorem RdDeeds.at {w:World}{b c n e:Nat}{ds:List aJc}(h:Rd w (.slice (some ⟨b,c,none⟩) n e) n 3 (ds.flatMap nR))(hn:ds.length=n){k:Nat}{d:aJc}(hk:ds[k]? =some d):
  w.cell? ⟨b,c+k*3,none⟩=some (I d.1)∧w.cell? ⟨b,c+k*3+1,none⟩=some (I d.2.1)∧w.cell? ⟨b,c+k*3+2,none⟩=some (I d.2.2):=
 ⟨h.at (f:=nR) (fun _=>rfl) hk hn 0 (by omega),h.at (f:=nR) (fun _=>rfl) hk hn 1 (by omega),h.at (f:=nR) (fun _=>rfl) hk hn 2 (by omega)⟩
/-! ### the text -/
/-! ### a builder while the world grows -/
theorem Ext.gb {w w':World}(h:Ext w w'):w.grownBy w' none:=⟨h.os,h.tape,h.output,h.size,fun k hk _=>h.block k hk⟩
theorem rP {T e:TypeId}{B b:Nat}{p:Value}{bs:List Value}{w w':World}(h:Lib.BuilderAtF T e B b p bs w)(hx:Ext w w'):Lib.BuilderAtF T e B b p bs w':=by have c:=h.lt;obtain⟨hB,v,hh,a,d⟩:=h;exact⟨hB,v,by rw[hx.block b c];exact hh,a.kept hx.gb (by cases v.ownBlock<;>simp),d⟩
theorem qG {T e:TypeId}{B b:Nat}{bs:List Value}{w w':World}(h:Lib.IsBuilderF T e B b bs w)(hx:Ext w w'):Lib.IsBuilderF T e B b bs w':=
 h.elim (fun q=> .inl (rP q hx)) (fun q=> .inr (rP q hx))
theorem iQ {w wr w':World}{B:Nat}(h:Ext w wr)(hb:Below B wr w')(hB:w.heap.size≤B):Ext w w':=Below.trans h (Below.mono hb hB)
theorem kR (a b:List UInt8):Lib.byteCells (a++b)=Lib.byteCells a++Lib.strCells ⟨b.toArray⟩:=by simp[Lib.byteCells,Lib.strCells]
section
open Go.Proofs.Tryz
def fG (x:Int):List UInt8:=if x=0 then [46]else Lib.decDigits x.toNat
def dE (aA:Int)(k:Nat):List UInt8:=if k=0 then []else if(k:Int)%aA=0 then [47]else [44]
def aU (aA:Int)(xs:List Int):Nat→List UInt8
 |0=> []
 |k+1=>aU aA xs k++dE aA k++fG (xs[k]?.getD 0)
def eF (aA aB:Int)(xs:List Int):List UInt8:=if aN aA aB xs then aU aA xs xs.length else []
theorem aFj (x:Int)(h:x≤99):(fG x).length≤21:=by
 unfold fG;split
 ·simp
 exact cM _ (by omega)
theorem nB (aA:Int)(xs:List Int)(h: ∀x∈xs,x≤99): ∀k,(aU aA xs k).length≤22*k:=by
 intro k;induction k with
 |zero=>simp[aU]
 |succ k ih=>
  have h1:(fG (xs[k]?.getD 0)).length≤21:=by
   refine aFj _ ?_;cases hx:xs[k]? with
   |none=>simp
   |some x=>exact h x (aRi hx)
  have h2:(dE aA k).length≤1:=by unfold dE;split;simp;split<;>simp
  simp only[aU,aRm];omega
theorem pW {aA:Int}{xs:List Int}{k:Nat}{x:Int}(h:xs[k]? =some x):aU aA xs (k+1)=aU aA xs k++dE aA k++fG x:=by simp[aU,h]
theorem iZ (a:List UInt8)(c:UInt8)(ci:Int)(hc:ci=(c.toNat:Int)):Lib.byteCells (a++ [c])=Lib.byteCells a++ [.int .u8 ci]:=by subst hc;simp[Lib.byteCells]
theorem uN (aA aB:Int)(p:OA)(n a:Nat)(w:World)(HV:xB 37 #[aH aA aB p n a] w false):
  U 33 #[aH aA aB p n a] w (O (str []) w):=by
 go_enter func33,ntmps33;go_wp2_with fail;refine Z (HV _ (by exact .alloc (.refl _) _)) fun w1 h1=>?_
 go_wp2;go_ret;exact⟨rfl,by exact .trans (.alloc (.refl _) _) h1⟩
theorem wJ (aA aB:Int)(p:OA)(n u:Nat)(xs:List Int)(w:World)(ad:Env w)(h0:2≤aA)(h1:aA≤4)(hn:n≤12)(hc: ∀x∈xs,0≤x∧x≤99)(HS:Hid (Sl w p n u 1 (ivs xs)))
  (HV:xB 37 #[aH aA aB p n u] w true):
  U 33 #[aH aA aB p n u] w (O (str (aU aA xs n)) w):=by
 have aa:=xQ ad;have HC:=xQ hc;clear ad hc;go_enter func33,ntmps33;go_wp2_with fail;refine Z (HV _ (by exact .alloc (.refl _) _)) fun w1 v=>?_
 have ai:(w:Nat)<w1:=aRf (by simp) v.sz;have ea:w1.cell? ⟨w,0,none⟩=some (I aA):=by rw[v.cells.1 _ _ (by simp)];simp
 have eb:w1.cell? ⟨w,2,none⟩=some (.slice p n u):=by rw[v.cells.1 _ _ (by simp)];simp
 have z:Ext w w1:=by exact .trans (.alloc (.refl _) _) v
 go_wp2;go_loopw [12] (fun i wr=> ∃(k:Nat),k≤n∧i=I k∧Lib.IsBuilderF 105 5 w1 w1 (Lib.byteCells (aU aA xs k)) wr∧Ext w1 wr∧w1.heap.size<wr.heap.size) (fun i _=>n-(intOf i).toNat)
 case atStart=>exact⟨0,aRo _,rfl,.inl ⟨aRg _,.slice none 0 0,by rw[heap_alloc_new],World.ownsRowF_nil _ _ _ _,by simp[Value.ownBlock]⟩,(Ext.refl _).alloc _,by simp⟩
 case round=>
  obtain⟨k,hk,rfl,af,hE,y⟩:=hrel;have s:=xQ af;clear af;have ae:Ext w wr:=z.trans hE;have ak:wr.cell? ⟨w,0,none⟩=some (I aA):=(hE.cells.1 _ _ ai).trans ea;have o:(Lib.byteCells (aU aA xs k)).length≤300:=by have:=nB aA xs (fun x hx=>(HC x hx).2) k;simp[Lib.byteCells];omega
  by_cases hlt:k<n
  ·obtain⟨b,am,x,rfl,hx,al,ah⟩:=(HS.out.ext ae).int_at hlt;obtain⟨ab,aj⟩:=HC x (aRi hx);have HX:=xQ hx;clear hx;have j:=xQ (pW (aA:=aA) HX.out);by_cases hk0:k=0
   ·have k1:((k:Int)==0)=true:=by simp[hk0]
    have c:Hid (dE aA k= []):=by show _=_;simp[dE,hk0]
    clear hk0;by_cases hz:x=0
    ·have z1:(x==0)=true:=by simp[hz]
     have a:Hid (aU aA xs (k+1)=aU aA xs k++ [46]):=by show _=_;rw[j.out,c.out,aS6];simp[fG,hz]
     clear hz;go_wp2_with fail;refine(lD w1 w1 (Lib.byteCells (aU aA xs k)) 46 _ s (by simp[Lib.byteCells]at o⊢;omega) (by omega)).mono ?_;rintro e w3 ⟨rfl,h2,h3,_⟩;have d:Hid (Lib.IsBuilderF 105 5 w1 w1 (Lib.byteCells (aU aA xs (k+1))) w3):=by rw[a.out,iZ _ 46 46 rfl];exact .inr h2
     have g:Ext w1 w3:=iQ hE h3 (aRg _);have h:(w1:Nat)<w3:=aRf y h3.size;clear h2 h3;go_wp2;go_roundw
     case rel=>exact⟨k+1,by omega,by go_num,d.out,g,h⟩
     case measure=>simp[intOf];omega
    have z1:(x==0)=false:=by simp[hz]
    have a:Hid (aU aA xs (k+1)=aU aA xs k++Lib.decDigits x.toNat):=by show _=_;rw[j.out,c.out,aS6];simp[fG,hz]
    clear hz;have ag:(Lib.decDigits x.toNat).length≤21:=cM _ (by omega);go_wp2_with fail;refine Z (pA x _ ab (by omega) (aa.out.ext (z.trans hE))) fun w3 f=>?_
    have q:=xQ (qG s f);have m:(w1:Nat)<w3:=aRf y f.sz;go_wp2_with fail;refine(nE w1 w1 (Lib.byteCells (aU aA xs k)) _ _ q (by simp[Lib.byteCells,ByteArray.size]at o⊢;omega) (by omega)).mono ?_;rintro e w4 ⟨rfl,h2,h3,_⟩;have d:Hid (Lib.IsBuilderF 105 5 w1 w1 (Lib.byteCells (aU aA xs (k+1))) w4):=by rw[a.out,kR];exact .inr h2
    have g:Ext w1 w4:=iQ (Ext.trans hE f) h3 (aRg _);have h:(w1:Nat)<w4:=aRf m h3.size;clear h2 h3;go_wp2;go_roundw
    case rel=>exact⟨k+1,by omega,by go_num,d.out,g,h⟩
    case measure=>simp[intOf];omega
   have k1:((k:Int)==0)=false:=by simp;omega
   by_cases hm:(k:Int)%aA=0
   ·have k2:((k:Int)%aA==0)=true:=by simp[hm]
    have c:Hid (dE aA k= [47]):=by show _=_;simp[dE,hk0,hm]
    clear hk0 hm;go_wp2_with fail;refine(lD w1 w1 (Lib.byteCells (aU aA xs k)) 47 _ s (by omega) (by omega)).mono ?_;rintro e w2 ⟨rfl,h2,h3,_⟩;have r:Hid (Lib.IsBuilderF 105 5 w1 w1 (Lib.byteCells (aU aA xs k++ [47])) w2):=by rw[iZ _ 47 47 rfl];exact .inr h2
    have l:Ext w1 w2:=iQ hE h3 (aRg _);have t:(w1:Nat)<w2:=aRf y h3.size;clear h2 h3;by_cases hz:x=0
    ·have z1:(x==0)=true:=by simp[hz]
     have a:Hid (aU aA xs (k+1)=aU aA xs k++ [47]++ [46]):=by show _=_;rw[j.out,c.out];simp[fG,hz]
     clear hz;go_wp2_with fail;refine(lD w1 w1 (Lib.byteCells (aU aA xs k++ [47])) 46 _ r (by simp[Lib.byteCells]at o⊢;omega) (by omega)).mono ?_;rintro e w3 ⟨rfl,h2,h3,_⟩;have d:Hid (Lib.IsBuilderF 105 5 w1 w1 (Lib.byteCells (aU aA xs (k+1))) w3):=by rw[a.out,iZ _ 46 46 rfl];exact .inr h2
     have g:Ext w1 w3:=iQ l h3 (aRg _);have h:(w1:Nat)<w3:=aRf t h3.size;clear h2 h3;go_wp2;go_roundw
     case rel=>exact⟨k+1,by omega,by go_num,d.out,g,h⟩
     case measure=>simp[intOf];omega
    have z1:(x==0)=false:=by simp[hz]
    have a:Hid (aU aA xs (k+1)=aU aA xs k++ [47]++Lib.decDigits x.toNat):=by show _=_;rw[j.out,c.out];simp[fG,hz]
    clear hz;have ag:(Lib.decDigits x.toNat).length≤21:=cM _ (by omega);go_wp2_with fail;refine Z (pA x _ ab (by omega) (aa.out.ext (z.trans l))) fun w3 f=>?_
    have q:=xQ (qG r f);have m:(w1:Nat)<w3:=aRf t f.sz;go_wp2_with fail;refine(nE w1 w1 (Lib.byteCells (aU aA xs k++ [47])) _ _ q (by simp[Lib.byteCells,ByteArray.size]at o⊢;omega) (by omega)).mono ?_;rintro e w4 ⟨rfl,h2,h3,_⟩;have d:Hid (Lib.IsBuilderF 105 5 w1 w1 (Lib.byteCells (aU aA xs (k+1))) w4):=by rw[a.out,kR];exact .inr h2
    have g:Ext w1 w4:=iQ (Ext.trans l f) h3 (aRg _);have h:(w1:Nat)<w4:=aRf m h3.size;clear h2 h3;go_wp2;go_roundw
    case rel=>exact⟨k+1,by omega,by go_num,d.out,g,h⟩
    case measure=>simp[intOf];omega
   have k2:((k:Int)%aA==0)=false:=by simp[hm]
   have c:Hid (dE aA k= [44]):=by show _=_;simp[dE,hk0,hm]
   clear hk0 hm;go_wp2_with fail;refine(lD w1 w1 (Lib.byteCells (aU aA xs k)) 44 _ s (by omega) (by omega)).mono ?_;rintro e w2 ⟨rfl,h2,h3,_⟩;have r:Hid (Lib.IsBuilderF 105 5 w1 w1 (Lib.byteCells (aU aA xs k++ [44])) w2):=by rw[iZ _ 44 44 rfl];exact .inr h2
   have l:Ext w1 w2:=iQ hE h3 (aRg _);have t:(w1:Nat)<w2:=aRf y h3.size;clear h2 h3;by_cases hz:x=0
   ·have z1:(x==0)=true:=by simp[hz]
    have a:Hid (aU aA xs (k+1)=aU aA xs k++ [44]++ [46]):=by show _=_;rw[j.out,c.out];simp[fG,hz]
    clear hz;go_wp2_with fail;refine(lD w1 w1 (Lib.byteCells (aU aA xs k++ [44])) 46 _ r (by simp[Lib.byteCells]at o⊢;omega) (by omega)).mono ?_;rintro e w3 ⟨rfl,h2,h3,_⟩;have d:Hid (Lib.IsBuilderF 105 5 w1 w1 (Lib.byteCells (aU aA xs (k+1))) w3):=by rw[a.out,iZ _ 46 46 rfl];exact .inr h2
    have g:Ext w1 w3:=iQ l h3 (aRg _);have h:(w1:Nat)<w3:=aRf t h3.size;clear h2 h3;go_wp2;go_roundw
    case rel=>exact⟨k+1,by omega,by go_num,d.out,g,h⟩
    case measure=>simp[intOf];omega
   have z1:(x==0)=false:=by simp[hz]
   have a:Hid (aU aA xs (k+1)=aU aA xs k++ [44]++Lib.decDigits x.toNat):=by show _=_;rw[j.out,c.out];simp[fG,hz]
   clear hz;have ag:(Lib.decDigits x.toNat).length≤21:=cM _ (by omega);go_wp2_with fail;refine Z (pA x _ ab (by omega) (aa.out.ext (z.trans l))) fun w3 f=>?_
   have q:=xQ (qG r f);have m:(w1:Nat)<w3:=aRf t f.sz;go_wp2_with fail;refine(nE w1 w1 (Lib.byteCells (aU aA xs k++ [44])) _ _ q (by simp[Lib.byteCells,ByteArray.size]at o⊢;omega) (by omega)).mono ?_;rintro e w4 ⟨rfl,h2,h3,_⟩;have d:Hid (Lib.IsBuilderF 105 5 w1 w1 (Lib.byteCells (aU aA xs (k+1))) w4):=by rw[a.out,kR];exact .inr h2
   have g:Ext w1 w4:=iQ (Ext.trans l f) h3 (aRg _);have h:(w1:Nat)<w4:=aRf m h3.size;clear h2 h3;go_wp2;go_roundw
   case rel=>exact⟨k+1,by omega,by go_num,d.out,g,h⟩
   case measure=>simp[intOf];omega
  obtain rfl:k=n:=by omega
  go_wp2_with fail;refine(Tryz.Builder_String_any_f w1 w1 (aU aA xs k) _ s (by omega)).mono ?_;rintro e w2 ⟨rfl,h2,h3⟩;have l:Ext w w2:=iQ ae h3 (by omega);clear h2 h3;go_wp2;go_ret;exact⟨rfl,l⟩
end
end Go.Proofs.YtomgkjinhnkpnaaGreatDoor
